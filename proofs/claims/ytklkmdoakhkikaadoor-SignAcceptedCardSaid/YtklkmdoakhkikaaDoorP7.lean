/- Contracts by the engine: the reference implementation's valid sets; sets that are few. Conditions: lengths that Go allows. -/
import Derived.Test.YtklkmdoakhkikaaDoorP6
namespace Go.Proofs.YtklkmdoakhkikaaDoor.P
open Go Go.Eng
set_option maxRecDepth 100000
set_option maxHeartbeats 4000000

theorem setOK_alt (s : RSet) : setOK s = (Nm.valid s.name && (decide (1 ≤ s.type) && decide (s.type ≤ 8)) && (decide (0 ≤ s.life) && decide (s.life ≤ 100000)) && (decide (1 ≤ (s.data.length : Int)) && decide ((s.data.length : Int) ≤ 8)) &&
    !((s.type == 3 || s.type == 4) && decide ((s.data.length : Int) > 1)) && !(Nm.wild s.name && (s.type != 1 && s.type != 5 && s.type != 8)) && dataB (ruleOf s.type.toNat) none s.data) := by
  by_cases ht : 1 ≤ s.type ∧ s.type ≤ 8
  · by_cases hn : 1 ≤ (s.data.length : Int)
    · obtain ⟨t, ht'⟩ := Int.eq_ofNat_of_zero_le (a := s.type) (by omega)
      have h8 : 1 ≤ t ∧ t ≤ 8 := by omega
      have e1 := ruleOf_single h8
      have e2 := ruleOf_wild h8
      have e3 : ((s.data.length : Int) != 1) = decide ((s.data.length : Int) > 1) := by
        rw [Bool.eq_iff_iff]; simp; omega
      simp only [setOK, ht', Int.toNat_natCast, e1, e2, e3]
    · simp [setOK, hn]
  · simp only [setOK]
    have : (decide (1 ≤ s.type) && decide (s.type ≤ 8)) = false := by
      rw [Bool.and_eq_false_iff]; simp; omega
    simp only [this, Bool.and_false, Bool.false_and]

theorem rdatum_q (k : Int) (d : Datum) (hk : 1 ≤ k ∧ k ≤ 8) (hd : d.text.length ≤ maxLen) : PCalls E 36 [.int .i64 k, d.enc] (· = .bool (datumOK (ruleOf k.toNat) d)) := by
  obtain ⟨t, rfl⟩ := Int.eq_ofNat_of_zero_le (a := k) (by omega)
  rw [Int.toNat_natCast]
  exact rdatum_p t d (by omega) hd

set_option linter.unusedSimpArgs false in
theorem rsetOK_p (s : RSet) (hf : s.Fits) : PCalls E 13 [s.enc] (· = .bool (setOK s)) := by
  rw [setOK_alt]
  refine PCalls.run E_ok (fn := Tryd.f13) Tryd.func13 (body := Tryd.f13.body.getD .skip) rfl (by decide) 2000 ?_
  conv => whnf
  repeat' (first | with_reducible refine callP_eq (rvalid_p _ hf.name) ?_ | with_reducible refine callP1_eq (rvalid_p _ hf.name) ?_ | with_reducible refine callP_eq (rwithin_p _ _ _) ?_ | with_reducible refine callP1_eq (rwithin_p _ _ _) ?_ | with_reducible refine callP_eq (rsingle_p _) ?_ | with_reducible refine callP1_eq (rsingle_p _) ?_ | with_reducible refine callP_eq (rwild_p _ hf.name) ?_ | with_reducible refine callP1_eq (rwild_p _ hf.name) ?_ | with_reducible refine caseB_true ?_ | with_reducible refine caseB_false ?_ | with_reducible refine caseB_yes (by decide) ?_ | with_reducible refine caseB_no (by decide) ?_ | with_reducible refine caseB_split (fun _ => ?_) (fun _ => ?_) | ((conv => whnf); (with_reducible refine AWL.run E_ok Tryd.func13 2000 ?_); (conv => whnf); fail_if_success (with_reducible refine AWL.of ?_)) | ((conv => whnf); (with_reducible refine DWL.run E_ok 2000 ?_); (conv => whnf); fail_if_success (with_reducible refine DWL.is ?_)) | ((conv => whnf); (with_reducible refine SWL.run E_ok 2000 ?_); (conv => whnf); fail_if_success (with_reducible refine SWL.is ?_)))
  all_goals try simp only [List.length_map] at *
  all_goals try (simp only [Bool.not_eq_true', Bool.not_eq_false'] at *; simp only [*, Bool.false_and, Bool.and_false, Bool.true_and, Bool.not_true, Bool.not_false, Bool.and_true, Bool.and_self]; done)
  all_goals
    have hfin : ∀ {a b c d e f : Bool}, (!a) = false → (!b) = false → (!c) = false → (!d) = false → e = false → f = false → ∀ g : Bool, (a && b && c && d && !e && !f && g) = g := fun h1 h2 h3 h4 h5 h6 g => by
      simp_all
    have hty : 1 ≤ s.type ∧ s.type ≤ 8 := by simp_all
    have hl : s.data.length ≤ 8 := by simp_all <;> omega
    rw [hfin (by assumption) (by assumption) (by assumption) (by assumption) (by simp_all <;> omega) (by simp_all) _]
    clear hfin
    conv => whnf
    refine AWL.run E_ok Tryd.func13 2000 ?_
    conv => whnf
    refine AWL.loop (κ := Nat) [2, 4, 56, 57, 58, 59, 60, 61, 62, 63, 64, 65, 66, 67, 68, 69, 70, 71, 72, 73, 74, 75, 76, 77, 78, 79, 80, 81, 82, 83, 84, 85, 86, 87, 88] (fun k => [(4, .d (.int .i64 k))]) (fun _ => []) (fun k => k ≤ s.data.length ∧ dataB (ruleOf s.type.toNat) none s.data = dataB (ruleOf s.type.toNat) (prevD s.data k) (s.data.drop k)) (fun k => s.data.length - k) 0 ⟨Nat.zero_le _, rfl⟩ ?_ ?_
    · conv => whnf
      repeat (first | exact trivial | (refine And.intro (by first | with_reducible rfl | exact congrArg (DV.int .i64) (by omega) | exact congrArg (DV.int .i64) (wrap64 (by omega) (by omega)) | exact congrArg (DV.int .i64) ((wrap64 (by omega) (by omega)).trans (by omega))) ?_; conv => whnf))
    · intro k hk IH
      refine AWL.head E_ok Tryd.func13 2000 ?_
      conv => whnf
      refine caseB_split (fun h5 => ?_) (fun h5 => ?_)
      · have hlt : k < s.data.length := by simpa using h5
        obtain ⟨d, hd⟩ := some_of_lt hlt
        have hnext := dataB_next (r := ruleOf s.type.toNat) hd
        rw [← hk.2] at hnext
        conv => whnf
        refine AWL.run E_ok Tryd.func13 2000 ?_
        conv => whnf
        refine AWL.draw E_ok E_mixed 28 2000 (by kernel_rfl) ?_
        conv => whnf
        refine elemP_intro d.enc (by omega) (elem_map hd) rfl ?_
        conv => whnf
        refine DWL.run E_ok 2000 ?_
        conv => whnf
        with_reducible refine callP1_eq (rdatum_q _ d hty (hf.texts d (List.mem_of_getElem? hd))) ?_
        conv => whnf
        refine DWL.run E_ok 2000 ?_
        conv => whnf
        refine caseB_split (fun h6 => ?_) (fun h6 => ?_)
        · conv => whnf
          refine DWL.run E_ok 2000 ?_
          conv => whnf
          conv => whnf
          refine SWL.run E_ok 2000 ?_
          conv => whnf
          conv => whnf
          refine AWL.run E_ok Tryd.func13 2000 ?_
          conv => whnf
          refine caseB_true ?_
          conv => whnf
          refine AWL.run E_ok Tryd.func13 2000 ?_
          conv => whnf
          rw [Bool.not_eq_true'] at h6
          rw [hnext, h6, Bool.false_and, Bool.false_and]
        · rw [Bool.not_eq_false'] at h6
          conv => whnf
          refine DWL.run E_ok 2000 ?_
          conv => whnf
          refine caseB_split (fun h7 => ?_) (fun h7 => ?_)
          · have hk0 : 0 < k := by simpa using h7
            obtain ⟨e, he⟩ := some_of_lt (l := s.data) (k := k - 1) (by omega)
            have hw : IntKind.i64.wrap ((k : Int) - 1) = ((k - 1 : Nat) : Int) := by rw [wrap64 (by omega) (by omega)]; omega
            have hpr : prevD s.data k = some e := by simp [prevD, he]; omega
            conv => whnf
            refine DWL.run E_ok 2000 ?_
            conv => whnf
            rw [hw]
            refine elemP_intro e.enc (by omega) (elem_map he) rfl ?_
            conv => whnf
            refine DWL.run E_ok 2000 ?_
            conv => whnf
            refine elemP_intro d.enc (by omega) (elem_map hd) rfl ?_
            conv => whnf
            refine DWL.run E_ok 2000 ?_
            conv => whnf
            with_reducible refine callP1_eq (rless_p _ _) ?_
            conv => whnf
            refine DWL.run E_ok 2000 ?_
            conv => whnf
            rw [lessD_cmp]
            conv => whnf
            refine SWL.run E_ok 2000 ?_
            conv => whnf
            conv => whnf
            refine AWL.run E_ok Tryd.func13 2000 ?_
            conv => whnf
            refine caseB_split (fun h8 => ?_) (fun h8 => ?_)
            · conv => whnf
              refine AWL.run E_ok Tryd.func13 2000 ?_
              conv => whnf
              have : decide (cmpD e d < 0) = false := by simpa using h8
              rw [hnext, hpr]; dsimp only; rw [this, Bool.and_false, Bool.false_and]
            · conv => whnf
              refine AWL.run E_ok Tryd.func13 2000 ?_
              conv => whnf
              have : decide (cmpD e d < 0) = true := by simpa using h8
              refine AWL.back (IH (k + 1) ⟨by omega, by rw [hnext, hpr]; dsimp only; rw [this, h6]; rfl⟩ (by omega)) ?_
              conv => whnf
              repeat (first | exact trivial | (refine And.intro (by first | with_reducible rfl | exact congrArg (DV.int .i64) (by omega) | exact congrArg (DV.int .i64) (wrap64 (by omega) (by omega)) | exact congrArg (DV.int .i64) ((wrap64 (by omega) (by omega)).trans (by omega))) ?_; conv => whnf))
          · have hk0 : k = 0 := by simp at h7; omega
            have hpr : prevD s.data k = none := by simp [prevD, hk0]
            conv => whnf
            refine DWL.run E_ok 2000 ?_
            conv => whnf
            conv => whnf
            refine SWL.run E_ok 2000 ?_
            conv => whnf
            conv => whnf
            refine AWL.run E_ok Tryd.func13 2000 ?_
            conv => whnf
            refine caseB_false ?_
            conv => whnf
            refine AWL.run E_ok Tryd.func13 2000 ?_
            conv => whnf
            refine AWL.back (IH (k + 1) ⟨by omega, by rw [hnext, hpr, h6]; rfl⟩ (by omega)) ?_
            conv => whnf
            repeat (first | exact trivial | (refine And.intro (by first | with_reducible rfl | exact congrArg (DV.int .i64) (by omega) | exact congrArg (DV.int .i64) (wrap64 (by omega) (by omega)) | exact congrArg (DV.int .i64) ((wrap64 (by omega) (by omega)).trans (by omega))) ?_; conv => whnf))
      · have hge : s.data.length ≤ k := by simpa using h5
        conv => whnf
        refine AWL.run E_ok Tryd.func13 2000 ?_
        conv => whnf
        rw [hk.2, List.drop_of_length_le hge]
        rfl

end Go.Proofs.YtklkmdoakhkikaaDoor.P
