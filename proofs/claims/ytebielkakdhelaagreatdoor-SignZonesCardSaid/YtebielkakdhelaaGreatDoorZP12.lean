/- Contracts by the engine: the reference implementation's zones, second part. Conditions: lengths that Go allows. -/
import Derived.Test.YtebielkakdhelaaGreatDoorZP11
set_option linter.unusedVariables false
set_option linter.unusedSimpArgs false
namespace Go.Proofs.YtebielkakdhelaaGreatDoor.P
open Go Go.Eng
set_option maxRecDepth 100000
set_option maxHeartbeats 4000000

/-- A set with few data and signatures. -/
def few1 (s : Signed) : Bool := !(decide ((s.set.data.length : Int) > 20)) && !(decide ((s.sigs.length : Int) > 20))
/-- A zone that is small. -/
def fewZ (z : Zone) : Bool := (z.sets.take 101).all few1 && decide ((z.sets.length : Int) ≤ 100)
theorem rfewZ_p (z : Zone) : PCalls E 11 [z.enc] (· = .bool (fewZ z)) := by
  obtain ⟨apex, l⟩ := z
  unfold fewZ
  simp only
  refine PCalls.run E_ok (fn := Tryz.f11) Tryz.func11 (body := Tryz.f11.body.getD .skip) rfl (by decide) 2000 ?_
  conv => whnf
  refine AWL.loop (κ := Nat) [2, 3, 4, 5, 6, 7, 8, 9, 10, 11, 12, 13, 14, 15, 16, 17, 18, 19, 20, 21, 22, 23, 24, 25, 26, 27, 28, 29, 30, 31, 32, 33] (fun k => [(3, .d (.int .i64 k))]) (fun _ => []) (fun k => k ≤ l.length ∧ k ≤ 101 ∧ (l.take k).all few1 = true) (fun k => l.length - k) 0 ⟨Nat.zero_le _, by omega, rfl⟩ ?_ ?_
  · conv => whnf
    repeat (first | exact trivial | (refine And.intro (by first | with_reducible rfl | exact congrArg (DV.int .i64) (by omega) | exact congrArg (DV.int .i64) (wrap64 (by omega) (by omega)) | exact congrArg (DV.int .i64) ((wrap64 (by omega) (by omega)).trans (by omega))) ?_; conv => whnf))
  · intro k hk IH
    refine AWL.head E_ok Tryz.func11 2000 ?_
    conv => whnf
    refine caseB_split (fun h5 => ?_) (fun h5 => ?_)
    · have hlt : k < l.length := by simpa using h5
      obtain ⟨x, hx⟩ := some_of_lt hlt
      conv => whnf
      refine AWL.run E_ok Tryz.func11 2000 ?_
      conv => whnf
      refine caseB_split (fun h6 => ?_) (fun h6 => ?_)
      · have h100 : k ≤ 100 := by simp at h6; omega
        have hx' : (l.take 101)[k]? = some x := by rw [List.getElem?_take, if_pos (by omega)]; exact hx
        conv => whnf
        refine AWL.run E_ok Tryz.func11 2000 ?_
        conv => whnf
        repeat' (first | with_reducible refine elemP_at (at_map hx) rfl ?_ | with_reducible refine caseB_true ?_ | with_reducible refine caseB_false ?_ | with_reducible refine caseB_yes (by decide) ?_ | with_reducible refine caseB_no (by decide) ?_ | with_reducible refine caseB_yes (by assumption) ?_ | with_reducible refine caseB_no (by assumption) ?_ | with_reducible refine caseB_split (fun _ => ?_) (fun _ => ?_) | ((conv => whnf); (with_reducible refine AWL.run E_ok Tryz.func11 2000 ?_); (conv => whnf); fail_if_success (with_reducible refine AWL.of ?_)) | ((conv => whnf); (with_reducible refine DWL.run E_ok 2000 ?_); (conv => whnf); fail_if_success (with_reducible refine DWL.is ?_)) | ((conv => whnf); (with_reducible refine SWL.run E_ok 2000 ?_); (conv => whnf); fail_if_success (with_reducible refine SWL.is ?_)))
        all_goals first
          | (rw [all_no hx' (by simp_all [few1]), Bool.false_and]; done)
          | skip
        all_goals
          conv => whnf
          refine AWL.run E_ok Tryz.func11 2000 ?_
          conv => whnf
          refine AWL.back (IH (k + 1) ⟨by omega, by omega, all_next hk.2.2 hx (by simp_all [few1])⟩ (by omega)) ?_
          conv => whnf
          repeat (first | exact trivial | (refine And.intro (by first | with_reducible rfl | exact congrArg (DV.int .i64) (by omega) | exact congrArg (DV.int .i64) (wrap64 (by omega) (by omega)) | exact congrArg (DV.int .i64) ((wrap64 (by omega) (by omega)).trans (by omega))) ?_; conv => whnf))
      · have h100 : k = 101 := by simp at h6; omega
        subst h100
        conv => whnf
        refine AWL.run E_ok Tryz.func11 2000 ?_
        conv => whnf
        rw [hk.2.2, Bool.true_and]
        simp
    · have hge : k = l.length := by simp at h5; omega
      conv => whnf
      refine AWL.run E_ok Tryz.func11 2000 ?_
      conv => whnf
      refine caseB_false ?_
      conv => whnf
      refine AWL.run E_ok Tryz.func11 2000 ?_
      conv => whnf
      rw [show (l.take 101).all few1 = true by rw [List.take_of_length_le (by omega)]; exact all_end hk.2.2 (by omega), Bool.true_and]
      simp

/-- The apex has what it needs, and all stands where it may. -/
def twoB (z : Zone) : Bool := !(decide (atI z.sets ⟨z.apex, 4⟩ < 0)) && !(decide (atI z.sets ⟨z.apex, 2⟩ < 0)) && z.sets.all fun s => placedB s.set.type (s.set.name == z.apex)
theorem rtwo_p (z : Zone) (hl : z.sets.length ≤ 2147483648) : PCalls E 48 [z.enc] (· = .bool (twoB z)) := by
  obtain ⟨apex, l⟩ := z
  simp only at hl
  have h1 := rat_p ⟨apex, l⟩ ⟨apex, 4⟩ hl
  have h2 := rat_p ⟨apex, l⟩ ⟨apex, 2⟩ hl
  refine PCalls.run E_ok (fn := Tryz.f48) Tryz.func48 (body := Tryz.f48.body.getD .skip) rfl (by decide) 2000 ?_
  conv => whnf
  repeat' (first | with_reducible refine callP_eq (h1) ?_ | with_reducible refine callP1_eq (h1) ?_ | with_reducible refine callP_eq (h2) ?_ | with_reducible refine callP1_eq (h2) ?_ | with_reducible refine caseB_true ?_ | with_reducible refine caseB_false ?_ | with_reducible refine caseB_yes (by decide) ?_ | with_reducible refine caseB_no (by decide) ?_ | with_reducible refine caseB_yes (by assumption) ?_ | with_reducible refine caseB_no (by assumption) ?_ | with_reducible refine caseB_split (fun _ => ?_) (fun _ => ?_) | ((conv => whnf); (with_reducible refine AWL.run E_ok Tryz.func48 2000 ?_); (conv => whnf); fail_if_success (with_reducible refine AWL.of ?_)) | ((conv => whnf); (with_reducible refine DWL.run E_ok 2000 ?_); (conv => whnf); fail_if_success (with_reducible refine DWL.is ?_)) | ((conv => whnf); (with_reducible refine SWL.run E_ok 2000 ?_); (conv => whnf); fail_if_success (with_reducible refine SWL.is ?_)))
  all_goals try (simp_all [twoB]; done)
  all_goals
    rename_i h3 h4
    simp only [twoB, h3, h4, Bool.not_false, Bool.true_and]
    conv => whnf
    refine AWL.run E_ok Tryz.func48 2000 ?_
    conv => whnf
    refine AWL.loop (κ := Nat) [2, 3, 18, 19, 20, 21, 22, 23, 24, 25, 26, 27, 28, 29, 30, 31, 32, 33, 34, 35, 36, 37, 38, 39, 40, 41, 42, 43] (fun k => [(3, .d (.int .i64 k))]) (fun _ => []) (fun k => k ≤ l.length ∧ (l.take k).all (fun s => placedB s.set.type (s.set.name == apex)) = true) (fun k => l.length - k) 0 ⟨Nat.zero_le _, rfl⟩ ?_ ?_
    · conv => whnf
      repeat (first | exact trivial | (refine And.intro (by first | with_reducible rfl | exact congrArg (DV.int .i64) (by omega) | exact congrArg (DV.int .i64) (wrap64 (by omega) (by omega)) | exact congrArg (DV.int .i64) ((wrap64 (by omega) (by omega)).trans (by omega))) ?_; conv => whnf))
    · intro k hk IH
      refine AWL.head E_ok Tryz.func48 2000 ?_
      conv => whnf
      refine caseB_split (fun h5 => ?_) (fun h5 => ?_)
      · have hlt : k < l.length := by simpa using h5
        obtain ⟨x, hx⟩ := some_of_lt hlt
        conv => whnf
        refine AWL.run E_ok Tryz.func48 2000 ?_
        conv => whnf
        refine AWL.draw E_ok E_mixed 19 2000 (by kernel_rfl) ?_
        conv => whnf
        repeat' (first | with_reducible refine elemP_at (at_map hx) rfl ?_ | with_reducible refine callP_eq (rplaced_p _ _) ?_ | with_reducible refine callP1_eq (rplaced_p _ _) ?_ | with_reducible refine caseB_true ?_ | with_reducible refine caseB_false ?_ | with_reducible refine caseB_yes (by decide) ?_ | with_reducible refine caseB_no (by decide) ?_ | with_reducible refine caseB_yes (by assumption) ?_ | with_reducible refine caseB_no (by assumption) ?_ | with_reducible refine caseB_split (fun _ => ?_) (fun _ => ?_) | ((conv => whnf); (with_reducible refine AWL.run E_ok Tryz.func48 2000 ?_); (conv => whnf); fail_if_success (with_reducible refine AWL.of ?_)) | ((conv => whnf); (with_reducible refine DWL.run E_ok 2000 ?_); (conv => whnf); fail_if_success (with_reducible refine DWL.is ?_)) | ((conv => whnf); (with_reducible refine SWL.run E_ok 2000 ?_); (conv => whnf); fail_if_success (with_reducible refine SWL.is ?_)))
        all_goals first
          | (rw [all_no hx (by simp_all)]; done)
          | skip
        all_goals
          conv => whnf
          refine AWL.run E_ok Tryz.func48 2000 ?_
          conv => whnf
          refine AWL.back (IH (k + 1) ⟨by omega, all_next hk.2 hx (by simp_all)⟩ (by omega)) ?_
          conv => whnf
          repeat (first | exact trivial | (refine And.intro (by first | with_reducible rfl | exact congrArg (DV.int .i64) (by omega) | exact congrArg (DV.int .i64) (wrap64 (by omega) (by omega)) | exact congrArg (DV.int .i64) ((wrap64 (by omega) (by omega)).trans (by omega))) ?_; conv => whnf))
      · have hge : l.length ≤ k := by simpa using h5
        conv => whnf
        refine AWL.run E_ok Tryz.func48 2000 ?_
        conv => whnf
        rw [all_end hk.2 hge]

/-- Aliases stand beside next alone. -/
def threeL : Text → Option Text → List Signed → Bool
  | _, _, [] => true
  | al, p, s :: l => (match p with
      | none => true
      | some n => if n == s.set.name then !((s.set.name != [] && s.set.type == 3) || (s.set.name != [] && (s.set.name == if s.set.type == 3 then s.set.name else al) && s.set.type != 3 && s.set.type != 8)) else true)
    && threeL (if s.set.type == 3 then s.set.name else al) (some s.set.name) l
theorem threeL_next {al : Text} {l : List Signed} {k : Nat} {x : Signed} (hx : l[k]? = some x) : threeL al (prevA (l.map (·.set.name)) k) (l.drop k) = ((match prevA (l.map (·.set.name)) k with
      | none => true
      | some n => if n == x.set.name then !((x.set.name != [] && x.set.type == 3) || (x.set.name != [] && (x.set.name == if x.set.type == 3 then x.set.name else al) && x.set.type != 3 && x.set.type != 8)) else true)
    && threeL (if x.set.type == 3 then x.set.name else al) (prevA (l.map (·.set.name)) (k + 1)) (l.drop (k + 1))) := by
  have hk := lt_of_getElem? hx
  rw [List.drop_eq_getElem_cons hk]
  have e1 : l[k] = x := by simpa [hk] using hx
  have e2 : prevA (l.map (·.set.name)) (k + 1) = some x.set.name := by simp [prevA, hx]
  rw [e1, e2]
  rfl
theorem rthree_p (z : Zone) (hl : z.sets.length ≤ 2147483648) : PCalls E 49 [z.enc] (· = .bool (threeL [] none z.sets)) := by
  obtain ⟨apex, l⟩ := z
  simp only at hl ⊢
  refine PCalls.run E_ok (fn := Tryz.f49) Tryz.func49 (body := Tryz.f49.body.getD .skip) rfl (by decide) 2000 ?_
  conv => whnf
  refine AWL.loop (κ := Nat × Text) [2, 3, 4, 5, 6, 7, 8, 9, 10, 11, 12, 13, 14, 15, 16, 17, 18, 19, 20, 21, 22, 23, 24, 25, 26, 27, 28, 29, 30, 31, 32, 33, 34, 35, 36, 37, 38, 39, 40, 41, 42, 43, 44, 45, 46, 47, 48, 49, 50, 51, 52, 53, 54, 55, 56, 57, 58, 59, 60, 61, 62, 63, 64, 65, 66, 67, 68, 69, 70, 71, 72, 73, 74, 75, 76, 77, 78, 79, 80, 81, 82, 83, 84, 85] (fun k => [(4, .d (.int .i64 k.1)), (3, .d (.str k.2))]) (fun _ => []) (fun k => k.1 ≤ l.length ∧ threeL [] none l = threeL k.2 (prevA (l.map (·.set.name)) k.1) (l.drop k.1)) (fun k => l.length - k.1) (0, []) ⟨Nat.zero_le _, rfl⟩ ?_ ?_
  · conv => whnf
    repeat (first | exact trivial | (refine And.intro (by first | with_reducible rfl | exact congrArg (DV.int .i64) (by omega) | exact congrArg (DV.int .i64) (wrap64 (by omega) (by omega)) | exact congrArg (DV.int .i64) ((wrap64 (by omega) (by omega)).trans (by omega))) ?_; conv => whnf))
  · rintro ⟨k, al⟩ hk IH
    simp only at hk
    refine AWL.head E_ok Tryz.func49 2000 ?_
    conv => whnf
    refine caseB_split (fun h5 => ?_) (fun h5 => ?_)
    · have hlt : k < l.length := by simpa using h5
      obtain ⟨x, hx⟩ := some_of_lt hlt
      have hnext := threeL_next (al := al) hx
      rw [← hk.2] at hnext
      conv => whnf
      refine AWL.run E_ok Tryz.func49 2000 ?_
      conv => whnf
      refine elemP_at (at_map hx) rfl ?_
      conv => whnf
      refine AWL.run E_ok Tryz.func49 2000 ?_
      conv => whnf
      refine caseB_split (fun h6 => ?_) (fun h6 => ?_)
      all_goals
        rcases Nat.eq_zero_or_pos k with hk0 | hk0
        · have hpq : prevA (l.map (·.set.name)) k = none := by simp [prevA, hk0]
          rw [hpq] at hnext
          conv => whnf
          refine AWL.run E_ok Tryz.func49 2000 ?_
          conv => whnf
          repeat' (first | with_reducible refine elemP_at (at_map hx) rfl ?_ | with_reducible refine caseB_true ?_ | with_reducible refine caseB_false ?_ | with_reducible refine caseB_yes (by decide) ?_ | with_reducible refine caseB_no (by decide) ?_ | with_reducible refine caseB_yes (by assumption) ?_ | with_reducible refine caseB_no (by assumption) ?_ | with_reducible refine caseB_split (fun _ => ?_) (fun _ => ?_) | ((conv => whnf); (with_reducible refine AWL.run E_ok Tryz.func49 2000 ?_); (conv => whnf); fail_if_success (with_reducible refine AWL.of ?_)) | ((conv => whnf); (with_reducible refine DWL.run E_ok 2000 ?_); (conv => whnf); fail_if_success (with_reducible refine DWL.is ?_)) | ((conv => whnf); (with_reducible refine SWL.run E_ok 2000 ?_); (conv => whnf); fail_if_success (with_reducible refine SWL.is ?_)))
          conv => whnf
          refine AWL.run E_ok Tryz.func49 2000 ?_
          conv => whnf
          refine AWL.draw E_ok E_mixed 20 2000 (by kernel_rfl) ?_
          conv => whnf
          repeat' (first | with_reducible refine elemP_at (at_map hx) rfl ?_ | with_reducible refine caseB_true ?_ | with_reducible refine caseB_false ?_ | with_reducible refine caseB_yes (by decide) ?_ | with_reducible refine caseB_no (by decide) ?_ | with_reducible refine caseB_yes (by assumption) ?_ | with_reducible refine caseB_no (by assumption) ?_ | with_reducible refine caseB_split (fun _ => ?_) (fun _ => ?_) | ((conv => whnf); (with_reducible refine AWL.run E_ok Tryz.func49 2000 ?_); (conv => whnf); fail_if_success (with_reducible refine AWL.of ?_)) | ((conv => whnf); (with_reducible refine DWL.run E_ok 2000 ?_); (conv => whnf); fail_if_success (with_reducible refine DWL.is ?_)) | ((conv => whnf); (with_reducible refine SWL.run E_ok 2000 ?_); (conv => whnf); fail_if_success (with_reducible refine SWL.is ?_)))
          all_goals first
            | (exfalso; clear hnext hk IH; simp_all; done)
            | skip
          all_goals
            conv => whnf
            refine AWL.run E_ok Tryz.func49 2000 ?_
            conv => whnf
            refine AWL.back (IH (k + 1, if x.set.type == 3 then x.set.name else al) ⟨by simp only; omega, by simp only; rw [hnext]; simp⟩ (by simp only; omega)) ?_
            conv => whnf
            repeat (first | exact trivial | (refine And.intro (by first | with_reducible rfl | exact congrArg (DV.int .i64) (by omega) | exact congrArg DV.str (by simp [h6]) | exact congrArg (DV.int .i64) (wrap64 (by omega) (by omega)) | exact congrArg (DV.int .i64) ((wrap64 (by omega) (by omega)).trans (by omega))) ?_; conv => whnf))
        · obtain ⟨q, hq, -⟩ := prevA_some hk0 hk.1
          have hpq : prevA (l.map (·.set.name)) k = some q.set.name := by simp [prevA, hq]; omega
          rw [hpq] at hnext
          conv => whnf
          refine AWL.run E_ok Tryz.func49 2000 ?_
          conv => whnf
          repeat' (first | with_reducible refine elemP_at (at_map hx) rfl ?_ | with_reducible refine elemP_at (at_prev hq hk0 (by omega)) rfl ?_ | with_reducible refine caseB_true ?_ | with_reducible refine caseB_false ?_ | with_reducible refine caseB_yes (by decide) ?_ | with_reducible refine caseB_no (by decide) ?_ | with_reducible refine caseB_yes (by assumption) ?_ | with_reducible refine caseB_no (by assumption) ?_ | with_reducible refine caseB_split (fun _ => ?_) (fun _ => ?_) | ((conv => whnf); (with_reducible refine AWL.run E_ok Tryz.func49 2000 ?_); (conv => whnf); fail_if_success (with_reducible refine AWL.of ?_)) | ((conv => whnf); (with_reducible refine DWL.run E_ok 2000 ?_); (conv => whnf); fail_if_success (with_reducible refine DWL.is ?_)) | ((conv => whnf); (with_reducible refine SWL.run E_ok 2000 ?_); (conv => whnf); fail_if_success (with_reducible refine SWL.is ?_)))
          conv => whnf
          refine AWL.run E_ok Tryz.func49 2000 ?_
          conv => whnf
          refine AWL.draw E_ok E_mixed 20 2000 (by kernel_rfl) ?_
          conv => whnf
          repeat' (first | with_reducible refine elemP_at (at_map hx) rfl ?_ | with_reducible refine elemP_at (at_prev hq hk0 (by omega)) rfl ?_ | with_reducible refine caseB_true ?_ | with_reducible refine caseB_false ?_ | with_reducible refine caseB_yes (by decide) ?_ | with_reducible refine caseB_no (by decide) ?_ | with_reducible refine caseB_yes (by assumption) ?_ | with_reducible refine caseB_no (by assumption) ?_ | with_reducible refine caseB_split (fun _ => ?_) (fun _ => ?_) | ((conv => whnf); (with_reducible refine AWL.run E_ok Tryz.func49 2000 ?_); (conv => whnf); fail_if_success (with_reducible refine AWL.of ?_)) | ((conv => whnf); (with_reducible refine DWL.run E_ok 2000 ?_); (conv => whnf); fail_if_success (with_reducible refine DWL.is ?_)) | ((conv => whnf); (with_reducible refine SWL.run E_ok 2000 ?_); (conv => whnf); fail_if_success (with_reducible refine SWL.is ?_)))
          all_goals first
            | (rw [hnext]; clear hnext hk IH; simp_all; done)
            | (exfalso; clear hnext hk IH; simp_all; done)
            | skip
          all_goals
            conv => whnf
            refine AWL.run E_ok Tryz.func49 2000 ?_
            conv => whnf
            refine AWL.back (IH (k + 1, if x.set.type == 3 then x.set.name else al) ⟨by simp only; omega, by simp only; rw [hnext]; clear hnext hk IH; simp_all⟩ (by simp only; omega)) ?_
            conv => whnf
            repeat (first | exact trivial | (refine And.intro (by first | with_reducible rfl | exact congrArg (DV.int .i64) (by omega) | exact congrArg DV.str (by simp [h6]) | exact congrArg (DV.int .i64) (wrap64 (by omega) (by omega)) | exact congrArg (DV.int .i64) ((wrap64 (by omega) (by omega)).trans (by omega))) ?_; conv => whnf))
    · have hge : l.length ≤ k := by simpa using h5
      conv => whnf
      refine AWL.run E_ok Tryz.func49 2000 ?_
      conv => whnf
      rw [hk.2, List.drop_of_length_le hge]
      rfl

end Go.Proofs.YtebielkakdhelaaGreatDoor.P
