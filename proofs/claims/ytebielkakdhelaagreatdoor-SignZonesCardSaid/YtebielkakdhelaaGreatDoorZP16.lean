/- Contracts by the engine: package zone, first part: signatures in form, aliases, cuts. Conditions: lengths that Go allows. -/
import Derived.Test.YtebielkakdhelaaGreatDoorZP15
set_option linter.unusedVariables false
set_option linter.unusedSimpArgs false
namespace Go.Proofs.YtebielkakdhelaaGreatDoor.P
open Go Go.Eng
set_option maxRecDepth 100000
set_option maxHeartbeats 4000000

theorem fitsApex_p (t : Int) (apex : Bool) : PCalls E 122 [.int .i64 t, .bool apex] (· = .bool (placedB t apex)) := by
  refine PCalls.run E_ok (fn := Tryz.f122) Tryz.func122 (body := Tryz.f122.body.getD .skip) rfl (by decide) 2000 ?_
  conv => whnf
  repeat' (first | with_reducible refine caseB_true ?_ | with_reducible refine caseB_false ?_ | with_reducible refine caseB_yes (by decide) ?_ | with_reducible refine caseB_no (by decide) ?_ | with_reducible refine caseB_yes (by assumption) ?_ | with_reducible refine caseB_no (by assumption) ?_ | with_reducible refine caseB_split (fun _ => ?_) (fun _ => ?_) | ((conv => whnf); (with_reducible refine AWL.run E_ok Tryz.func122 2000 ?_); (conv => whnf); fail_if_success (with_reducible refine AWL.of ?_)) | ((conv => whnf); (with_reducible refine DWL.run E_ok 2000 ?_); (conv => whnf); fail_if_success (with_reducible refine DWL.is ?_)) | ((conv => whnf); (with_reducible refine SWL.run E_ok 2000 ?_); (conv => whnf); fail_if_success (with_reducible refine SWL.is ?_)))
  all_goals (cases apex <;> simp_all [placedB])

theorem inForm_p (l : List Sig) (apex : Text) : PCalls E 123 [encSigs l, .str apex] (· = .bool (sigsB l apex)) := by
  unfold sigsB
  have hg : ∃ g0, g0 = l.headD sig0 := ⟨_, rfl⟩
  obtain ⟨g0, hg⟩ := hg
  rw [← hg]
  refine PCalls.run E_ok (fn := Tryz.f123) Tryz.func123 (body := Tryz.f123.body.getD .skip) rfl (by decide) 2000 ?_
  conv => whnf
  refine caseB_split (fun h1 => ?_) (fun h1 => ?_)
  · conv => whnf
    refine AWL.run E_ok Tryz.func123 2000 ?_
    conv => whnf
    simp only [List.length_map] at h1
    rw [decide_eq_false (by simp at h1; omega), Bool.false_and]
  · have h6 : l.length ≤ 6 := by simp at h1; omega
    rw [decide_eq_true (by omega), Bool.true_and]
    conv => whnf
    refine AWL.run E_ok Tryz.func123 2000 ?_
    conv => whnf
    refine AWL.loop (κ := Nat) [4, 5, 6, 12, 13, 14, 15, 16, 17, 18, 19, 20, 21, 22, 23, 24, 25, 26, 27, 28, 29, 30, 31, 32, 33, 34, 35, 36, 37, 38, 39, 40, 41, 42, 43, 44, 45, 46, 47, 48, 49, 50, 51, 52, 53, 54, 55, 56, 57, 58, 59, 60, 61, 62, 63, 64, 65, 66, 67, 68, 69, 70, 71, 72, 73, 74, 75, 76, 77, 78, 79, 80, 81, 82, 83, 84, 85, 86, 87] (fun k => [(12, .d (.int .i64 k))]) (fun _ => []) (fun k => k ≤ l.length ∧ chain (sigZ apex g0) keyLt none l = chain (sigZ apex g0) keyLt (prevA l k) (l.drop k)) (fun k => l.length - k) 0 ⟨Nat.zero_le _, rfl⟩ ?_ ?_
    · conv => whnf
      repeat (first | exact trivial | (refine And.intro (by first | with_reducible rfl | exact congrArg (DV.int .i64) (by omega) | exact congrArg (DV.int .i64) (wrap64 (by omega) (by omega)) | exact congrArg (DV.int .i64) ((wrap64 (by omega) (by omega)).trans (by omega))) ?_; conv => whnf))
    · intro k hk IH
      refine AWL.head E_ok Tryz.func123 2000 ?_
      conv => whnf
      refine caseB_split (fun h5 => ?_) (fun h5 => ?_)
      · have hlt : k < l.length := by simpa using h5
        obtain ⟨x, hx⟩ := some_of_lt hlt
        have h0 := head_at hlt
        rw [← hg] at h0
        have hnext := chain_next (ok := sigZ apex g0) (rel := keyLt) hx
        rw [← hk.2] at hnext
        rcases Nat.eq_zero_or_pos k with hk0 | hk0
        · have hpq : prevA l k = none := by simp [prevA, hk0]
          rw [hpq] at hnext
          dsimp only at hnext
          rw [Bool.and_true] at hnext
          have hx0 : x = g0 := by subst hk0; rw [hx] at h0; exact Option.some.inj h0
          conv => whnf
          refine AWL.run E_ok Tryz.func123 2000 ?_
          conv => whnf
          repeat' (first | with_reducible refine elemP_at (at_map hx) rfl ?_ | with_reducible refine caseB_true ?_ | with_reducible refine caseB_false ?_ | with_reducible refine caseB_yes (by decide) ?_ | with_reducible refine caseB_no (by decide) ?_ | with_reducible refine caseB_yes (by assumption) ?_ | with_reducible refine caseB_no (by assumption) ?_ | with_reducible refine caseB_split (fun _ => ?_) (fun _ => ?_) | ((conv => whnf); (with_reducible refine AWL.run E_ok Tryz.func123 2000 ?_); (conv => whnf); fail_if_success (with_reducible refine AWL.of ?_)) | ((conv => whnf); (with_reducible refine DWL.run E_ok 2000 ?_); (conv => whnf); fail_if_success (with_reducible refine DWL.is ?_)) | ((conv => whnf); (with_reducible refine SWL.run E_ok 2000 ?_); (conv => whnf); fail_if_success (with_reducible refine SWL.is ?_)))
          all_goals first
            | (have hno : sigZ apex g0 x = false := by clear hnext hk IH hg; simp_all [sigZ] <;> (intros; omega)
               rw [hnext, hno, Bool.false_and]
               done)
            | skip
          conv => whnf
          refine AWL.run E_ok Tryz.func123 2000 ?_
          conv => whnf
          refine AWL.draw E_ok E_mixed 31 2000 (by kernel_rfl) ?_
          conv => whnf
          repeat' (first | with_reducible refine elemP_at (at_map hx) rfl ?_ | with_reducible refine elemP_at (at_zero h0) rfl ?_ | with_reducible refine caseB_true ?_ | with_reducible refine caseB_false ?_ | with_reducible refine caseB_yes (by decide) ?_ | with_reducible refine caseB_no (by decide) ?_ | with_reducible refine caseB_yes (by assumption) ?_ | with_reducible refine caseB_no (by assumption) ?_ | with_reducible refine caseB_split (fun _ => ?_) (fun _ => ?_) | ((conv => whnf); (with_reducible refine AWL.run E_ok Tryz.func123 2000 ?_); (conv => whnf); fail_if_success (with_reducible refine AWL.of ?_)) | ((conv => whnf); (with_reducible refine DWL.run E_ok 2000 ?_); (conv => whnf); fail_if_success (with_reducible refine DWL.is ?_)) | ((conv => whnf); (with_reducible refine SWL.run E_ok 2000 ?_); (conv => whnf); fail_if_success (with_reducible refine SWL.is ?_)))
          all_goals first
            | (exfalso; clear hnext hk IH hg; simp_all; done)
            | skip
          all_goals
            conv => whnf
            refine AWL.run E_ok Tryz.func123 2000 ?_
            conv => whnf
            refine AWL.back (IH (k + 1) ⟨by omega, by rw [hnext, show sigZ apex g0 x = true by clear hnext hk IH hg; simp_all [sigZ] <;> omega, Bool.true_and]⟩ (by omega)) ?_
            conv => whnf
            repeat (first | exact trivial | (refine And.intro (by first | with_reducible rfl | exact congrArg (DV.int .i64) (by omega) | exact congrArg (DV.int .i64) (wrap64 (by omega) (by omega)) | exact congrArg (DV.int .i64) ((wrap64 (by omega) (by omega)).trans (by omega))) ?_; conv => whnf))
        · obtain ⟨q, hq, hpq⟩ := prevA_some hk0 hk.1
          rw [hpq] at hnext
          conv => whnf
          refine AWL.run E_ok Tryz.func123 2000 ?_
          conv => whnf
          repeat' (first | with_reducible refine elemP_at (at_map hx) rfl ?_ | with_reducible refine caseB_true ?_ | with_reducible refine caseB_false ?_ | with_reducible refine caseB_yes (by decide) ?_ | with_reducible refine caseB_no (by decide) ?_ | with_reducible refine caseB_yes (by assumption) ?_ | with_reducible refine caseB_no (by assumption) ?_ | with_reducible refine caseB_split (fun _ => ?_) (fun _ => ?_) | ((conv => whnf); (with_reducible refine AWL.run E_ok Tryz.func123 2000 ?_); (conv => whnf); fail_if_success (with_reducible refine AWL.of ?_)) | ((conv => whnf); (with_reducible refine DWL.run E_ok 2000 ?_); (conv => whnf); fail_if_success (with_reducible refine DWL.is ?_)) | ((conv => whnf); (with_reducible refine SWL.run E_ok 2000 ?_); (conv => whnf); fail_if_success (with_reducible refine SWL.is ?_)))
          all_goals first
            | (have hno : sigZ apex g0 x = false := by clear hnext hk IH hg; simp_all [sigZ] <;> (intros; omega)
               rw [hnext, hno, Bool.false_and, Bool.false_and]
               done)
            | skip
          conv => whnf
          refine AWL.run E_ok Tryz.func123 2000 ?_
          conv => whnf
          refine AWL.draw E_ok E_mixed 31 2000 (by kernel_rfl) ?_
          conv => whnf
          repeat' (first | with_reducible refine elemP_at (at_map hx) rfl ?_ | with_reducible refine elemP_at (at_zero h0) rfl ?_ | with_reducible refine elemP_at (at_prev hq hk0 (by omega)) rfl ?_ | with_reducible refine caseB_true ?_ | with_reducible refine caseB_false ?_ | with_reducible refine caseB_yes (by decide) ?_ | with_reducible refine caseB_no (by decide) ?_ | with_reducible refine caseB_yes (by assumption) ?_ | with_reducible refine caseB_no (by assumption) ?_ | with_reducible refine caseB_split (fun _ => ?_) (fun _ => ?_) | ((conv => whnf); (with_reducible refine AWL.run E_ok Tryz.func123 2000 ?_); (conv => whnf); fail_if_success (with_reducible refine AWL.of ?_)) | ((conv => whnf); (with_reducible refine DWL.run E_ok 2000 ?_); (conv => whnf); fail_if_success (with_reducible refine DWL.is ?_)) | ((conv => whnf); (with_reducible refine SWL.run E_ok 2000 ?_); (conv => whnf); fail_if_success (with_reducible refine SWL.is ?_)))
          all_goals first
            | (have hno : (sigZ apex g0 x && keyLt q x) = false := by clear hnext hk IH hg; simp_all [sigZ, keyLt] <;> (intros; omega)
               rw [hnext, hno, Bool.false_and]
               done)
            | (exfalso; clear hnext hk IH hg; simp_all; omega)
            | skip
          all_goals
            conv => whnf
            refine AWL.run E_ok Tryz.func123 2000 ?_
            conv => whnf
            refine AWL.back (IH (k + 1) ⟨by omega, by rw [hnext, show (sigZ apex g0 x && keyLt q x) = true by clear hnext hk IH hg; simp_all [sigZ, keyLt] <;> omega, Bool.true_and]⟩ (by omega)) ?_
            conv => whnf
            repeat (first | exact trivial | (refine And.intro (by first | with_reducible rfl | exact congrArg (DV.int .i64) (by omega) | exact congrArg (DV.int .i64) (wrap64 (by omega) (by omega)) | exact congrArg (DV.int .i64) ((wrap64 (by omega) (by omega)).trans (by omega))) ?_; conv => whnf))
      · have hge : l.length ≤ k := by simpa using h5
        conv => whnf
        refine AWL.run E_ok Tryz.func123 2000 ?_
        conv => whnf
        rw [hk.2, List.drop_of_length_le hge]
        rfl

/-- A layout: a zone, and what its sets are behind. -/
@[reducible] def layEnc (z : Zone) (b : List Text) : DV := .agg [.str z.apex, encSets z.sets, .sl (b.map .str)]

theorem cutsHold_p (z : Zone) (B : List Text) (hB : B.length = z.sets.length) (hl : z.sets.length ≤ 1000000) : PCalls E 64 [layEnc z B] (· = .bool ((z.sets.zip B).all fun p => four1 p.1 p.2)) := by
  obtain ⟨apex, l⟩ := z
  simp only at *
  refine PCalls.run E_ok (fn := Tryz.f64) Tryz.func64 (body := Tryz.f64.body.getD .skip) rfl (by decide) 2000 ?_
  conv => whnf
  refine AWL.loop (κ := Nat) [2, 3, 4, 5, 11, 12, 13, 14, 15, 16, 17, 18, 19, 20, 21, 22, 23, 24, 25, 26, 27, 28, 29, 30, 31, 32, 33, 34, 35, 36, 37, 38, 39, 40, 41, 42, 43, 44, 45, 46, 47, 48, 49] (fun k => [(11, .d (.int .i64 k))]) (fun _ => []) (fun k => k ≤ l.length ∧ ((l.zip B).take k).all (fun p => four1 p.1 p.2) = true) (fun k => l.length - k) 0 ⟨Nat.zero_le _, rfl⟩ ?_ ?_
  · conv => whnf
    repeat (first | exact trivial | (refine And.intro (by first | with_reducible rfl | exact congrArg (DV.int .i64) (by omega) | exact congrArg (DV.int .i64) (wrap64 (by omega) (by omega)) | exact congrArg (DV.int .i64) ((wrap64 (by omega) (by omega)).trans (by omega))) ?_; conv => whnf))
  · intro k hk IH
    refine AWL.head E_ok Tryz.func64 2000 ?_
    conv => whnf
    refine caseB_split (fun h5 => ?_) (fun h5 => ?_)
    · have hlt : k < l.length := by simpa using h5
      obtain ⟨x, hx⟩ := some_of_lt hlt
      obtain ⟨b, hb⟩ := some_of_lt (l := B) (k := k) (by omega)
      have hz := zip_at hx hb
      conv => whnf
      refine AWL.run E_ok Tryz.func64 2000 ?_
      conv => whnf
      repeat' (first | with_reducible refine elemP_at (at_map hx) rfl ?_ | with_reducible refine elemP_at (at_map hb) rfl ?_ | with_reducible refine caseB_true ?_ | with_reducible refine caseB_false ?_ | with_reducible refine caseB_yes (by decide) ?_ | with_reducible refine caseB_no (by decide) ?_ | with_reducible refine caseB_yes (by assumption) ?_ | with_reducible refine caseB_no (by assumption) ?_ | with_reducible refine caseB_split (fun _ => ?_) (fun _ => ?_) | ((conv => whnf); (with_reducible refine AWL.run E_ok Tryz.func64 2000 ?_); (conv => whnf); fail_if_success (with_reducible refine AWL.of ?_)) | ((conv => whnf); (with_reducible refine DWL.run E_ok 2000 ?_); (conv => whnf); fail_if_success (with_reducible refine DWL.is ?_)) | ((conv => whnf); (with_reducible refine SWL.run E_ok 2000 ?_); (conv => whnf); fail_if_success (with_reducible refine SWL.is ?_)))
      all_goals first
        | (have hno : four1 x b = false := by clear hz hb hk IH hx; obtain ⟨⟨nm, ty, lf, dt⟩, sg⟩ := x; rcases b with _ | ⟨c, b⟩ <;> simp_all [four1] <;> first | (rintro rfl; simp_all; done) | (intro h; exact absurd h.symm (by assumption)) | (subst_vars; simp_all; done) | (intros; simp_all; done)
           rw [all_no hz hno]
           done)
        | (exfalso; clear hz hb hk IH; rcases b with _ | ⟨c, b⟩ <;> simp_all; done)
        | skip
      all_goals
        conv => whnf
        refine AWL.run E_ok Tryz.func64 2000 ?_
        conv => whnf
        refine AWL.back (IH (k + 1) ⟨by omega, all_next hk.2 hz (by clear hz hb hk IH hx; obtain ⟨⟨nm, ty, lf, dt⟩, sg⟩ := x; rcases b with _ | ⟨c, b⟩ <;> simp_all [four1] <;> first | (rintro rfl; simp_all; done) | (intro h; exact absurd h.symm (by assumption)) | (subst_vars; simp_all; done) | (intros; simp_all; done))⟩ (by omega)) ?_
        conv => whnf
        repeat (first | exact trivial | (refine And.intro (by first | with_reducible rfl | exact congrArg (DV.int .i64) (by omega) | exact congrArg (DV.int .i64) (wrap64 (by omega) (by omega)) | exact congrArg (DV.int .i64) ((wrap64 (by omega) (by omega)).trans (by omega))) ?_; conv => whnf))
    · have hge : l.length ≤ k := by simpa using h5
      conv => whnf
      refine AWL.run E_ok Tryz.func64 2000 ?_
      conv => whnf
      rw [all_end hk.2 (by simp; omega)]

def sigs1 (s : Signed) (b : Text) : Bool := !(!own1 s b && decide ((s.sigs.length : Int) > 0))
theorem sigsHold_p (z : Zone) (B : List Text) (hB : B.length = z.sets.length) (hl : z.sets.length ≤ 1000000) : PCalls E 65 [layEnc z B] (· = .bool ((z.sets.zip B).all fun p => sigs1 p.1 p.2)) := by
  obtain ⟨apex, l⟩ := z
  simp only at *
  refine PCalls.run E_ok (fn := Tryz.f65) Tryz.func65 (body := Tryz.f65.body.getD .skip) rfl (by decide) 2000 ?_
  conv => whnf
  refine AWL.loop (κ := Nat) [2, 3, 4, 5, 11, 12, 13, 14, 15, 16, 17, 18, 19, 20, 21, 22, 23, 24, 25, 26, 27, 28, 29, 30, 31, 32, 33, 34, 35, 36, 37, 38, 39, 40, 41] (fun k => [(11, .d (.int .i64 k))]) (fun _ => []) (fun k => k ≤ l.length ∧ ((l.zip B).take k).all (fun p => sigs1 p.1 p.2) = true) (fun k => l.length - k) 0 ⟨Nat.zero_le _, rfl⟩ ?_ ?_
  · conv => whnf
    repeat (first | exact trivial | (refine And.intro (by first | with_reducible rfl | exact congrArg (DV.int .i64) (by omega) | exact congrArg (DV.int .i64) (wrap64 (by omega) (by omega)) | exact congrArg (DV.int .i64) ((wrap64 (by omega) (by omega)).trans (by omega))) ?_; conv => whnf))
  · intro k hk IH
    refine AWL.head E_ok Tryz.func65 2000 ?_
    conv => whnf
    refine caseB_split (fun h5 => ?_) (fun h5 => ?_)
    · have hlt : k < l.length := by simpa using h5
      obtain ⟨x, hx⟩ := some_of_lt hlt
      obtain ⟨b, hb⟩ := some_of_lt (l := B) (k := k) (by omega)
      have hz := zip_at hx hb
      conv => whnf
      refine AWL.run E_ok Tryz.func65 2000 ?_
      conv => whnf
      repeat' (first | with_reducible refine elemP_at (at_map hx) rfl ?_ | with_reducible refine elemP_at (at_map hb) rfl ?_ | with_reducible refine caseB_true ?_ | with_reducible refine caseB_false ?_ | with_reducible refine caseB_yes (by decide) ?_ | with_reducible refine caseB_no (by decide) ?_ | with_reducible refine caseB_yes (by assumption) ?_ | with_reducible refine caseB_no (by assumption) ?_ | with_reducible refine caseB_split (fun _ => ?_) (fun _ => ?_) | ((conv => whnf); (with_reducible refine AWL.run E_ok Tryz.func65 2000 ?_); (conv => whnf); fail_if_success (with_reducible refine AWL.of ?_)) | ((conv => whnf); (with_reducible refine DWL.run E_ok 2000 ?_); (conv => whnf); fail_if_success (with_reducible refine DWL.is ?_)) | ((conv => whnf); (with_reducible refine SWL.run E_ok 2000 ?_); (conv => whnf); fail_if_success (with_reducible refine SWL.is ?_)))
      all_goals first
        | (rw [all_no hz (by clear hz hb hk IH; rcases b with _ | ⟨c, b⟩ <;> simp_all [sigs1, own1])]; done)
        | (exfalso; clear hz hb hk IH; rcases b with _ | ⟨c, b⟩ <;> simp_all; done)
        | skip
      all_goals
        conv => whnf
        refine AWL.run E_ok Tryz.func65 2000 ?_
        conv => whnf
        refine AWL.back (IH (k + 1) ⟨by omega, all_next hk.2 hz (by clear hz hb hk IH; rcases b with _ | ⟨c, b⟩ <;> simp_all [sigs1, own1])⟩ (by omega)) ?_
        conv => whnf
        repeat (first | exact trivial | (refine And.intro (by first | with_reducible rfl | exact congrArg (DV.int .i64) (by omega) | exact congrArg (DV.int .i64) (wrap64 (by omega) (by omega)) | exact congrArg (DV.int .i64) ((wrap64 (by omega) (by omega)).trans (by omega))) ?_; conv => whnf))
    · have hge : l.length ≤ k := by simpa using h5
      conv => whnf
      refine AWL.run E_ok Tryz.func65 2000 ?_
      conv => whnf
      rw [all_end hk.2 (by simp; omega)]

theorem formHolds_p (z : Zone) (B : List Text) (hl : z.sets.length ≤ 1000000) : PCalls E 66 [layEnc z B] (· = .bool (z.sets.all fun s => sigsB s.sigs z.apex)) := by
  obtain ⟨apex, l⟩ := z
  simp only at *
  refine PCalls.run E_ok (fn := Tryz.f66) Tryz.func66 (body := Tryz.f66.body.getD .skip) rfl (by decide) 2000 ?_
  conv => whnf
  refine AWL.loop (κ := Nat) [2, 4, 10, 11, 12, 13, 14, 15, 16, 17, 18, 19, 20, 21, 22] (fun k => [(10, .d (.int .i64 k))]) (fun _ => []) (fun k => k ≤ l.length ∧ (l.take k).all (fun s => sigsB s.sigs apex) = true) (fun k => l.length - k) 0 ⟨Nat.zero_le _, rfl⟩ ?_ ?_
  · conv => whnf
    repeat (first | exact trivial | (refine And.intro (by first | with_reducible rfl | exact congrArg (DV.int .i64) (by omega) | exact congrArg (DV.int .i64) (wrap64 (by omega) (by omega)) | exact congrArg (DV.int .i64) ((wrap64 (by omega) (by omega)).trans (by omega))) ?_; conv => whnf))
  · intro k hk IH
    refine AWL.head E_ok Tryz.func66 2000 ?_
    conv => whnf
    refine caseB_split (fun h5 => ?_) (fun h5 => ?_)
    · have hlt : k < l.length := by simpa using h5
      obtain ⟨x, hx⟩ := some_of_lt hlt
      conv => whnf
      refine AWL.run E_ok Tryz.func66 2000 ?_
      conv => whnf
      repeat' (first | with_reducible refine elemP_at (at_map hx) rfl ?_ | with_reducible refine callP_eq (inForm_p _ _) ?_ | with_reducible refine callP1_eq (inForm_p _ _) ?_ | with_reducible refine caseB_true ?_ | with_reducible refine caseB_false ?_ | with_reducible refine caseB_yes (by decide) ?_ | with_reducible refine caseB_no (by decide) ?_ | with_reducible refine caseB_yes (by assumption) ?_ | with_reducible refine caseB_no (by assumption) ?_ | with_reducible refine caseB_split (fun _ => ?_) (fun _ => ?_) | ((conv => whnf); (with_reducible refine AWL.run E_ok Tryz.func66 2000 ?_); (conv => whnf); fail_if_success (with_reducible refine AWL.of ?_)) | ((conv => whnf); (with_reducible refine DWL.run E_ok 2000 ?_); (conv => whnf); fail_if_success (with_reducible refine DWL.is ?_)) | ((conv => whnf); (with_reducible refine SWL.run E_ok 2000 ?_); (conv => whnf); fail_if_success (with_reducible refine SWL.is ?_)))
      all_goals first
        | (rw [all_no hx (by simp_all)]; done)
        | skip
      all_goals
        conv => whnf
        refine AWL.run E_ok Tryz.func66 2000 ?_
        conv => whnf
        refine AWL.back (IH (k + 1) ⟨by omega, all_next hk.2 hx (by simp_all)⟩ (by omega)) ?_
        conv => whnf
        repeat (first | exact trivial | (refine And.intro (by first | with_reducible rfl | exact congrArg (DV.int .i64) (by omega) | exact congrArg (DV.int .i64) (wrap64 (by omega) (by omega)) | exact congrArg (DV.int .i64) ((wrap64 (by omega) (by omega)).trans (by omega))) ?_; conv => whnf))
    · have hge : l.length ≤ k := by simpa using h5
      conv => whnf
      refine AWL.run E_ok Tryz.func66 2000 ?_
      conv => whnf
      rw [all_end hk.2 hge]

/-- Aliases stand beside next alone. -/
def alias1 (p : Option Text) (s : Signed) (t : Option Signed) : Bool := s.set.type != 3 || (p != some s.set.name && (match t with | none => true | some t => !(t.set.name == s.set.name && t.set.type != 8)))
def aliasL : Option Text → List Signed → Bool
  | _, [] => true
  | p, s :: l => alias1 p s l.head? && aliasL (some s.set.name) l
theorem aliasL_next {l : List Signed} {k : Nat} {x : Signed} (hx : l[k]? = some x) : aliasL (prevA (l.map (·.set.name)) k) (l.drop k) = (alias1 (prevA (l.map (·.set.name)) k) x l[k + 1]? && aliasL (prevA (l.map (·.set.name)) (k + 1)) (l.drop (k + 1))) := by
  have hk := lt_of_getElem? hx
  rw [List.drop_eq_getElem_cons hk]
  have e1 : l[k] = x := by simpa [hk] using hx
  have e2 : prevA (l.map (·.set.name)) (k + 1) = some x.set.name := by simp [prevA, hx]
  have e3 : (l.drop (k + 1)).head? = l[k + 1]? := by rw [List.head?_drop]
  rw [e1, e2, aliasL, e3]
theorem aliasesHold_p (z : Zone) (B : List Text) (hl : z.sets.length ≤ 1000000) : PCalls E 63 [layEnc z B] (· = .bool (aliasL none z.sets)) := by
  obtain ⟨apex, l⟩ := z
  simp only at *
  refine PCalls.run E_ok (fn := Tryz.f63) Tryz.func63 (body := Tryz.f63.body.getD .skip) rfl (by decide) 2000 ?_
  conv => whnf
  refine AWL.loop (κ := Nat) [2, 3, 4, 10, 11, 12, 13, 14, 15, 16, 17, 18, 19, 20, 21, 22, 23, 24, 25, 26, 27, 28, 29, 30, 31, 32, 33, 34, 35, 36, 37, 38, 39, 40, 41, 42, 43, 44, 45, 46, 47, 48, 49, 50, 51, 52, 53, 54, 55, 56, 57, 58, 59, 60, 61, 62, 63, 64, 65, 66, 67, 68, 69, 70, 71, 72, 73, 74] (fun k => [(10, .d (.int .i64 k))]) (fun _ => []) (fun k => k ≤ l.length ∧ aliasL none l = aliasL (prevA (l.map (·.set.name)) k) (l.drop k)) (fun k => l.length - k) 0 ⟨Nat.zero_le _, rfl⟩ ?_ ?_
  · conv => whnf
    repeat (first | exact trivial | (refine And.intro (by first | with_reducible rfl | exact congrArg (DV.int .i64) (by omega) | exact congrArg (DV.int .i64) (wrap64 (by omega) (by omega)) | exact congrArg (DV.int .i64) ((wrap64 (by omega) (by omega)).trans (by omega))) ?_; conv => whnf))
  · intro k hk IH
    refine AWL.head E_ok Tryz.func63 2000 ?_
    conv => whnf
    refine caseB_split (fun h5 => ?_) (fun h5 => ?_)
    · have hlt : k < l.length := by simpa using h5
      obtain ⟨x, hx⟩ := some_of_lt hlt
      have hnext := aliasL_next hx
      rw [← hk.2] at hnext
      have hw : IntKind.i64.wrap ((k : Int) + 1) = ((k + 1 : Nat) : Int) := by rw [wrap64 (by omega) (by omega)]; omega
      conv => whnf
      refine AWL.run E_ok Tryz.func63 2000 ?_
      conv => whnf
      refine elemP_at (at_map hx) rfl ?_
      conv => whnf
      refine AWL.run E_ok Tryz.func63 2000 ?_
      conv => whnf
      refine caseB_split (fun h6 => ?_) (fun h6 => ?_)
      · conv => whnf
        refine AWL.run E_ok Tryz.func63 2000 ?_
        conv => whnf
        refine AWL.back (IH (k + 1) ⟨by omega, by rw [hnext]; simp only [alias1, h6, Bool.true_or, Bool.true_and]⟩ (by omega)) ?_
        conv => whnf
        repeat (first | exact trivial | (refine And.intro (by first | with_reducible rfl | exact congrArg (DV.int .i64) (by omega) | exact congrArg (DV.int .i64) (wrap64 (by omega) (by omega)) | exact congrArg (DV.int .i64) ((wrap64 (by omega) (by omega)).trans (by omega))) ?_; conv => whnf))
      · have e1 : alias1 (prevA (l.map (·.set.name)) k) x l[k + 1]? = (prevA (l.map (·.set.name)) k != some x.set.name && (match l[k + 1]? with | none => true | some t => !(t.set.name == x.set.name && t.set.type != 8))) := by simp only [alias1, h6, Bool.false_or]
        rw [e1] at hnext
        clear e1
        rcases Nat.eq_zero_or_pos k with hk0 | hk0
        · have hpq : prevA (l.map (·.set.name)) k = none := by simp [prevA, hk0]
          rw [hpq] at hnext
          conv => whnf
          refine AWL.run E_ok Tryz.func63 2000 ?_
          conv => whnf
          refine AWL.draw E_ok E_mixed 18 2000 (by kernel_rfl) ?_
          conv => whnf
          refine caseB_no (by simp; omega) ?_
          conv => whnf
          refine DWL.run E_ok 2000 ?_
          conv => whnf
          conv => whnf
          refine SWL.run E_ok 2000 ?_
          conv => whnf
          conv => whnf
          refine AWL.run E_ok Tryz.func63 2000 ?_
          conv => whnf
          refine caseB_false ?_
          conv => whnf
          refine AWL.run E_ok Tryz.func63 2000 ?_
          conv => whnf
          refine AWL.draw E_ok E_mixed 37 2000 (by kernel_rfl) ?_
          conv => whnf
          by_cases hk1 : k + 1 < l.length
          · obtain ⟨t, ht⟩ := some_of_lt hk1
            rw [ht] at hnext
            refine caseB_yes (by rw [hw]; simp; omega) ?_
            conv => whnf
            refine DWL.run E_ok 2000 ?_
            conv => whnf
            repeat' (first | with_reducible refine elemP_at (at_next ht (by omega)) rfl ?_ | with_reducible refine caseB_true ?_ | with_reducible refine caseB_false ?_ | with_reducible refine caseB_yes (by decide) ?_ | with_reducible refine caseB_no (by decide) ?_ | with_reducible refine caseB_yes (by assumption) ?_ | with_reducible refine caseB_no (by assumption) ?_ | with_reducible refine caseB_split (fun _ => ?_) (fun _ => ?_) | ((conv => whnf); (with_reducible refine AWL.run E_ok Tryz.func63 2000 ?_); (conv => whnf); fail_if_success (with_reducible refine AWL.of ?_)) | ((conv => whnf); (with_reducible refine DWL.run E_ok 2000 ?_); (conv => whnf); fail_if_success (with_reducible refine DWL.is ?_)) | ((conv => whnf); (with_reducible refine SWL.run E_ok 2000 ?_); (conv => whnf); fail_if_success (with_reducible refine SWL.is ?_)))
            all_goals first
              | (rw [hnext]; clear hnext hk IH hpq; simp_all; done)
              | skip
            all_goals
              conv => whnf
              refine AWL.run E_ok Tryz.func63 2000 ?_
              conv => whnf
              refine AWL.back (IH (k + 1) ⟨by omega, by rw [hnext]; clear hnext hk IH hpq; simp_all⟩ (by omega)) ?_
              conv => whnf
              repeat (first | exact trivial | (refine And.intro (by first | with_reducible rfl | exact congrArg (DV.int .i64) (by omega) | exact congrArg (DV.int .i64) (wrap64 (by omega) (by omega)) | exact congrArg (DV.int .i64) ((wrap64 (by omega) (by omega)).trans (by omega))) ?_; conv => whnf))
          · have ht : l[k + 1]? = none := List.getElem?_eq_none (by omega)
            rw [ht] at hnext
            refine caseB_no (by rw [hw]; simp; omega) ?_
            conv => whnf
            refine DWL.run E_ok 2000 ?_
            conv => whnf
            repeat' (first | with_reducible refine caseB_true ?_ | with_reducible refine caseB_false ?_ | with_reducible refine caseB_yes (by decide) ?_ | with_reducible refine caseB_no (by decide) ?_ | with_reducible refine caseB_yes (by assumption) ?_ | with_reducible refine caseB_no (by assumption) ?_ | with_reducible refine caseB_split (fun _ => ?_) (fun _ => ?_) | ((conv => whnf); (with_reducible refine AWL.run E_ok Tryz.func63 2000 ?_); (conv => whnf); fail_if_success (with_reducible refine AWL.of ?_)) | ((conv => whnf); (with_reducible refine DWL.run E_ok 2000 ?_); (conv => whnf); fail_if_success (with_reducible refine DWL.is ?_)) | ((conv => whnf); (with_reducible refine SWL.run E_ok 2000 ?_); (conv => whnf); fail_if_success (with_reducible refine SWL.is ?_)))
            conv => whnf
            refine AWL.run E_ok Tryz.func63 2000 ?_
            conv => whnf
            refine AWL.back (IH (k + 1) ⟨by omega, by rw [hnext]; clear hnext hk IH hpq; simp_all⟩ (by omega)) ?_
            conv => whnf
            repeat (first | exact trivial | (refine And.intro (by first | with_reducible rfl | exact congrArg (DV.int .i64) (by omega) | exact congrArg (DV.int .i64) (wrap64 (by omega) (by omega)) | exact congrArg (DV.int .i64) ((wrap64 (by omega) (by omega)).trans (by omega))) ?_; conv => whnf))
        · obtain ⟨q, hq, -⟩ := prevA_some hk0 hk.1
          have hpq : prevA (l.map (·.set.name)) k = some q.set.name := by simp [prevA, hq]; omega
          rw [hpq] at hnext
          conv => whnf
          refine AWL.run E_ok Tryz.func63 2000 ?_
          conv => whnf
          refine AWL.draw E_ok E_mixed 18 2000 (by kernel_rfl) ?_
          conv => whnf
          refine caseB_yes (by simp; omega) ?_
          conv => whnf
          refine DWL.run E_ok 2000 ?_
          conv => whnf
          refine elemP_at (at_prev hq hk0 (by omega)) rfl ?_
          conv => whnf
          refine DWL.run E_ok 2000 ?_
          conv => whnf
          conv => whnf
          refine SWL.run E_ok 2000 ?_
          conv => whnf
          conv => whnf
          refine AWL.run E_ok Tryz.func63 2000 ?_
          conv => whnf
          refine caseB_split (fun h7 => ?_) (fun h7 => ?_)
          · conv => whnf
            refine AWL.run E_ok Tryz.func63 2000 ?_
            conv => whnf
            rw [hnext]
            clear hnext hk IH hpq
            simp_all
          · conv => whnf
            refine AWL.run E_ok Tryz.func63 2000 ?_
            conv => whnf
            refine AWL.draw E_ok E_mixed 37 2000 (by kernel_rfl) ?_
            conv => whnf
            by_cases hk1 : k + 1 < l.length
            · obtain ⟨t, ht⟩ := some_of_lt hk1
              rw [ht] at hnext
              refine caseB_yes (by rw [hw]; simp; omega) ?_
              conv => whnf
              refine DWL.run E_ok 2000 ?_
              conv => whnf
              repeat' (first | with_reducible refine elemP_at (at_next ht (by omega)) rfl ?_ | with_reducible refine caseB_true ?_ | with_reducible refine caseB_false ?_ | with_reducible refine caseB_yes (by decide) ?_ | with_reducible refine caseB_no (by decide) ?_ | with_reducible refine caseB_yes (by assumption) ?_ | with_reducible refine caseB_no (by assumption) ?_ | with_reducible refine caseB_split (fun _ => ?_) (fun _ => ?_) | ((conv => whnf); (with_reducible refine AWL.run E_ok Tryz.func63 2000 ?_); (conv => whnf); fail_if_success (with_reducible refine AWL.of ?_)) | ((conv => whnf); (with_reducible refine DWL.run E_ok 2000 ?_); (conv => whnf); fail_if_success (with_reducible refine DWL.is ?_)) | ((conv => whnf); (with_reducible refine SWL.run E_ok 2000 ?_); (conv => whnf); fail_if_success (with_reducible refine SWL.is ?_)))
              all_goals first
                | (rw [hnext]; clear hnext hk IH hpq; simp_all; done)
                | skip
              all_goals
                conv => whnf
                refine AWL.run E_ok Tryz.func63 2000 ?_
                conv => whnf
                refine AWL.back (IH (k + 1) ⟨by omega, by rw [hnext]; clear hnext hk IH hpq; simp_all⟩ (by omega)) ?_
                conv => whnf
                repeat (first | exact trivial | (refine And.intro (by first | with_reducible rfl | exact congrArg (DV.int .i64) (by omega) | exact congrArg (DV.int .i64) (wrap64 (by omega) (by omega)) | exact congrArg (DV.int .i64) ((wrap64 (by omega) (by omega)).trans (by omega))) ?_; conv => whnf))
            · have ht : l[k + 1]? = none := List.getElem?_eq_none (by omega)
              rw [ht] at hnext
              refine caseB_no (by rw [hw]; simp; omega) ?_
              conv => whnf
              refine DWL.run E_ok 2000 ?_
              conv => whnf
              repeat' (first | with_reducible refine caseB_true ?_ | with_reducible refine caseB_false ?_ | with_reducible refine caseB_yes (by decide) ?_ | with_reducible refine caseB_no (by decide) ?_ | with_reducible refine caseB_yes (by assumption) ?_ | with_reducible refine caseB_no (by assumption) ?_ | with_reducible refine caseB_split (fun _ => ?_) (fun _ => ?_) | ((conv => whnf); (with_reducible refine AWL.run E_ok Tryz.func63 2000 ?_); (conv => whnf); fail_if_success (with_reducible refine AWL.of ?_)) | ((conv => whnf); (with_reducible refine DWL.run E_ok 2000 ?_); (conv => whnf); fail_if_success (with_reducible refine DWL.is ?_)) | ((conv => whnf); (with_reducible refine SWL.run E_ok 2000 ?_); (conv => whnf); fail_if_success (with_reducible refine SWL.is ?_)))
              conv => whnf
              refine AWL.run E_ok Tryz.func63 2000 ?_
              conv => whnf
              refine AWL.back (IH (k + 1) ⟨by omega, by rw [hnext]; clear hnext hk IH hpq; simp_all⟩ (by omega)) ?_
              conv => whnf
              repeat (first | exact trivial | (refine And.intro (by first | with_reducible rfl | exact congrArg (DV.int .i64) (by omega) | exact congrArg (DV.int .i64) (wrap64 (by omega) (by omega)) | exact congrArg (DV.int .i64) ((wrap64 (by omega) (by omega)).trans (by omega))) ?_; conv => whnf))
    · have hge : l.length ≤ k := by simpa using h5
      conv => whnf
      refine AWL.run E_ok Tryz.func63 2000 ?_
      conv => whnf
      rw [hk.2, List.drop_of_length_le hge]
      rfl

end Go.Proofs.YtebielkakdhelaaGreatDoor.P
