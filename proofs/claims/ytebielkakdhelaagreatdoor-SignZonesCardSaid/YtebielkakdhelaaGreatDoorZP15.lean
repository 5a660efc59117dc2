/- Contracts by the engine: the reference implementation's zones, fifth part: own sets, valid zones. Conditions: lengths that Go allows. -/
import Derived.Test.YtebielkakdhelaaGreatDoorZP14
set_option linter.unusedVariables false
set_option linter.unusedSimpArgs false
namespace Go.Proofs.YtebielkakdhelaaGreatDoor.P
open Go Go.Eng
set_option maxRecDepth 100000
set_option maxHeartbeats 4000000

theorem zip_at {α β : Type} {a : List α} {b : List β} {k : Nat} {x : α} {y : β} (ha : a[k]? = some x) (hb : b[k]? = some y) : (a.zip b)[k]? = some (x, y) := by
  rw [List.getElem?_zip_eq_some]
  exact ⟨ha, hb⟩

/-- An own set. -/
def own1 (s : Signed) (b : Text) : Bool := b == [] || (s.set.type != 2 && s.set.type != 1)
/-- Which sets are own ones. -/
def ownZ (z : Zone) : List Bool := (z.sets.zip (behindZ z)).map fun p => own1 p.1 p.2
theorem ownZ_len (z : Zone) : (ownZ z).length = z.sets.length := by simp [ownZ, behindZ_len]

theorem rown_p (z : Zone) (hl : z.sets.length ≤ 1000000) (hn : ∀ s ∈ z.sets, s.set.name.length ≤ 1000) : PCalls E 14 [z.enc] (· = .sl ((ownZ z).map .bool)) := by
  have hBl := behindZ_len z
  have hOl := ownZ_len z
  have hO : ownZ z = (z.sets.zip (behindZ z)).map fun p => own1 p.1 p.2 := rfl
  generalize ownZ z = O at *
  refine PCalls.run E_ok (fn := Tryz.f14) Tryz.func14 (body := Tryz.f14.body.getD .skip) rfl (by decide) 2000 ?_
  conv => whnf
  with_reducible refine callP_eq (rbehind_p z hl hn) ?_
  conv => whnf
  refine AWL.run E_ok Tryz.func14 2000 ?_
  conv => whnf
  generalize behindZ z = B at *
  obtain ⟨apex, l⟩ := z
  simp only at *
  refine need_intro (by simp; omega) ?_
  conv => whnf
  refine AWL.run E_ok Tryz.func14 2000 ?_
  conv => whnf
  refine AWL.loop (κ := Nat) [5, 6, 13, 14, 15, 16, 17, 18, 19, 20, 21, 22, 23, 24, 25, 26, 27, 28, 29, 30, 31, 32, 33, 34, 35, 36, 37, 38, 39, 40, 41, 42] (fun k => [(5, .d (.int .i64 k)), (4, .own 1 0)]) (fun k => [(1, .arr 0 (4, 1) ((O.take k ++ List.replicate (l.length - k) false).map .bool))]) (fun k => k ≤ l.length) (fun k => l.length - k) 0 (Nat.zero_le _) ?_ ?_
  · conv => whnf
    repeat (first | exact trivial | (refine And.intro (by first | with_reducible rfl | exact congrArg (DV.int .i64) (by omega) | exact congrArg (DV.int .i64) (wrap64 (by omega) (by omega)) | exact congrArg (DV.int .i64) ((wrap64 (by omega) (by omega)).trans (by omega))) ?_; conv => whnf))
    refine And.intro (by simp) ?_
    conv => whnf
    repeat (first | exact trivial | (refine And.intro (by first | with_reducible rfl | exact congrArg (DV.int .i64) (by omega) | exact congrArg (DV.int .i64) (wrap64 (by omega) (by omega)) | exact congrArg (DV.int .i64) ((wrap64 (by omega) (by omega)).trans (by omega))) ?_; conv => whnf))
  · intro k hk IH
    refine AWL.head E_ok Tryz.func14 2000 ?_
    conv => whnf
    refine caseB_split (fun h5 => ?_) (fun h5 => ?_)
    · have hlt : k < l.length := by simpa using h5
      obtain ⟨x, hx⟩ := some_of_lt hlt
      obtain ⟨b, hb⟩ := some_of_lt (l := B) (k := k) (by omega)
      have hOk : O[k]? = some (own1 x b) := by rw [hO, List.getElem?_map, zip_at hx hb]; rfl
      have hrep := rep_at (e := false) hOl hlt
      have hset := take_rep (e := false) hOl hOk
      conv => whnf
      refine AWL.run E_ok Tryz.func14 2000 ?_
      conv => whnf
      repeat' (first | with_reducible refine elemP_at (at_map hx) rfl ?_ | with_reducible refine elemP_at (at_map hb) rfl ?_ | with_reducible refine caseB_true ?_ | with_reducible refine caseB_false ?_ | with_reducible refine caseB_yes (by decide) ?_ | with_reducible refine caseB_no (by decide) ?_ | with_reducible refine caseB_yes (by assumption) ?_ | with_reducible refine caseB_no (by assumption) ?_ | with_reducible refine caseB_split (fun _ => ?_) (fun _ => ?_) | ((conv => whnf); (with_reducible refine AWL.run E_ok Tryz.func14 2000 ?_); (conv => whnf); fail_if_success (with_reducible refine AWL.of ?_)) | ((conv => whnf); (with_reducible refine DWL.run E_ok 2000 ?_); (conv => whnf); fail_if_success (with_reducible refine DWL.is ?_)) | ((conv => whnf); (with_reducible refine SWL.run E_ok 2000 ?_); (conv => whnf); fail_if_success (with_reducible refine SWL.is ?_)))
      all_goals
        refine need_intro ⟨by omega, by simp; omega⟩ ?_
        conv => whnf
        refine AWL.run E_ok Tryz.func14 2000 ?_
        conv => whnf
        refine elemP_intro (.bool false) (by omega) (by simp only [Int.toNat_natCast, List.getElem?_map]; rw [hrep]; rfl) rfl ?_
        conv => whnf
        refine AWL.run E_ok Tryz.func14 2000 ?_
        conv => whnf
        refine AWL.back (IH (k + 1) (by omega) (by omega)) ?_
        conv => whnf
        repeat (first | exact trivial | (refine And.intro (by first | with_reducible rfl | exact congrArg (DV.int .i64) (by omega) | exact congrArg (DV.int .i64) (wrap64 (by omega) (by omega)) | exact congrArg (DV.int .i64) ((wrap64 (by omega) (by omega)).trans (by omega))) ?_; conv => whnf))
        refine And.intro (by rw [← hset]; simp only [Int.toNat_natCast, List.map_set]; congr 2; clear hset hrep hOk hO IH hb; rcases b with _ | ⟨c, b⟩ <;> simp_all [own1]) ?_
        conv => whnf
        repeat (first | exact trivial | (refine And.intro (by first | with_reducible rfl | exact congrArg (DV.int .i64) (by omega) | exact congrArg (DV.int .i64) (wrap64 (by omega) (by omega)) | exact congrArg (DV.int .i64) ((wrap64 (by omega) (by omega)).trans (by omega))) ?_; conv => whnf))
    · have hge : l.length ≤ k := by simpa using h5
      conv => whnf
      refine AWL.run E_ok Tryz.func14 2000 ?_
      conv => whnf
      simp only [show l.length - k = 0 by omega, List.replicate_zero, List.append_nil]
      rw [List.take_of_length_le (by omega)]

/-- A set that stands right in a zone, but for its place. -/
def ok1 (apex : Text) (s : Signed) : Bool := setOK s.set && Nm.under s.set.name apex
def before1 (q s : Signed) : Bool := decide (ordS q.set s.set < 0)
def oneB (z : Zone) : Bool := Nm.valid z.apex && !wildL z.apex && !(decide ((z.sets.length : Int) > 20000)) && chain (ok1 z.apex) before1 none z.sets
theorem setOK_name {s : RSet} (h : setOK s = true) : Nm.valid s.name = true := by
  simp only [setOK, Bool.and_eq_true] at h
  exact h.1.1.1.1.1.1
/-- All texts and lists of a zone are such as Go allows. -/
structure Zone.Fits (z : Zone) : Prop where
  apex : z.apex.length ≤ maxLen
  sets : ∀ s ∈ z.sets, s.set.Fits

theorem rone_p (z : Zone) (hf : z.Fits) : PCalls E 47 [z.enc] (· = .bool (oneB z)) := by
  obtain ⟨apex, l⟩ := z
  have hfa : apex.length ≤ maxLen := hf.apex
  have hfs : ∀ s ∈ l, s.set.Fits := hf.sets
  unfold oneB
  simp only
  cases hv : Nm.valid apex
  · refine PCalls.run E_ok (fn := Tryz.f47) Tryz.func47 (body := Tryz.f47.body.getD .skip) rfl (by decide) 2000 ?_
    conv => whnf
    with_reducible refine callP_eq (rvalid_p _ hfa) ?_
    conv => whnf
    refine AWL.run E_ok Tryz.func47 2000 ?_
    conv => whnf
    rw [hv]
    refine caseB_yes rfl ?_
    conv => whnf
    refine AWL.run E_ok Tryz.func47 2000 ?_
    conv => whnf
    refine caseB_true ?_
    conv => whnf
    refine AWL.run E_ok Tryz.func47 2000 ?_
    conv => whnf
    refine caseB_true ?_
    conv => whnf
    refine AWL.run E_ok Tryz.func47 2000 ?_
    conv => whnf
    simp
  · have hal := valid_len hv
    refine PCalls.run E_ok (fn := Tryz.f47) Tryz.func47 (body := Tryz.f47.body.getD .skip) rfl (by decide) 2000 ?_
    conv => whnf
    with_reducible refine callP_eq (rvalid_p _ hfa) ?_
    conv => whnf
    refine AWL.run E_ok Tryz.func47 2000 ?_
    conv => whnf
    rw [hv]
    refine caseB_no rfl ?_
    conv => whnf
    refine AWL.run E_ok Tryz.func47 2000 ?_
    conv => whnf
    with_reducible refine callP_eq (rwildL_p apex (by omega)) ?_
    conv => whnf
    refine AWL.run E_ok Tryz.func47 2000 ?_
    conv => whnf
    cases hw : wildL apex
    case true =>
      refine caseB_true ?_
      conv => whnf
      refine AWL.run E_ok Tryz.func47 2000 ?_
      conv => whnf
      refine caseB_true ?_
      conv => whnf
      refine AWL.run E_ok Tryz.func47 2000 ?_
      conv => whnf
      simp
    refine caseB_false ?_
    conv => whnf
    refine AWL.run E_ok Tryz.func47 2000 ?_
    conv => whnf
    refine caseB_split (fun h3 => ?_) (fun h3 => ?_)
    · conv => whnf
      refine AWL.run E_ok Tryz.func47 2000 ?_
      conv => whnf
      simp only [List.length_map] at h3
      rw [h3]
      simp
    · simp only [List.length_map] at h3
      rw [h3]
      simp only [Bool.not_false, Bool.true_and]
      have h20 : l.length ≤ 20000 := by simp at h3; omega
      conv => whnf
      refine AWL.run E_ok Tryz.func47 2000 ?_
      conv => whnf
      refine AWL.loop (κ := Nat) [2, 3, 4, 20, 21, 22, 23, 24, 25, 26, 27, 28, 29, 30, 31, 32, 33, 34, 35, 36, 37, 38, 39, 40, 41, 42, 43, 44, 45, 46, 47, 48, 49, 50, 51, 52, 53, 54, 55, 56, 57, 58, 59] (fun k => [(3, .d (.int .i64 k))]) (fun _ => []) (fun k => k ≤ l.length ∧ chain (ok1 apex) before1 none l = chain (ok1 apex) before1 (prevA l k) (l.drop k) ∧ ∀ q, prevA l k = some q → setOK q.set = true) (fun k => l.length - k) 0 ⟨Nat.zero_le _, rfl, fun q h => by simp [prevA] at h⟩ ?_ ?_
      · conv => whnf
        repeat (first | exact trivial | (refine And.intro (by first | with_reducible rfl | exact congrArg (DV.int .i64) (by omega) | exact congrArg (DV.int .i64) (wrap64 (by omega) (by omega)) | exact congrArg (DV.int .i64) ((wrap64 (by omega) (by omega)).trans (by omega))) ?_; conv => whnf))
      · intro k hk IH
        refine AWL.head E_ok Tryz.func47 2000 ?_
        conv => whnf
        refine caseB_split (fun h5 => ?_) (fun h5 => ?_)
        · have hlt : k < l.length := by simpa using h5
          obtain ⟨x, hx⟩ := some_of_lt hlt
          have hnext := chain_next (ok := ok1 apex) (rel := before1) hx
          rw [← hk.2.1] at hnext
          have hxf := hfs x (List.mem_of_getElem? hx)
          have hp1 : prevA l (k + 1) = some x := by simp [prevA, hx]
          cases hs : setOK x.set
          · conv => whnf
            refine AWL.run E_ok Tryz.func47 2000 ?_
            conv => whnf
            refine elemP_at (at_map hx) rfl ?_
            conv => whnf
            refine AWL.run E_ok Tryz.func47 2000 ?_
            conv => whnf
            refine AWL.draw E_ok E_mixed 27 2000 (by kernel_rfl) ?_
            conv => whnf
            with_reducible refine callP1_eq (rsetOK_p x.set hxf) ?_
            conv => whnf
            refine DWL.run E_ok 2000 ?_
            conv => whnf
            rw [hs]
            refine caseB_yes rfl ?_
            conv => whnf
            refine DWL.run E_ok 2000 ?_
            conv => whnf
            repeat' (first | with_reducible refine caseB_true ?_ | with_reducible refine caseB_false ?_ | with_reducible refine caseB_yes (by decide) ?_ | with_reducible refine caseB_no (by decide) ?_ | with_reducible refine caseB_yes (by assumption) ?_ | with_reducible refine caseB_no (by assumption) ?_ | with_reducible refine caseB_split (fun _ => ?_) (fun _ => ?_) | ((conv => whnf); (with_reducible refine AWL.run E_ok Tryz.func47 2000 ?_); (conv => whnf); fail_if_success (with_reducible refine AWL.of ?_)) | ((conv => whnf); (with_reducible refine DWL.run E_ok 2000 ?_); (conv => whnf); fail_if_success (with_reducible refine DWL.is ?_)) | ((conv => whnf); (with_reducible refine SWL.run E_ok 2000 ?_); (conv => whnf); fail_if_success (with_reducible refine SWL.is ?_)))
            rw [hnext, ok1, hs]
            simp
          · have hxv := setOK_name hs
            have hxl := valid_len hxv
            conv => whnf
            refine AWL.run E_ok Tryz.func47 2000 ?_
            conv => whnf
            refine elemP_at (at_map hx) rfl ?_
            conv => whnf
            refine AWL.run E_ok Tryz.func47 2000 ?_
            conv => whnf
            refine AWL.draw E_ok E_mixed 27 2000 (by kernel_rfl) ?_
            conv => whnf
            with_reducible refine callP1_eq (rsetOK_p x.set hxf) ?_
            conv => whnf
            refine DWL.run E_ok 2000 ?_
            conv => whnf
            rw [hs]
            refine caseB_no rfl ?_
            conv => whnf
            refine DWL.run E_ok 2000 ?_
            conv => whnf
            with_reducible refine callP1_eq (rin_p x.set.name apex (by omega) (by omega)) ?_
            conv => whnf
            refine DWL.run E_ok 2000 ?_
            conv => whnf
            rcases Nat.eq_zero_or_pos k with hk0 | hk0
            · have hpq : prevA l k = none := by simp [prevA, hk0]
              rw [hpq] at hnext
              dsimp only at hnext
              rw [Bool.and_true] at hnext
              repeat' (first | with_reducible refine caseB_true ?_ | with_reducible refine caseB_false ?_ | with_reducible refine caseB_yes (by decide) ?_ | with_reducible refine caseB_no (by decide) ?_ | with_reducible refine caseB_yes (by assumption) ?_ | with_reducible refine caseB_no (by assumption) ?_ | with_reducible refine caseB_split (fun _ => ?_) (fun _ => ?_) | ((conv => whnf); (with_reducible refine AWL.run E_ok Tryz.func47 2000 ?_); (conv => whnf); fail_if_success (with_reducible refine AWL.of ?_)) | ((conv => whnf); (with_reducible refine DWL.run E_ok 2000 ?_); (conv => whnf); fail_if_success (with_reducible refine DWL.is ?_)) | ((conv => whnf); (with_reducible refine SWL.run E_ok 2000 ?_); (conv => whnf); fail_if_success (with_reducible refine SWL.is ?_)))
              all_goals first
                | (have hno : ok1 apex x = false := by clear hnext hk IH; simp_all [ok1]
                   rw [hnext, hno, Bool.false_and]
                   done)
                | (exfalso; clear hnext hk IH; simp_all; done)
                | skip
              all_goals
                conv => whnf
                refine AWL.run E_ok Tryz.func47 2000 ?_
                conv => whnf
                refine AWL.back (IH (k + 1) ⟨by omega, by rw [hnext, show ok1 apex x = true by clear hnext hk IH; simp_all [ok1], Bool.true_and], fun q hq => by rw [hp1] at hq; cases hq; exact hs⟩ (by omega)) ?_
                conv => whnf
                repeat (first | exact trivial | (refine And.intro (by first | with_reducible rfl | exact congrArg (DV.int .i64) (by omega) | exact congrArg (DV.int .i64) (wrap64 (by omega) (by omega)) | exact congrArg (DV.int .i64) ((wrap64 (by omega) (by omega)).trans (by omega))) ?_; conv => whnf))
            · obtain ⟨q, hq, hpq⟩ := prevA_some hk0 hk.1
              have hqv := setOK_name (hk.2.2 q hpq)
              rw [hpq] at hnext
              repeat' (first | with_reducible refine elemP_at (at_prev hq hk0 (by omega)) rfl ?_ | with_reducible refine callP_eq (rordS_p q.set x.set hqv hxv) ?_ | with_reducible refine callP1_eq (rordS_p q.set x.set hqv hxv) ?_ | with_reducible refine caseB_true ?_ | with_reducible refine caseB_false ?_ | with_reducible refine caseB_yes (by decide) ?_ | with_reducible refine caseB_no (by decide) ?_ | with_reducible refine caseB_yes (by assumption) ?_ | with_reducible refine caseB_no (by assumption) ?_ | with_reducible refine caseB_split (fun _ => ?_) (fun _ => ?_) | ((conv => whnf); (with_reducible refine AWL.run E_ok Tryz.func47 2000 ?_); (conv => whnf); fail_if_success (with_reducible refine AWL.of ?_)) | ((conv => whnf); (with_reducible refine DWL.run E_ok 2000 ?_); (conv => whnf); fail_if_success (with_reducible refine DWL.is ?_)) | ((conv => whnf); (with_reducible refine SWL.run E_ok 2000 ?_); (conv => whnf); fail_if_success (with_reducible refine SWL.is ?_)))
              all_goals first
                | (have hno : (ok1 apex x && before1 q x) = false := by clear hnext hk IH; simp_all [ok1, before1]
                   rw [hnext, hno, Bool.false_and]
                   done)
                | (exfalso; clear hnext hk IH; simp_all; omega)
                | skip
              all_goals
                conv => whnf
                refine AWL.run E_ok Tryz.func47 2000 ?_
                conv => whnf
                refine AWL.back (IH (k + 1) ⟨by omega, by rw [hnext, show (ok1 apex x && before1 q x) = true by clear hnext hk IH; simp_all [ok1, before1], Bool.true_and], fun q hq => by rw [hp1] at hq; cases hq; exact hs⟩ (by omega)) ?_
                conv => whnf
                repeat (first | exact trivial | (refine And.intro (by first | with_reducible rfl | exact congrArg (DV.int .i64) (by omega) | exact congrArg (DV.int .i64) (wrap64 (by omega) (by omega)) | exact congrArg (DV.int .i64) ((wrap64 (by omega) (by omega)).trans (by omega))) ?_; conv => whnf))
        · have hge : l.length ≤ k := by simpa using h5
          conv => whnf
          refine AWL.run E_ok Tryz.func47 2000 ?_
          conv => whnf
          rw [hk.2.1, List.drop_of_length_le hge]
          rfl

/-- A set of the right type behind a cut, and anchors at cuts. -/
def four1 (s : Signed) (b : Text) : Bool := !(b != [] && s.set.type != 1 && !(b != [] && s.set.name == b)) && !((b != [] && s.set.name == b) && s.set.type != 1 && s.set.type != 2 && s.set.type != 6 && s.set.type != 8) && !(s.set.type == 6 && !(b != [] && s.set.name == b))
def fourB (z : Zone) : Bool := (z.sets.zip (behindZ z)).all fun p => four1 p.1 p.2
theorem rfour_p (z : Zone) (hl : z.sets.length ≤ 1000000) (hn : ∀ s ∈ z.sets, s.set.name.length ≤ 1000) : PCalls E 50 [z.enc] (· = .bool (fourB z)) := by
  have hBl := behindZ_len z
  unfold fourB
  refine PCalls.run E_ok (fn := Tryz.f50) Tryz.func50 (body := Tryz.f50.body.getD .skip) rfl (by decide) 2000 ?_
  conv => whnf
  with_reducible refine callP_eq (rbehind_p z hl hn) ?_
  conv => whnf
  refine AWL.run E_ok Tryz.func50 2000 ?_
  conv => whnf
  generalize behindZ z = B at *
  obtain ⟨apex, l⟩ := z
  simp only at *
  refine AWL.loop (κ := Nat) [2, 4, 5, 6, 9, 10, 11, 12, 13, 14, 15, 16, 17, 18, 19, 20, 21, 22, 23, 24, 25, 26, 27, 28, 29, 30, 31, 32, 33, 34, 35, 36, 37, 38, 39, 40, 41, 42, 43, 44, 45, 46, 47, 48, 49, 50, 51, 52, 53, 54, 55, 56, 57, 58, 59, 60, 61, 62, 63, 64, 65, 66, 67, 68, 69, 70, 71, 72, 73, 74, 75, 76, 77] (fun k => [(4, .d (.int .i64 k))]) (fun _ => []) (fun k => k ≤ l.length ∧ ((l.zip B).take k).all (fun p => four1 p.1 p.2) = true) (fun k => l.length - k) 0 ⟨Nat.zero_le _, rfl⟩ ?_ ?_
  · conv => whnf
    repeat (first | exact trivial | (refine And.intro (by first | with_reducible rfl | exact congrArg (DV.int .i64) (by omega) | exact congrArg (DV.int .i64) (wrap64 (by omega) (by omega)) | exact congrArg (DV.int .i64) ((wrap64 (by omega) (by omega)).trans (by omega))) ?_; conv => whnf))
  · intro k hk IH
    refine AWL.head E_ok Tryz.func50 2000 ?_
    conv => whnf
    refine caseB_split (fun h5 => ?_) (fun h5 => ?_)
    · have hlt : k < l.length := by simpa using h5
      obtain ⟨x, hx⟩ := some_of_lt hlt
      obtain ⟨b, hb⟩ := some_of_lt (l := B) (k := k) (by omega)
      have hz := zip_at hx hb
      conv => whnf
      refine AWL.run E_ok Tryz.func50 2000 ?_
      conv => whnf
      refine elemP_at (at_map hx) rfl ?_
      conv => whnf
      refine AWL.run E_ok Tryz.func50 2000 ?_
      conv => whnf
      refine AWL.draw E_ok E_mixed 15 2000 (by kernel_rfl) ?_
      conv => whnf
      repeat' (first | with_reducible refine elemP_at (at_map hb) rfl ?_ | with_reducible refine caseB_true ?_ | with_reducible refine caseB_false ?_ | with_reducible refine caseB_yes (by decide) ?_ | with_reducible refine caseB_no (by decide) ?_ | with_reducible refine caseB_yes (by assumption) ?_ | with_reducible refine caseB_no (by assumption) ?_ | with_reducible refine caseB_split (fun _ => ?_) (fun _ => ?_) | ((conv => whnf); (with_reducible refine AWL.run E_ok Tryz.func50 2000 ?_); (conv => whnf); fail_if_success (with_reducible refine AWL.of ?_)) | ((conv => whnf); (with_reducible refine DWL.run E_ok 2000 ?_); (conv => whnf); fail_if_success (with_reducible refine DWL.is ?_)) | ((conv => whnf); (with_reducible refine SWL.run E_ok 2000 ?_); (conv => whnf); fail_if_success (with_reducible refine SWL.is ?_)))
      all_goals first
        | (rw [all_no hz (by clear hz hb hk IH; rcases b with _ | ⟨c, b⟩ <;> simp_all [four1])]; done)
        | (exfalso; clear hz hb hk IH; rcases b with _ | ⟨c, b⟩ <;> simp_all; done)
        | skip
      all_goals
        conv => whnf
        refine AWL.run E_ok Tryz.func50 2000 ?_
        conv => whnf
        refine AWL.back (IH (k + 1) ⟨by omega, all_next hk.2 hz (by clear hz hb hk IH; rcases b with _ | ⟨c, b⟩ <;> simp_all [four1])⟩ (by omega)) ?_
        conv => whnf
        repeat (first | exact trivial | (refine And.intro (by first | with_reducible rfl | exact congrArg (DV.int .i64) (by omega) | exact congrArg (DV.int .i64) (wrap64 (by omega) (by omega)) | exact congrArg (DV.int .i64) ((wrap64 (by omega) (by omega)).trans (by omega))) ?_; conv => whnf))
    · have hge : l.length ≤ k := by simpa using h5
      conv => whnf
      refine AWL.run E_ok Tryz.func50 2000 ?_
      conv => whnf
      rw [all_end hk.2 (by simp; omega)]

def five1 (apex : Text) (s : Signed) (o : Bool) : Bool := sigsB s.sigs apex && !(!o && decide ((s.sigs.length : Int) > 0))
def fiveB (z : Zone) : Bool := (z.sets.zip (ownZ z)).all fun p => five1 z.apex p.1 p.2
theorem rfive_p (z : Zone) (hl : z.sets.length ≤ 1000000) (hn : ∀ s ∈ z.sets, s.set.name.length ≤ 1000) : PCalls E 51 [z.enc] (· = .bool (fiveB z)) := by
  have hOl := ownZ_len z
  unfold fiveB
  refine PCalls.run E_ok (fn := Tryz.f51) Tryz.func51 (body := Tryz.f51.body.getD .skip) rfl (by decide) 2000 ?_
  conv => whnf
  with_reducible refine callP_eq (rown_p z hl hn) ?_
  conv => whnf
  refine AWL.run E_ok Tryz.func51 2000 ?_
  conv => whnf
  generalize ownZ z = O at *
  obtain ⟨apex, l⟩ := z
  simp only at *
  refine AWL.loop (κ := Nat) [2, 4, 7, 8, 9, 10, 11, 12, 13, 14, 15, 16, 17, 18, 19, 20, 21, 22, 23, 24, 25, 26, 27, 28, 29, 30, 31, 32, 33, 34, 35, 36, 37, 38, 39, 40] (fun k => [(4, .d (.int .i64 k))]) (fun _ => []) (fun k => k ≤ l.length ∧ ((l.zip O).take k).all (fun p => five1 apex p.1 p.2) = true) (fun k => l.length - k) 0 ⟨Nat.zero_le _, rfl⟩ ?_ ?_
  · conv => whnf
    repeat (first | exact trivial | (refine And.intro (by first | with_reducible rfl | exact congrArg (DV.int .i64) (by omega) | exact congrArg (DV.int .i64) (wrap64 (by omega) (by omega)) | exact congrArg (DV.int .i64) ((wrap64 (by omega) (by omega)).trans (by omega))) ?_; conv => whnf))
  · intro k hk IH
    refine AWL.head E_ok Tryz.func51 2000 ?_
    conv => whnf
    refine caseB_split (fun h5 => ?_) (fun h5 => ?_)
    · have hlt : k < l.length := by simpa using h5
      obtain ⟨x, hx⟩ := some_of_lt hlt
      obtain ⟨b, hb⟩ := some_of_lt (l := O) (k := k) (by omega)
      have hz := zip_at hx hb
      conv => whnf
      refine AWL.run E_ok Tryz.func51 2000 ?_
      conv => whnf
      refine AWL.draw E_ok E_mixed 27 2000 (by kernel_rfl) ?_
      conv => whnf
      repeat' (first | with_reducible refine elemP_at (at_map hx) rfl ?_ | with_reducible refine elemP_at (at_map hb) rfl ?_ | with_reducible refine callP_eq (rsigs_p _ _) ?_ | with_reducible refine callP1_eq (rsigs_p _ _) ?_ | with_reducible refine caseB_true ?_ | with_reducible refine caseB_false ?_ | with_reducible refine caseB_yes (by decide) ?_ | with_reducible refine caseB_no (by decide) ?_ | with_reducible refine caseB_yes (by assumption) ?_ | with_reducible refine caseB_no (by assumption) ?_ | with_reducible refine caseB_split (fun _ => ?_) (fun _ => ?_) | ((conv => whnf); (with_reducible refine AWL.run E_ok Tryz.func51 2000 ?_); (conv => whnf); fail_if_success (with_reducible refine AWL.of ?_)) | ((conv => whnf); (with_reducible refine DWL.run E_ok 2000 ?_); (conv => whnf); fail_if_success (with_reducible refine DWL.is ?_)) | ((conv => whnf); (with_reducible refine SWL.run E_ok 2000 ?_); (conv => whnf); fail_if_success (with_reducible refine SWL.is ?_)))
      all_goals first
        | (rw [all_no hz (by clear hz hb hk IH; simp_all [five1])]; done)
        | (exfalso; clear hz hb hk IH; simp_all; done)
        | skip
      all_goals
        conv => whnf
        refine AWL.run E_ok Tryz.func51 2000 ?_
        conv => whnf
        refine AWL.back (IH (k + 1) ⟨by omega, all_next hk.2 hz (by clear hz hb hk IH; simp_all [five1])⟩ (by omega)) ?_
        conv => whnf
        repeat (first | exact trivial | (refine And.intro (by first | with_reducible rfl | exact congrArg (DV.int .i64) (by omega) | exact congrArg (DV.int .i64) (wrap64 (by omega) (by omega)) | exact congrArg (DV.int .i64) ((wrap64 (by omega) (by omega)).trans (by omega))) ?_; conv => whnf))
    · have hge : l.length ≤ k := by simpa using h5
      conv => whnf
      refine AWL.run E_ok Tryz.func51 2000 ?_
      conv => whnf
      rw [all_end hk.2 (by simp; omega)]

/-- The reference implementation's valid zone. -/
def zoneR (z : Zone) : Bool := oneB z && (twoB z && (threeL [] none z.sets && (fourB z && fiveB z)))
theorem chain_mem {α : Type} {ok : α → Bool} {rel : α → α → Bool} : ∀ {p : Option α} {l : List α}, chain ok rel p l = true → ∀ x ∈ l, ok x = true
  | _, [], _, x, hx => by simp at hx
  | p, y :: l, h, x, hx => by
    simp only [chain, Bool.and_eq_true] at h
    rcases List.mem_cons.1 hx with rfl | hx
    · exact h.1.1
    · exact chain_mem h.2 x hx
theorem oneB_sets {z : Zone} (h : oneB z = true) : z.sets.length ≤ 20000 ∧ (∀ s ∈ z.sets, ok1 z.apex s = true) ∧ Nm.valid z.apex = true := by
  simp only [oneB, Bool.and_eq_true] at h
  refine ⟨by have := h.1.2; simp at this; omega, chain_mem h.2, h.1.1.1⟩
theorem ok1_name {apex : Text} {s : Signed} (h : ok1 apex s = true) : s.set.name.length ≤ 60 := by
  simp only [ok1, Bool.and_eq_true] at h
  exact valid_len (setOK_name h.1)
theorem rzone_p (z : Zone) (hf : z.Fits) : PCalls E 12 [z.enc] (· = .bool (zoneR z)) := by
  unfold zoneR
  cases h1 : oneB z
  · have hone := rone_p z hf
    rw [h1] at hone
    refine PCalls.run E_ok (fn := Tryz.f12) Tryz.func12 (body := Tryz.f12.body.getD .skip) rfl (by decide) 2000 ?_
    conv => whnf
    repeat' (first | with_reducible refine callP_eq (hone) ?_ | with_reducible refine callP1_eq (hone) ?_ | with_reducible refine caseB_true ?_ | with_reducible refine caseB_false ?_ | with_reducible refine caseB_yes (by decide) ?_ | with_reducible refine caseB_no (by decide) ?_ | with_reducible refine caseB_yes (by assumption) ?_ | with_reducible refine caseB_no (by assumption) ?_ | with_reducible refine caseB_split (fun _ => ?_) (fun _ => ?_) | ((conv => whnf); (with_reducible refine AWL.run E_ok Tryz.func12 2000 ?_); (conv => whnf); fail_if_success (with_reducible refine AWL.of ?_)) | ((conv => whnf); (with_reducible refine DWL.run E_ok 2000 ?_); (conv => whnf); fail_if_success (with_reducible refine DWL.is ?_)) | ((conv => whnf); (with_reducible refine SWL.run E_ok 2000 ?_); (conv => whnf); fail_if_success (with_reducible refine SWL.is ?_)))
    all_goals simp_all
  · obtain ⟨g1, g2, -⟩ := oneB_sets h1
    have gl : z.sets.length ≤ 1000000 := by omega
    have gn : ∀ s ∈ z.sets, s.set.name.length ≤ 1000 := fun s hs => by have := ok1_name (g2 s hs); omega
    have hone := rone_p z hf
    rw [h1] at hone
    refine PCalls.run E_ok (fn := Tryz.f12) Tryz.func12 (body := Tryz.f12.body.getD .skip) rfl (by decide) 2000 ?_
    conv => whnf
    repeat' (first | with_reducible refine callP_eq (hone) ?_ | with_reducible refine callP1_eq (hone) ?_ | with_reducible refine callP_eq (rtwo_p z (by omega)) ?_ | with_reducible refine callP1_eq (rtwo_p z (by omega)) ?_ | with_reducible refine callP_eq (rthree_p z (by omega)) ?_ | with_reducible refine callP1_eq (rthree_p z (by omega)) ?_ | with_reducible refine callP_eq (rfour_p z gl gn) ?_ | with_reducible refine callP1_eq (rfour_p z gl gn) ?_ | with_reducible refine callP_eq (rfive_p z gl gn) ?_ | with_reducible refine callP1_eq (rfive_p z gl gn) ?_ | with_reducible refine caseB_true ?_ | with_reducible refine caseB_false ?_ | with_reducible refine caseB_yes (by decide) ?_ | with_reducible refine caseB_no (by decide) ?_ | with_reducible refine caseB_yes (by assumption) ?_ | with_reducible refine caseB_no (by assumption) ?_ | with_reducible refine caseB_split (fun _ => ?_) (fun _ => ?_) | ((conv => whnf); (with_reducible refine AWL.run E_ok Tryz.func12 2000 ?_); (conv => whnf); fail_if_success (with_reducible refine AWL.of ?_)) | ((conv => whnf); (with_reducible refine DWL.run E_ok 2000 ?_); (conv => whnf); fail_if_success (with_reducible refine DWL.is ?_)) | ((conv => whnf); (with_reducible refine SWL.run E_ok 2000 ?_); (conv => whnf); fail_if_success (with_reducible refine SWL.is ?_)))
    all_goals simp_all

end Go.Proofs.YtebielkakdhelaaGreatDoor.P
