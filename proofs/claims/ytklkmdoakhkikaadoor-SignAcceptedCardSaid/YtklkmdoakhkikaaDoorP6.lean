/- Contracts by the engine: the reference implementation of records, and of small parts of signatures. Conditions: lengths that Go allows. -/
import Derived.Test.YtklkmdoakhkikaaDoorP5
namespace Go.Proofs.YtklkmdoakhkikaaDoor.P
open Go Go.Eng
set_option maxRecDepth 100000

theorem all_no {α : Type} {p : α → Bool} {l : List α} {k : Nat} {x : α} (h : l[k]? = some x) (hx : p x = false) : l.all p = false := by
  rw [Bool.eq_false_iff]
  intro hall
  have := List.all_eq_true.1 hall x (List.mem_of_getElem? h)
  rw [hx] at this
  cases this
theorem all_next {α : Type} {p : α → Bool} {l : List α} {k : Nat} {x : α} (hk : (l.take k).all p = true) (h : l[k]? = some x) (hx : p x = true) : (l.take (k + 1)).all p = true := by
  rw [take_next h, List.all_append, hk]; simp [hx]
theorem all_end {α : Type} {p : α → Bool} {l : List α} {k : Nat} (hk : (l.take k).all p = true) (h : l.length ≤ k) : l.all p = true := by
  rwa [List.take_of_length_le h] at hk

theorem rwithin_p (x a b : Int) : PCalls E 34 [.int .i64 x, .int .i64 a, .int .i64 b] (· = .bool (decide (a ≤ x) && decide (x ≤ b))) := by
  refine PCalls.run E_ok (fn := Tryd.f34) Tryd.func34 (body := Tryd.f34.body.getD .skip) rfl (by decide) 2000 ?_
  conv => whnf
  repeat' (first | with_reducible refine caseB_true ?_ | with_reducible refine caseB_false ?_ | with_reducible refine caseB_yes (by decide) ?_ | with_reducible refine caseB_no (by decide) ?_ | with_reducible refine caseB_split (fun _ => ?_) (fun _ => ?_) | ((conv => whnf); (with_reducible refine AWL.run E_ok Tryd.func34 2000 ?_); (conv => whnf); fail_if_success (with_reducible refine AWL.of ?_)) | ((conv => whnf); (with_reducible refine DWL.run E_ok 2000 ?_); (conv => whnf); fail_if_success (with_reducible refine DWL.is ?_)) | ((conv => whnf); (with_reducible refine SWL.run E_ok 2000 ?_); (conv => whnf); fail_if_success (with_reducible refine SWL.is ?_)))
  all_goals simp_all
  all_goals omega
theorem rsingle_p (t : Int) : PCalls E 35 [.int .i64 t] (· = .bool (t == 3 || t == 4)) := by
  refine PCalls.run E_ok (fn := Tryd.f35) Tryd.func35 (body := Tryd.f35.body.getD .skip) rfl (by decide) 2000 ?_
  conv => whnf
  repeat' (first | with_reducible refine caseB_true ?_ | with_reducible refine caseB_false ?_ | with_reducible refine caseB_yes (by decide) ?_ | with_reducible refine caseB_no (by decide) ?_ | with_reducible refine caseB_split (fun _ => ?_) (fun _ => ?_) | ((conv => whnf); (with_reducible refine AWL.run E_ok Tryd.func35 2000 ?_); (conv => whnf); fail_if_success (with_reducible refine AWL.of ?_)) | ((conv => whnf); (with_reducible refine DWL.run E_ok 2000 ?_); (conv => whnf); fail_if_success (with_reducible refine DWL.is ?_)) | ((conv => whnf); (with_reducible refine SWL.run E_ok 2000 ?_); (conv => whnf); fail_if_success (with_reducible refine SWL.is ?_)))
  all_goals simp_all
def lessD (a b : Datum) : Bool := if a.text ≠ b.text then Op.bytesLess a.text b.text else if a.n ≠ b.n then decide (a.n < b.n) else decide (a.m < b.m)
theorem rless_p (a b : Datum) : PCalls E 37 [a.enc, b.enc] (· = .bool (lessD a b)) := by
  refine PCalls.run E_ok (fn := Tryd.f37) Tryd.func37 (body := Tryd.f37.body.getD .skip) rfl (by decide) 2000 ?_
  conv => whnf
  repeat' (first | with_reducible refine caseB_true ?_ | with_reducible refine caseB_false ?_ | with_reducible refine caseB_yes (by decide) ?_ | with_reducible refine caseB_no (by decide) ?_ | with_reducible refine caseB_split (fun _ => ?_) (fun _ => ?_) | ((conv => whnf); (with_reducible refine AWL.run E_ok Tryd.func37 2000 ?_); (conv => whnf); fail_if_success (with_reducible refine AWL.of ?_)) | ((conv => whnf); (with_reducible refine DWL.run E_ok 2000 ?_); (conv => whnf); fail_if_success (with_reducible refine DWL.is ?_)) | ((conv => whnf); (with_reducible refine SWL.run E_ok 2000 ?_); (conv => whnf); fail_if_success (with_reducible refine SWL.is ?_)))
  all_goals simp_all [lessD]
theorem rkey_p (k : Key) : PCalls E 14 [k.enc] (· = .bool (keyOK k)) := by
  refine PCalls.run E_ok (fn := Tryd.f14) Tryd.func14 (body := Tryd.f14.body.getD .skip) rfl (by decide) 2000 ?_
  conv => whnf
  repeat' (first | with_reducible refine caseB_true ?_ | with_reducible refine caseB_false ?_ | with_reducible refine caseB_yes (by decide) ?_ | with_reducible refine caseB_no (by decide) ?_ | with_reducible refine caseB_split (fun _ => ?_) (fun _ => ?_) | ((conv => whnf); (with_reducible refine AWL.run E_ok Tryd.func14 2000 ?_); (conv => whnf); fail_if_success (with_reducible refine AWL.of ?_)) | ((conv => whnf); (with_reducible refine DWL.run E_ok 2000 ?_); (conv => whnf); fail_if_success (with_reducible refine DWL.is ?_)) | ((conv => whnf); (with_reducible refine SWL.run E_ok 2000 ?_); (conv => whnf); fail_if_success (with_reducible refine SWL.is ?_)))
  all_goals simp_all [keyOK]
  all_goals omega
theorem rwindow_p (a b : Int) : PCalls E 15 [.int .i64 a, .int .i64 b] (· = .bool (winOK a b)) := by
  refine PCalls.run E_ok (fn := Tryd.f15) Tryd.func15 (body := Tryd.f15.body.getD .skip) rfl (by decide) 2000 ?_
  conv => whnf
  repeat' (first | with_reducible refine caseB_true ?_ | with_reducible refine caseB_false ?_ | with_reducible refine caseB_yes (by decide) ?_ | with_reducible refine caseB_no (by decide) ?_ | with_reducible refine caseB_split (fun _ => ?_) (fun _ => ?_) | ((conv => whnf); (with_reducible refine AWL.run E_ok Tryd.func15 2000 ?_); (conv => whnf); fail_if_success (with_reducible refine AWL.of ?_)) | ((conv => whnf); (with_reducible refine DWL.run E_ok 2000 ?_); (conv => whnf); fail_if_success (with_reducible refine DWL.is ?_)) | ((conv => whnf); (with_reducible refine SWL.run E_ok 2000 ?_); (conv => whnf); fail_if_success (with_reducible refine SWL.is ?_)))
  all_goals simp_all [winOK]
  all_goals omega

theorem rtext_p (t : Text) : PCalls E 58 [.str t] (· = .bool (freeB t)) := by
  by_cases hb : 1 ≤ t.length ∧ t.length ≤ 40
  · obtain ⟨c0, hc0⟩ := some_of_lt (l := t) (k := 0) (by omega)
    obtain ⟨c1, hc1⟩ := some_of_lt (l := t) (k := t.length - 1) (by omega)
    have hw : (IntKind.i64.wrap (t.length - 1)) = ((t.length - 1 : Nat) : Int) := by rw [wrap64 (by omega) (by omega)]; omega
    refine PCalls.run E_ok (fn := Tryd.f58) Tryd.func58 (body := Tryd.f58.body.getD .skip) rfl (by decide) 2000 ?_
    conv => whnf
    refine caseB_no (by simp; omega) ?_
    conv => whnf
    refine AWL.run E_ok Tryd.func58 2000 ?_
    conv => whnf
    refine caseB_no (by simp; omega) ?_
    conv => whnf
    refine AWL.run E_ok Tryd.func58 2000 ?_
    conv => whnf
    refine byteP_intro c0 (by decide) hc0 ?_
    conv => whnf
    refine AWL.run E_ok Tryd.func58 2000 ?_
    conv => whnf
    refine caseB_split (fun h2 => ?_) (fun h2 => ?_)
    · conv => whnf
      refine AWL.run E_ok Tryd.func58 2000 ?_
      conv => whnf
      refine caseB_true ?_
      conv => whnf
      refine AWL.run E_ok Tryd.func58 2000 ?_
      conv => whnf
      have e1 : t.head? = some c0 := by rw [← hc0]; exact List.head?_eq_getElem?
      simp only [freeB, e1, Option.any_some, h2, Bool.not_true, Bool.and_false, Bool.false_and]
    · conv => whnf
      refine AWL.run E_ok Tryd.func58 2000 ?_
      conv => whnf
      rw [hw]
      refine byteP_intro c1 (by omega) (by rw [Int.toNat_natCast]; exact hc1) ?_
      conv => whnf
      refine AWL.run E_ok Tryd.func58 2000 ?_
      conv => whnf
      refine caseB_split (fun h3 => ?_) (fun h3 => ?_)
      · conv => whnf
        refine AWL.run E_ok Tryd.func58 2000 ?_
        conv => whnf
        have e2 : t.getLast? = some c1 := by rw [← hc1, List.getLast?_eq_getElem?]
        simp only [freeB, e2, Option.any_some, h3, Bool.not_true, Bool.and_false, Bool.false_and]
      · rw [freeB_of hb.1 hb.2 hc0 hc1 h2 h3]
        conv => whnf
        refine AWL.run E_ok Tryd.func58 2000 ?_
        conv => whnf
        refine AWL.loop (κ := Nat) [2, 4, 5, 26, 27, 28, 29, 30, 31, 32, 33, 34, 35, 36, 37, 38, 39, 40, 41, 42, 43, 44, 45, 46, 47, 48, 49, 50, 51] (fun k => [(4, .d (.int .i64 k))]) (fun _ => []) (fun k => k ≤ t.length ∧ (t.take k).all okc = true) (fun k => t.length - k) 0 ⟨Nat.zero_le _, rfl⟩ ?_ ?_
        · conv => whnf
          repeat (first | exact trivial | (refine And.intro (by first | with_reducible rfl | exact congrArg (DV.int .i64) (by omega) | exact congrArg (DV.int .i64) (wrap64 (by omega) (by omega)) | exact congrArg (DV.int .i64) ((wrap64 (by omega) (by omega)).trans (by omega))) ?_; conv => whnf))
        · intro k hk IH
          refine AWL.head E_ok Tryd.func58 2000 ?_
          conv => whnf
          refine caseB_split (fun h4 => ?_) (fun h4 => ?_)
          · simp at h4
            obtain ⟨c, hc⟩ := some_of_lt h4
            conv => whnf
            refine AWL.run E_ok Tryd.func58 2000 ?_
            conv => whnf
            refine byteP_intro c (by omega) (by rw [Int.toNat_natCast]; exact hc) ?_
            conv => whnf
            refine AWL.run E_ok Tryd.func58 2000 ?_
            conv => whnf
            repeat' (first | with_reducible refine caseB_true ?_ | with_reducible refine caseB_false ?_ | with_reducible refine caseB_yes (by decide) ?_ | with_reducible refine caseB_no (by decide) ?_ | with_reducible refine caseB_split (fun _ => ?_) (fun _ => ?_) | ((conv => whnf); (with_reducible refine AWL.run E_ok Tryd.func58 2000 ?_); (conv => whnf); fail_if_success (with_reducible refine AWL.of ?_)) | ((conv => whnf); (with_reducible refine DWL.run E_ok 2000 ?_); (conv => whnf); fail_if_success (with_reducible refine DWL.is ?_)) | ((conv => whnf); (with_reducible refine SWL.run E_ok 2000 ?_); (conv => whnf); fail_if_success (with_reducible refine SWL.is ?_)))
            all_goals first
              | (rw [all_no hc (by simp_all [okc] <;> omega)]; done)
              | skip
            all_goals
              conv => whnf
              refine AWL.run E_ok Tryd.func58 2000 ?_
              conv => whnf
              refine AWL.back (IH (k + 1) ⟨by omega, all_next hk.2 hc (by simp_all [okc] <;> omega)⟩ (by omega)) ?_
              conv => whnf
              repeat (first | exact trivial | (refine And.intro (by first | with_reducible rfl | exact congrArg (DV.int .i64) (by omega) | exact congrArg (DV.int .i64) (wrap64 (by omega) (by omega)) | exact congrArg (DV.int .i64) ((wrap64 (by omega) (by omega)).trans (by omega))) ?_; conv => whnf))
          · simp at h4
            conv => whnf
            refine AWL.run E_ok Tryd.func58 2000 ?_
            conv => whnf
            rw [all_end hk.2 h4]
  · have hno : freeB t = false := by
      simp only [freeB, Bool.and_eq_false_iff, decide_eq_false_iff_not]
      omega
    rw [hno]
    refine PCalls.run E_ok (fn := Tryd.f58) Tryd.func58 (body := Tryd.f58.body.getD .skip) rfl (by decide) 2000 ?_
    conv => whnf
    refine caseB_split (fun h => ?_) (fun h => ?_)
    · conv => whnf
      refine AWL.run E_ok Tryd.func58 2000 ?_
      conv => whnf
      refine caseB_true ?_
      conv => whnf
      refine AWL.run E_ok Tryd.func58 2000 ?_
      conv => whnf
      refine caseB_true ?_
      conv => whnf
      refine AWL.run E_ok Tryd.func58 2000 ?_
      conv => whnf
      refine caseB_true ?_
      conv => whnf
      refine AWL.run E_ok Tryd.func58 2000 ?_
      conv => whnf
    · simp at h
      conv => whnf
      refine AWL.run E_ok Tryd.func58 2000 ?_
      conv => whnf
      refine caseB_yes (by simp; omega) ?_
      conv => whnf
      refine AWL.run E_ok Tryd.func58 2000 ?_
      conv => whnf
      refine caseB_true ?_
      conv => whnf
      refine AWL.run E_ok Tryd.func58 2000 ?_
      conv => whnf
      refine caseB_true ?_
      conv => whnf
      refine AWL.run E_ok Tryd.func58 2000 ?_
      conv => whnf

theorem eq0 (n : Int) : (n == 0) = (decide (0 ≤ n) && decide (n ≤ 0)) := by
  rw [Bool.eq_iff_iff]
  simp
  omega
theorem rdatum_p (k : Nat) (d : Datum) (hk : 1 ≤ k ∧ k ≤ 8) (hd : d.text.length ≤ maxLen) : PCalls E 36 [.int .i64 k, d.enc] (· = .bool (datumOK (ruleOf k) d)) := by
  match k, hk with
  | 1, _ =>
    refine PCalls.run E_ok (fn := Tryd.f36) Tryd.func36 (body := Tryd.f36.body.getD .skip) rfl (by decide) 2000 ?_
    conv => whnf
    repeat' (first | with_reducible refine callP_eq (rwithin_p _ _ _) ?_ | with_reducible refine callP1_eq (rwithin_p _ _ _) ?_ | with_reducible refine callP_eq (rvalid_p _ hd) ?_ | with_reducible refine callP1_eq (rvalid_p _ hd) ?_ | with_reducible refine callP_eq (rwild_p _ hd) ?_ | with_reducible refine callP1_eq (rwild_p _ hd) ?_ | with_reducible refine callP_eq (rtext_p _) ?_ | with_reducible refine callP1_eq (rtext_p _) ?_ | with_reducible refine caseB_true ?_ | with_reducible refine caseB_false ?_ | with_reducible refine caseB_yes (by decide) ?_ | with_reducible refine caseB_no (by decide) ?_ | with_reducible refine caseB_split (fun _ => ?_) (fun _ => ?_) | ((conv => whnf); (with_reducible refine AWL.run E_ok Tryd.func36 2000 ?_); (conv => whnf); fail_if_success (with_reducible refine AWL.of ?_)) | ((conv => whnf); (with_reducible refine DWL.run E_ok 2000 ?_); (conv => whnf); fail_if_success (with_reducible refine DWL.is ?_)) | ((conv => whnf); (with_reducible refine SWL.run E_ok 2000 ?_); (conv => whnf); fail_if_success (with_reducible refine SWL.is ?_)))
    all_goals simp_all [datumOK, textOK, ruleOf]
    all_goals first | omega | exact eq0 _
  | 2, _ =>
    refine PCalls.run E_ok (fn := Tryd.f36) Tryd.func36 (body := Tryd.f36.body.getD .skip) rfl (by decide) 2000 ?_
    conv => whnf
    repeat' (first | with_reducible refine callP_eq (rwithin_p _ _ _) ?_ | with_reducible refine callP1_eq (rwithin_p _ _ _) ?_ | with_reducible refine callP_eq (rvalid_p _ hd) ?_ | with_reducible refine callP1_eq (rvalid_p _ hd) ?_ | with_reducible refine callP_eq (rwild_p _ hd) ?_ | with_reducible refine callP1_eq (rwild_p _ hd) ?_ | with_reducible refine callP_eq (rtext_p _) ?_ | with_reducible refine callP1_eq (rtext_p _) ?_ | with_reducible refine caseB_true ?_ | with_reducible refine caseB_false ?_ | with_reducible refine caseB_yes (by decide) ?_ | with_reducible refine caseB_no (by decide) ?_ | with_reducible refine caseB_split (fun _ => ?_) (fun _ => ?_) | ((conv => whnf); (with_reducible refine AWL.run E_ok Tryd.func36 2000 ?_); (conv => whnf); fail_if_success (with_reducible refine AWL.of ?_)) | ((conv => whnf); (with_reducible refine DWL.run E_ok 2000 ?_); (conv => whnf); fail_if_success (with_reducible refine DWL.is ?_)) | ((conv => whnf); (with_reducible refine SWL.run E_ok 2000 ?_); (conv => whnf); fail_if_success (with_reducible refine SWL.is ?_)))
    all_goals simp_all [datumOK, textOK, ruleOf]
    all_goals first | omega | exact eq0 _
  | 3, _ =>
    refine PCalls.run E_ok (fn := Tryd.f36) Tryd.func36 (body := Tryd.f36.body.getD .skip) rfl (by decide) 2000 ?_
    conv => whnf
    repeat' (first | with_reducible refine callP_eq (rwithin_p _ _ _) ?_ | with_reducible refine callP1_eq (rwithin_p _ _ _) ?_ | with_reducible refine callP_eq (rvalid_p _ hd) ?_ | with_reducible refine callP1_eq (rvalid_p _ hd) ?_ | with_reducible refine callP_eq (rwild_p _ hd) ?_ | with_reducible refine callP1_eq (rwild_p _ hd) ?_ | with_reducible refine callP_eq (rtext_p _) ?_ | with_reducible refine callP1_eq (rtext_p _) ?_ | with_reducible refine caseB_true ?_ | with_reducible refine caseB_false ?_ | with_reducible refine caseB_yes (by decide) ?_ | with_reducible refine caseB_no (by decide) ?_ | with_reducible refine caseB_split (fun _ => ?_) (fun _ => ?_) | ((conv => whnf); (with_reducible refine AWL.run E_ok Tryd.func36 2000 ?_); (conv => whnf); fail_if_success (with_reducible refine AWL.of ?_)) | ((conv => whnf); (with_reducible refine DWL.run E_ok 2000 ?_); (conv => whnf); fail_if_success (with_reducible refine DWL.is ?_)) | ((conv => whnf); (with_reducible refine SWL.run E_ok 2000 ?_); (conv => whnf); fail_if_success (with_reducible refine SWL.is ?_)))
    all_goals simp_all [datumOK, textOK, ruleOf]
    all_goals first | omega | exact eq0 _
  | 4, _ =>
    refine PCalls.run E_ok (fn := Tryd.f36) Tryd.func36 (body := Tryd.f36.body.getD .skip) rfl (by decide) 2000 ?_
    conv => whnf
    repeat' (first | with_reducible refine callP_eq (rwithin_p _ _ _) ?_ | with_reducible refine callP1_eq (rwithin_p _ _ _) ?_ | with_reducible refine callP_eq (rvalid_p _ hd) ?_ | with_reducible refine callP1_eq (rvalid_p _ hd) ?_ | with_reducible refine callP_eq (rwild_p _ hd) ?_ | with_reducible refine callP1_eq (rwild_p _ hd) ?_ | with_reducible refine callP_eq (rtext_p _) ?_ | with_reducible refine callP1_eq (rtext_p _) ?_ | with_reducible refine caseB_true ?_ | with_reducible refine caseB_false ?_ | with_reducible refine caseB_yes (by decide) ?_ | with_reducible refine caseB_no (by decide) ?_ | with_reducible refine caseB_split (fun _ => ?_) (fun _ => ?_) | ((conv => whnf); (with_reducible refine AWL.run E_ok Tryd.func36 2000 ?_); (conv => whnf); fail_if_success (with_reducible refine AWL.of ?_)) | ((conv => whnf); (with_reducible refine DWL.run E_ok 2000 ?_); (conv => whnf); fail_if_success (with_reducible refine DWL.is ?_)) | ((conv => whnf); (with_reducible refine SWL.run E_ok 2000 ?_); (conv => whnf); fail_if_success (with_reducible refine SWL.is ?_)))
    all_goals simp_all [datumOK, textOK, ruleOf]
    all_goals first | omega | exact eq0 _
  | 5, _ =>
    refine PCalls.run E_ok (fn := Tryd.f36) Tryd.func36 (body := Tryd.f36.body.getD .skip) rfl (by decide) 2000 ?_
    conv => whnf
    repeat' (first | with_reducible refine callP_eq (rwithin_p _ _ _) ?_ | with_reducible refine callP1_eq (rwithin_p _ _ _) ?_ | with_reducible refine callP_eq (rvalid_p _ hd) ?_ | with_reducible refine callP1_eq (rvalid_p _ hd) ?_ | with_reducible refine callP_eq (rwild_p _ hd) ?_ | with_reducible refine callP1_eq (rwild_p _ hd) ?_ | with_reducible refine callP_eq (rtext_p _) ?_ | with_reducible refine callP1_eq (rtext_p _) ?_ | with_reducible refine caseB_true ?_ | with_reducible refine caseB_false ?_ | with_reducible refine caseB_yes (by decide) ?_ | with_reducible refine caseB_no (by decide) ?_ | with_reducible refine caseB_split (fun _ => ?_) (fun _ => ?_) | ((conv => whnf); (with_reducible refine AWL.run E_ok Tryd.func36 2000 ?_); (conv => whnf); fail_if_success (with_reducible refine AWL.of ?_)) | ((conv => whnf); (with_reducible refine DWL.run E_ok 2000 ?_); (conv => whnf); fail_if_success (with_reducible refine DWL.is ?_)) | ((conv => whnf); (with_reducible refine SWL.run E_ok 2000 ?_); (conv => whnf); fail_if_success (with_reducible refine SWL.is ?_)))
    all_goals simp_all [datumOK, textOK, ruleOf]
    all_goals first | omega | exact eq0 _
  | 6, _ =>
    refine PCalls.run E_ok (fn := Tryd.f36) Tryd.func36 (body := Tryd.f36.body.getD .skip) rfl (by decide) 2000 ?_
    conv => whnf
    repeat' (first | with_reducible refine callP_eq (rwithin_p _ _ _) ?_ | with_reducible refine callP1_eq (rwithin_p _ _ _) ?_ | with_reducible refine callP_eq (rvalid_p _ hd) ?_ | with_reducible refine callP1_eq (rvalid_p _ hd) ?_ | with_reducible refine callP_eq (rwild_p _ hd) ?_ | with_reducible refine callP1_eq (rwild_p _ hd) ?_ | with_reducible refine callP_eq (rtext_p _) ?_ | with_reducible refine callP1_eq (rtext_p _) ?_ | with_reducible refine caseB_true ?_ | with_reducible refine caseB_false ?_ | with_reducible refine caseB_yes (by decide) ?_ | with_reducible refine caseB_no (by decide) ?_ | with_reducible refine caseB_split (fun _ => ?_) (fun _ => ?_) | ((conv => whnf); (with_reducible refine AWL.run E_ok Tryd.func36 2000 ?_); (conv => whnf); fail_if_success (with_reducible refine AWL.of ?_)) | ((conv => whnf); (with_reducible refine DWL.run E_ok 2000 ?_); (conv => whnf); fail_if_success (with_reducible refine DWL.is ?_)) | ((conv => whnf); (with_reducible refine SWL.run E_ok 2000 ?_); (conv => whnf); fail_if_success (with_reducible refine SWL.is ?_)))
    all_goals simp_all [datumOK, textOK, ruleOf]
    all_goals first | omega | exact eq0 _
  | 7, _ =>
    refine PCalls.run E_ok (fn := Tryd.f36) Tryd.func36 (body := Tryd.f36.body.getD .skip) rfl (by decide) 2000 ?_
    conv => whnf
    repeat' (first | with_reducible refine callP_eq (rwithin_p _ _ _) ?_ | with_reducible refine callP1_eq (rwithin_p _ _ _) ?_ | with_reducible refine callP_eq (rvalid_p _ hd) ?_ | with_reducible refine callP1_eq (rvalid_p _ hd) ?_ | with_reducible refine callP_eq (rwild_p _ hd) ?_ | with_reducible refine callP1_eq (rwild_p _ hd) ?_ | with_reducible refine callP_eq (rtext_p _) ?_ | with_reducible refine callP1_eq (rtext_p _) ?_ | with_reducible refine caseB_true ?_ | with_reducible refine caseB_false ?_ | with_reducible refine caseB_yes (by decide) ?_ | with_reducible refine caseB_no (by decide) ?_ | with_reducible refine caseB_split (fun _ => ?_) (fun _ => ?_) | ((conv => whnf); (with_reducible refine AWL.run E_ok Tryd.func36 2000 ?_); (conv => whnf); fail_if_success (with_reducible refine AWL.of ?_)) | ((conv => whnf); (with_reducible refine DWL.run E_ok 2000 ?_); (conv => whnf); fail_if_success (with_reducible refine DWL.is ?_)) | ((conv => whnf); (with_reducible refine SWL.run E_ok 2000 ?_); (conv => whnf); fail_if_success (with_reducible refine SWL.is ?_)))
    all_goals simp_all [datumOK, textOK, ruleOf]
    all_goals first | omega | exact eq0 _
  | 8, _ =>
    refine PCalls.run E_ok (fn := Tryd.f36) Tryd.func36 (body := Tryd.f36.body.getD .skip) rfl (by decide) 2000 ?_
    conv => whnf
    repeat' (first | with_reducible refine callP_eq (rwithin_p _ _ _) ?_ | with_reducible refine callP1_eq (rwithin_p _ _ _) ?_ | with_reducible refine callP_eq (rvalid_p _ hd) ?_ | with_reducible refine callP1_eq (rvalid_p _ hd) ?_ | with_reducible refine callP_eq (rwild_p _ hd) ?_ | with_reducible refine callP1_eq (rwild_p _ hd) ?_ | with_reducible refine callP_eq (rtext_p _) ?_ | with_reducible refine callP1_eq (rtext_p _) ?_ | with_reducible refine caseB_true ?_ | with_reducible refine caseB_false ?_ | with_reducible refine caseB_yes (by decide) ?_ | with_reducible refine caseB_no (by decide) ?_ | with_reducible refine caseB_split (fun _ => ?_) (fun _ => ?_) | ((conv => whnf); (with_reducible refine AWL.run E_ok Tryd.func36 2000 ?_); (conv => whnf); fail_if_success (with_reducible refine AWL.of ?_)) | ((conv => whnf); (with_reducible refine DWL.run E_ok 2000 ?_); (conv => whnf); fail_if_success (with_reducible refine DWL.is ?_)) | ((conv => whnf); (with_reducible refine SWL.run E_ok 2000 ?_); (conv => whnf); fail_if_success (with_reducible refine SWL.is ?_)))
    all_goals simp_all [datumOK, textOK, ruleOf]
    all_goals first | omega | exact eq0 _

theorem bytesLess_irrefl : ∀ (a : Text), Op.bytesLess a a = false
  | [] => rfl
  | c :: a => by simp [Op.bytesLess, bytesLess_irrefl a]
theorem lessD_cmp (a b : Datum) : lessD a b = decide (cmpD a b < 0) := by
  unfold lessD cmpD
  by_cases h1 : a.text = b.text
  · simp only [h1, ne_eq, not_true_eq_false, if_false, cmpS, bytesLess_irrefl, Bool.false_eq_true, orI, if_true, cmpI]
    by_cases h2 : a.n = b.n
    · simp only [h2, not_true_eq_false, if_false, Int.lt_irrefl, if_true]
      rw [Bool.eq_iff_iff]
      simp only [decide_eq_true_eq]
      repeat' split
      all_goals omega
    · simp only [h2, not_false_eq_true, if_true]
      rw [Bool.eq_iff_iff]
      simp only [decide_eq_true_eq]
      repeat' split
      all_goals omega
  · simp only [h1, ne_eq, not_false_eq_true, if_true, cmpS, orI]
    cases h : Op.bytesLess a.text b.text
    · simp [h1]
    · simp

theorem ruleOf_single {k : Nat} (h : 1 ≤ k ∧ k ≤ 8) : (ruleOf k).single = ((k : Int) == 3 || (k : Int) == 4) := by
  match k, h with
  | 1, _ => rfl
  | 2, _ => rfl
  | 3, _ => rfl
  | 4, _ => rfl
  | 5, _ => rfl
  | 6, _ => rfl
  | 7, _ => rfl
  | 8, _ => rfl
theorem ruleOf_wild {k : Nat} (h : 1 ≤ k ∧ k ≤ 8) : (!(ruleOf k).wild) = ((k : Int) != 1 && (k : Int) != 5 && (k : Int) != 8) := by
  match k, h with
  | 1, _ => rfl
  | 2, _ => rfl
  | 3, _ => rfl
  | 4, _ => rfl
  | 5, _ => rfl
  | 6, _ => rfl
  | 7, _ => rfl
  | 8, _ => rfl

end Go.Proofs.YtklkmdoakhkikaaDoor.P
