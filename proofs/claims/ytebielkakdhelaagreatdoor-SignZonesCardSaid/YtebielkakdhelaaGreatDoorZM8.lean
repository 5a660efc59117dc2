/- Several texts of mine, one behind the other. Conditions: as each says. -/
import Derived.Test.YtebielkakdhelaaGreatDoorZM6
set_option linter.unusedVariables false
set_option linter.unusedSimpArgs false
/- Contracts by the engine: the reference implementation of records, and of small parts of signatures. Conditions: lengths that Go allows. -/
section
namespace Go.Proofs.YtebielkakdhelaaGreatDoor.P
open Go Go.Eng
set_option maxRecDepth 100000

theorem all_no {α : Type} {p : α → Bool} {l : List α} {k : Nat} {x : α} (h : l[k]? = some x) (hx : p x = false) : l.all p = false := by
  rw [Bool.eq_false_iff]
  intro hall
  have := List.all_eq_true.1 hall x (List.mem_of_getElem? h)
  rw [hx] at this
  cases this
theorem all_next {α : Type} {p : α → Bool} {l : List α} {k : Nat} {x : α} (hk : (l.take k).all p = true) (h : l[k]? = some x) (hx : p x = true) : (l.take (k + 1)).all p = true := by
  rw [take_next h, List.all_append, hk]; simp [hx]
theorem all_end {α : Type} {p : α → Bool} {l : List α} {k : Nat} (hk : (l.take k).all p = true) (h : l.length ≤ k) : l.all p = true := by
  rwa [List.take_of_length_le h] at hk

theorem rwithin_p (x a b : Int) : PCalls E 149 [.int .i64 x, .int .i64 a, .int .i64 b] (· = .bool (decide (a ≤ x) && decide (x ≤ b))) := by
  refine PCalls.run E_ok (fn := Tryz.f149) Tryz.func149 (body := Tryz.f149.body.getD .skip) rfl (by decide) 2000 ?_
  conv => whnf
  repeat' (first | with_reducible refine caseB_true ?_ | with_reducible refine caseB_false ?_ | with_reducible refine caseB_yes (by decide) ?_ | with_reducible refine caseB_no (by decide) ?_ | with_reducible refine caseB_yes (by assumption) ?_ | with_reducible refine caseB_no (by assumption) ?_ | with_reducible refine caseB_split (fun _ => ?_) (fun _ => ?_) | ((conv => whnf); (with_reducible refine AWL.run E_ok Tryz.func149 2000 ?_); (conv => whnf); fail_if_success (with_reducible refine AWL.of ?_)) | ((conv => whnf); (with_reducible refine DWL.run E_ok 2000 ?_); (conv => whnf); fail_if_success (with_reducible refine DWL.is ?_)) | ((conv => whnf); (with_reducible refine SWL.run E_ok 2000 ?_); (conv => whnf); fail_if_success (with_reducible refine SWL.is ?_)))
  all_goals simp_all
  all_goals omega
theorem rsingle_p (t : Int) : PCalls E 150 [.int .i64 t] (· = .bool (t == 3 || t == 4)) := by
  refine PCalls.run E_ok (fn := Tryz.f150) Tryz.func150 (body := Tryz.f150.body.getD .skip) rfl (by decide) 2000 ?_
  conv => whnf
  repeat' (first | with_reducible refine caseB_true ?_ | with_reducible refine caseB_false ?_ | with_reducible refine caseB_yes (by decide) ?_ | with_reducible refine caseB_no (by decide) ?_ | with_reducible refine caseB_yes (by assumption) ?_ | with_reducible refine caseB_no (by assumption) ?_ | with_reducible refine caseB_split (fun _ => ?_) (fun _ => ?_) | ((conv => whnf); (with_reducible refine AWL.run E_ok Tryz.func150 2000 ?_); (conv => whnf); fail_if_success (with_reducible refine AWL.of ?_)) | ((conv => whnf); (with_reducible refine DWL.run E_ok 2000 ?_); (conv => whnf); fail_if_success (with_reducible refine DWL.is ?_)) | ((conv => whnf); (with_reducible refine SWL.run E_ok 2000 ?_); (conv => whnf); fail_if_success (with_reducible refine SWL.is ?_)))
  all_goals simp_all
def lessD (a b : Datum) : Bool := if a.text ≠ b.text then Op.bytesLess a.text b.text else if a.n ≠ b.n then decide (a.n < b.n) else decide (a.m < b.m)
theorem rless_p (a b : Datum) : PCalls E 153 [a.enc, b.enc] (· = .bool (lessD a b)) := by
  refine PCalls.run E_ok (fn := Tryz.f153) Tryz.func153 (body := Tryz.f153.body.getD .skip) rfl (by decide) 2000 ?_
  conv => whnf
  repeat' (first | with_reducible refine caseB_true ?_ | with_reducible refine caseB_false ?_ | with_reducible refine caseB_yes (by decide) ?_ | with_reducible refine caseB_no (by decide) ?_ | with_reducible refine caseB_yes (by assumption) ?_ | with_reducible refine caseB_no (by assumption) ?_ | with_reducible refine caseB_split (fun _ => ?_) (fun _ => ?_) | ((conv => whnf); (with_reducible refine AWL.run E_ok Tryz.func153 2000 ?_); (conv => whnf); fail_if_success (with_reducible refine AWL.of ?_)) | ((conv => whnf); (with_reducible refine DWL.run E_ok 2000 ?_); (conv => whnf); fail_if_success (with_reducible refine DWL.is ?_)) | ((conv => whnf); (with_reducible refine SWL.run E_ok 2000 ?_); (conv => whnf); fail_if_success (with_reducible refine SWL.is ?_)))
  all_goals simp_all [lessD]
theorem rtext_p (t : Text) : PCalls E 184 [.str t] (· = .bool (freeB t)) := by
  by_cases hb : 1 ≤ t.length ∧ t.length ≤ 40
  · obtain ⟨c0, hc0⟩ := some_of_lt (l := t) (k := 0) (by omega)
    obtain ⟨c1, hc1⟩ := some_of_lt (l := t) (k := t.length - 1) (by omega)
    have hw : (IntKind.i64.wrap (t.length - 1)) = ((t.length - 1 : Nat) : Int) := by rw [wrap64 (by omega) (by omega)]; omega
    refine PCalls.run E_ok (fn := Tryz.f184) Tryz.func184 (body := Tryz.f184.body.getD .skip) rfl (by decide) 2000 ?_
    conv => whnf
    refine caseB_no (by simp; omega) ?_
    conv => whnf
    refine AWL.run E_ok Tryz.func184 2000 ?_
    conv => whnf
    refine caseB_no (by simp; omega) ?_
    conv => whnf
    refine AWL.run E_ok Tryz.func184 2000 ?_
    conv => whnf
    refine byteP_intro c0 (by decide) hc0 ?_
    conv => whnf
    refine AWL.run E_ok Tryz.func184 2000 ?_
    conv => whnf
    refine caseB_split (fun h2 => ?_) (fun h2 => ?_)
    · conv => whnf
      refine AWL.run E_ok Tryz.func184 2000 ?_
      conv => whnf
      refine caseB_true ?_
      conv => whnf
      refine AWL.run E_ok Tryz.func184 2000 ?_
      conv => whnf
      have e1 : t.head? = some c0 := by rw [← hc0]; exact List.head?_eq_getElem?
      simp only [freeB, e1, Option.any_some, h2, Bool.not_true, Bool.and_false, Bool.false_and]
    · conv => whnf
      refine AWL.run E_ok Tryz.func184 2000 ?_
      conv => whnf
      rw [hw]
      refine byteP_intro c1 (by omega) (by rw [Int.toNat_natCast]; exact hc1) ?_
      conv => whnf
      refine AWL.run E_ok Tryz.func184 2000 ?_
      conv => whnf
      refine caseB_split (fun h3 => ?_) (fun h3 => ?_)
      · conv => whnf
        refine AWL.run E_ok Tryz.func184 2000 ?_
        conv => whnf
        have e2 : t.getLast? = some c1 := by rw [← hc1, List.getLast?_eq_getElem?]
        simp only [freeB, e2, Option.any_some, h3, Bool.not_true, Bool.and_false, Bool.false_and]
      · rw [freeB_of hb.1 hb.2 hc0 hc1 h2 h3]
        conv => whnf
        refine AWL.run E_ok Tryz.func184 2000 ?_
        conv => whnf
        refine AWL.loop (κ := Nat) [2, 4, 5, 26, 27, 28, 29, 30, 31, 32, 33, 34, 35, 36, 37, 38, 39, 40, 41, 42, 43, 44, 45, 46, 47, 48, 49, 50, 51] (fun k => [(4, .d (.int .i64 k))]) (fun _ => []) (fun k => k ≤ t.length ∧ (t.take k).all okc = true) (fun k => t.length - k) 0 ⟨Nat.zero_le _, rfl⟩ ?_ ?_
        · conv => whnf
          repeat (first | exact trivial | (refine And.intro (by first | with_reducible rfl | exact congrArg (DV.int .i64) (by omega) | exact congrArg (DV.int .i64) (wrap64 (by omega) (by omega)) | exact congrArg (DV.int .i64) ((wrap64 (by omega) (by omega)).trans (by omega))) ?_; conv => whnf))
        · intro k hk IH
          refine AWL.head E_ok Tryz.func184 2000 ?_
          conv => whnf
          refine caseB_split (fun h4 => ?_) (fun h4 => ?_)
          · simp at h4
            obtain ⟨c, hc⟩ := some_of_lt h4
            conv => whnf
            refine AWL.run E_ok Tryz.func184 2000 ?_
            conv => whnf
            refine byteP_intro c (by omega) (by rw [Int.toNat_natCast]; exact hc) ?_
            conv => whnf
            refine AWL.run E_ok Tryz.func184 2000 ?_
            conv => whnf
            repeat' (first | with_reducible refine caseB_true ?_ | with_reducible refine caseB_false ?_ | with_reducible refine caseB_yes (by decide) ?_ | with_reducible refine caseB_no (by decide) ?_ | with_reducible refine caseB_yes (by assumption) ?_ | with_reducible refine caseB_no (by assumption) ?_ | with_reducible refine caseB_split (fun _ => ?_) (fun _ => ?_) | ((conv => whnf); (with_reducible refine AWL.run E_ok Tryz.func184 2000 ?_); (conv => whnf); fail_if_success (with_reducible refine AWL.of ?_)) | ((conv => whnf); (with_reducible refine DWL.run E_ok 2000 ?_); (conv => whnf); fail_if_success (with_reducible refine DWL.is ?_)) | ((conv => whnf); (with_reducible refine SWL.run E_ok 2000 ?_); (conv => whnf); fail_if_success (with_reducible refine SWL.is ?_)))
            all_goals first
              | (rw [all_no hc (by simp_all [okc] <;> omega)]; done)
              | skip
            all_goals
              conv => whnf
              refine AWL.run E_ok Tryz.func184 2000 ?_
              conv => whnf
              refine AWL.back (IH (k + 1) ⟨by omega, all_next hk.2 hc (by simp_all [okc] <;> omega)⟩ (by omega)) ?_
              conv => whnf
              repeat (first | exact trivial | (refine And.intro (by first | with_reducible rfl | exact congrArg (DV.int .i64) (by omega) | exact congrArg (DV.int .i64) (wrap64 (by omega) (by omega)) | exact congrArg (DV.int .i64) ((wrap64 (by omega) (by omega)).trans (by omega))) ?_; conv => whnf))
          · simp at h4
            conv => whnf
            refine AWL.run E_ok Tryz.func184 2000 ?_
            conv => whnf
            rw [all_end hk.2 h4]
  · have hno : freeB t = false := by
      simp only [freeB, Bool.and_eq_false_iff, decide_eq_false_iff_not]
      omega
    rw [hno]
    refine PCalls.run E_ok (fn := Tryz.f184) Tryz.func184 (body := Tryz.f184.body.getD .skip) rfl (by decide) 2000 ?_
    conv => whnf
    refine caseB_split (fun h => ?_) (fun h => ?_)
    · conv => whnf
      refine AWL.run E_ok Tryz.func184 2000 ?_
      conv => whnf
      refine caseB_true ?_
      conv => whnf
      refine AWL.run E_ok Tryz.func184 2000 ?_
      conv => whnf
      refine caseB_true ?_
      conv => whnf
      refine AWL.run E_ok Tryz.func184 2000 ?_
      conv => whnf
      refine caseB_true ?_
      conv => whnf
      refine AWL.run E_ok Tryz.func184 2000 ?_
      conv => whnf
    · simp at h
      conv => whnf
      refine AWL.run E_ok Tryz.func184 2000 ?_
      conv => whnf
      refine caseB_yes (by simp; omega) ?_
      conv => whnf
      refine AWL.run E_ok Tryz.func184 2000 ?_
      conv => whnf
      refine caseB_true ?_
      conv => whnf
      refine AWL.run E_ok Tryz.func184 2000 ?_
      conv => whnf
      refine caseB_true ?_
      conv => whnf
      refine AWL.run E_ok Tryz.func184 2000 ?_
      conv => whnf

theorem eq0 (n : Int) : (n == 0) = (decide (0 ≤ n) && decide (n ≤ 0)) := by
  rw [Bool.eq_iff_iff]
  simp
  omega
theorem rdatum_p (k : Nat) (d : Datum) (hk : 1 ≤ k ∧ k ≤ 8) (hd : d.text.length ≤ maxLen) : PCalls E 152 [.int .i64 k, d.enc] (· = .bool (datumOK (ruleOf k) d)) := by
  match k, hk with
  | 1, _ =>
    refine PCalls.run E_ok (fn := Tryz.f152) Tryz.func152 (body := Tryz.f152.body.getD .skip) rfl (by decide) 2000 ?_
    conv => whnf
    repeat' (first | with_reducible refine callP_eq (rwithin_p _ _ _) ?_ | with_reducible refine callP1_eq (rwithin_p _ _ _) ?_ | with_reducible refine callP_eq (rvalid_p _ hd) ?_ | with_reducible refine callP1_eq (rvalid_p _ hd) ?_ | with_reducible refine callP_eq (rwild_p _ hd) ?_ | with_reducible refine callP1_eq (rwild_p _ hd) ?_ | with_reducible refine callP_eq (rtext_p _) ?_ | with_reducible refine callP1_eq (rtext_p _) ?_ | with_reducible refine caseB_true ?_ | with_reducible refine caseB_false ?_ | with_reducible refine caseB_yes (by decide) ?_ | with_reducible refine caseB_no (by decide) ?_ | with_reducible refine caseB_yes (by assumption) ?_ | with_reducible refine caseB_no (by assumption) ?_ | with_reducible refine caseB_split (fun _ => ?_) (fun _ => ?_) | ((conv => whnf); (with_reducible refine AWL.run E_ok Tryz.func152 2000 ?_); (conv => whnf); fail_if_success (with_reducible refine AWL.of ?_)) | ((conv => whnf); (with_reducible refine DWL.run E_ok 2000 ?_); (conv => whnf); fail_if_success (with_reducible refine DWL.is ?_)) | ((conv => whnf); (with_reducible refine SWL.run E_ok 2000 ?_); (conv => whnf); fail_if_success (with_reducible refine SWL.is ?_)))
    all_goals simp_all [datumOK, textOK, ruleOf]
    all_goals first | omega | exact eq0 _
  | 2, _ =>
    refine PCalls.run E_ok (fn := Tryz.f152) Tryz.func152 (body := Tryz.f152.body.getD .skip) rfl (by decide) 2000 ?_
    conv => whnf
    repeat' (first | with_reducible refine callP_eq (rwithin_p _ _ _) ?_ | with_reducible refine callP1_eq (rwithin_p _ _ _) ?_ | with_reducible refine callP_eq (rvalid_p _ hd) ?_ | with_reducible refine callP1_eq (rvalid_p _ hd) ?_ | with_reducible refine callP_eq (rwild_p _ hd) ?_ | with_reducible refine callP1_eq (rwild_p _ hd) ?_ | with_reducible refine callP_eq (rtext_p _) ?_ | with_reducible refine callP1_eq (rtext_p _) ?_ | with_reducible refine caseB_true ?_ | with_reducible refine caseB_false ?_ | with_reducible refine caseB_yes (by decide) ?_ | with_reducible refine caseB_no (by decide) ?_ | with_reducible refine caseB_yes (by assumption) ?_ | with_reducible refine caseB_no (by assumption) ?_ | with_reducible refine caseB_split (fun _ => ?_) (fun _ => ?_) | ((conv => whnf); (with_reducible refine AWL.run E_ok Tryz.func152 2000 ?_); (conv => whnf); fail_if_success (with_reducible refine AWL.of ?_)) | ((conv => whnf); (with_reducible refine DWL.run E_ok 2000 ?_); (conv => whnf); fail_if_success (with_reducible refine DWL.is ?_)) | ((conv => whnf); (with_reducible refine SWL.run E_ok 2000 ?_); (conv => whnf); fail_if_success (with_reducible refine SWL.is ?_)))
    all_goals simp_all [datumOK, textOK, ruleOf]
    all_goals first | omega | exact eq0 _
  | 3, _ =>
    refine PCalls.run E_ok (fn := Tryz.f152) Tryz.func152 (body := Tryz.f152.body.getD .skip) rfl (by decide) 2000 ?_
    conv => whnf
    repeat' (first | with_reducible refine callP_eq (rwithin_p _ _ _) ?_ | with_reducible refine callP1_eq (rwithin_p _ _ _) ?_ | with_reducible refine callP_eq (rvalid_p _ hd) ?_ | with_reducible refine callP1_eq (rvalid_p _ hd) ?_ | with_reducible refine callP_eq (rwild_p _ hd) ?_ | with_reducible refine callP1_eq (rwild_p _ hd) ?_ | with_reducible refine callP_eq (rtext_p _) ?_ | with_reducible refine callP1_eq (rtext_p _) ?_ | with_reducible refine caseB_true ?_ | with_reducible refine caseB_false ?_ | with_reducible refine caseB_yes (by decide) ?_ | with_reducible refine caseB_no (by decide) ?_ | with_reducible refine caseB_yes (by assumption) ?_ | with_reducible refine caseB_no (by assumption) ?_ | with_reducible refine caseB_split (fun _ => ?_) (fun _ => ?_) | ((conv => whnf); (with_reducible refine AWL.run E_ok Tryz.func152 2000 ?_); (conv => whnf); fail_if_success (with_reducible refine AWL.of ?_)) | ((conv => whnf); (with_reducible refine DWL.run E_ok 2000 ?_); (conv => whnf); fail_if_success (with_reducible refine DWL.is ?_)) | ((conv => whnf); (with_reducible refine SWL.run E_ok 2000 ?_); (conv => whnf); fail_if_success (with_reducible refine SWL.is ?_)))
    all_goals simp_all [datumOK, textOK, ruleOf]
    all_goals first | omega | exact eq0 _
  | 4, _ =>
    refine PCalls.run E_ok (fn := Tryz.f152) Tryz.func152 (body := Tryz.f152.body.getD .skip) rfl (by decide) 2000 ?_
    conv => whnf
    repeat' (first | with_reducible refine callP_eq (rwithin_p _ _ _) ?_ | with_reducible refine callP1_eq (rwithin_p _ _ _) ?_ | with_reducible refine callP_eq (rvalid_p _ hd) ?_ | with_reducible refine callP1_eq (rvalid_p _ hd) ?_ | with_reducible refine callP_eq (rwild_p _ hd) ?_ | with_reducible refine callP1_eq (rwild_p _ hd) ?_ | with_reducible refine callP_eq (rtext_p _) ?_ | with_reducible refine callP1_eq (rtext_p _) ?_ | with_reducible refine caseB_true ?_ | with_reducible refine caseB_false ?_ | with_reducible refine caseB_yes (by decide) ?_ | with_reducible refine caseB_no (by decide) ?_ | with_reducible refine caseB_yes (by assumption) ?_ | with_reducible refine caseB_no (by assumption) ?_ | with_reducible refine caseB_split (fun _ => ?_) (fun _ => ?_) | ((conv => whnf); (with_reducible refine AWL.run E_ok Tryz.func152 2000 ?_); (conv => whnf); fail_if_success (with_reducible refine AWL.of ?_)) | ((conv => whnf); (with_reducible refine DWL.run E_ok 2000 ?_); (conv => whnf); fail_if_success (with_reducible refine DWL.is ?_)) | ((conv => whnf); (with_reducible refine SWL.run E_ok 2000 ?_); (conv => whnf); fail_if_success (with_reducible refine SWL.is ?_)))
    all_goals simp_all [datumOK, textOK, ruleOf]
    all_goals first | omega | exact eq0 _
  | 5, _ =>
    refine PCalls.run E_ok (fn := Tryz.f152) Tryz.func152 (body := Tryz.f152.body.getD .skip) rfl (by decide) 2000 ?_
    conv => whnf
    repeat' (first | with_reducible refine callP_eq (rwithin_p _ _ _) ?_ | with_reducible refine callP1_eq (rwithin_p _ _ _) ?_ | with_reducible refine callP_eq (rvalid_p _ hd) ?_ | with_reducible refine callP1_eq (rvalid_p _ hd) ?_ | with_reducible refine callP_eq (rwild_p _ hd) ?_ | with_reducible refine callP1_eq (rwild_p _ hd) ?_ | with_reducible refine callP_eq (rtext_p _) ?_ | with_reducible refine callP1_eq (rtext_p _) ?_ | with_reducible refine caseB_true ?_ | with_reducible refine caseB_false ?_ | with_reducible refine caseB_yes (by decide) ?_ | with_reducible refine caseB_no (by decide) ?_ | with_reducible refine caseB_yes (by assumption) ?_ | with_reducible refine caseB_no (by assumption) ?_ | with_reducible refine caseB_split (fun _ => ?_) (fun _ => ?_) | ((conv => whnf); (with_reducible refine AWL.run E_ok Tryz.func152 2000 ?_); (conv => whnf); fail_if_success (with_reducible refine AWL.of ?_)) | ((conv => whnf); (with_reducible refine DWL.run E_ok 2000 ?_); (conv => whnf); fail_if_success (with_reducible refine DWL.is ?_)) | ((conv => whnf); (with_reducible refine SWL.run E_ok 2000 ?_); (conv => whnf); fail_if_success (with_reducible refine SWL.is ?_)))
    all_goals simp_all [datumOK, textOK, ruleOf]
    all_goals first | omega | exact eq0 _
  | 6, _ =>
    refine PCalls.run E_ok (fn := Tryz.f152) Tryz.func152 (body := Tryz.f152.body.getD .skip) rfl (by decide) 2000 ?_
    conv => whnf
    repeat' (first | with_reducible refine callP_eq (rwithin_p _ _ _) ?_ | with_reducible refine callP1_eq (rwithin_p _ _ _) ?_ | with_reducible refine callP_eq (rvalid_p _ hd) ?_ | with_reducible refine callP1_eq (rvalid_p _ hd) ?_ | with_reducible refine callP_eq (rwild_p _ hd) ?_ | with_reducible refine callP1_eq (rwild_p _ hd) ?_ | with_reducible refine callP_eq (rtext_p _) ?_ | with_reducible refine callP1_eq (rtext_p _) ?_ | with_reducible refine caseB_true ?_ | with_reducible refine caseB_false ?_ | with_reducible refine caseB_yes (by decide) ?_ | with_reducible refine caseB_no (by decide) ?_ | with_reducible refine caseB_yes (by assumption) ?_ | with_reducible refine caseB_no (by assumption) ?_ | with_reducible refine caseB_split (fun _ => ?_) (fun _ => ?_) | ((conv => whnf); (with_reducible refine AWL.run E_ok Tryz.func152 2000 ?_); (conv => whnf); fail_if_success (with_reducible refine AWL.of ?_)) | ((conv => whnf); (with_reducible refine DWL.run E_ok 2000 ?_); (conv => whnf); fail_if_success (with_reducible refine DWL.is ?_)) | ((conv => whnf); (with_reducible refine SWL.run E_ok 2000 ?_); (conv => whnf); fail_if_success (with_reducible refine SWL.is ?_)))
    all_goals simp_all [datumOK, textOK, ruleOf]
    all_goals first | omega | exact eq0 _
  | 7, _ =>
    refine PCalls.run E_ok (fn := Tryz.f152) Tryz.func152 (body := Tryz.f152.body.getD .skip) rfl (by decide) 2000 ?_
    conv => whnf
    repeat' (first | with_reducible refine callP_eq (rwithin_p _ _ _) ?_ | with_reducible refine callP1_eq (rwithin_p _ _ _) ?_ | with_reducible refine callP_eq (rvalid_p _ hd) ?_ | with_reducible refine callP1_eq (rvalid_p _ hd) ?_ | with_reducible refine callP_eq (rwild_p _ hd) ?_ | with_reducible refine callP1_eq (rwild_p _ hd) ?_ | with_reducible refine callP_eq (rtext_p _) ?_ | with_reducible refine callP1_eq (rtext_p _) ?_ | with_reducible refine caseB_true ?_ | with_reducible refine caseB_false ?_ | with_reducible refine caseB_yes (by decide) ?_ | with_reducible refine caseB_no (by decide) ?_ | with_reducible refine caseB_yes (by assumption) ?_ | with_reducible refine caseB_no (by assumption) ?_ | with_reducible refine caseB_split (fun _ => ?_) (fun _ => ?_) | ((conv => whnf); (with_reducible refine AWL.run E_ok Tryz.func152 2000 ?_); (conv => whnf); fail_if_success (with_reducible refine AWL.of ?_)) | ((conv => whnf); (with_reducible refine DWL.run E_ok 2000 ?_); (conv => whnf); fail_if_success (with_reducible refine DWL.is ?_)) | ((conv => whnf); (with_reducible refine SWL.run E_ok 2000 ?_); (conv => whnf); fail_if_success (with_reducible refine SWL.is ?_)))
    all_goals simp_all [datumOK, textOK, ruleOf]
    all_goals first | omega | exact eq0 _
  | 8, _ =>
    refine PCalls.run E_ok (fn := Tryz.f152) Tryz.func152 (body := Tryz.f152.body.getD .skip) rfl (by decide) 2000 ?_
    conv => whnf
    repeat' (first | with_reducible refine callP_eq (rwithin_p _ _ _) ?_ | with_reducible refine callP1_eq (rwithin_p _ _ _) ?_ | with_reducible refine callP_eq (rvalid_p _ hd) ?_ | with_reducible refine callP1_eq (rvalid_p _ hd) ?_ | with_reducible refine callP_eq (rwild_p _ hd) ?_ | with_reducible refine callP1_eq (rwild_p _ hd) ?_ | with_reducible refine callP_eq (rtext_p _) ?_ | with_reducible refine callP1_eq (rtext_p _) ?_ | with_reducible refine caseB_true ?_ | with_reducible refine caseB_false ?_ | with_reducible refine caseB_yes (by decide) ?_ | with_reducible refine caseB_no (by decide) ?_ | with_reducible refine caseB_yes (by assumption) ?_ | with_reducible refine caseB_no (by assumption) ?_ | with_reducible refine caseB_split (fun _ => ?_) (fun _ => ?_) | ((conv => whnf); (with_reducible refine AWL.run E_ok Tryz.func152 2000 ?_); (conv => whnf); fail_if_success (with_reducible refine AWL.of ?_)) | ((conv => whnf); (with_reducible refine DWL.run E_ok 2000 ?_); (conv => whnf); fail_if_success (with_reducible refine DWL.is ?_)) | ((conv => whnf); (with_reducible refine SWL.run E_ok 2000 ?_); (conv => whnf); fail_if_success (with_reducible refine SWL.is ?_)))
    all_goals simp_all [datumOK, textOK, ruleOf]
    all_goals first | omega | exact eq0 _

theorem bytesLess_irrefl : ∀ (a : Text), Op.bytesLess a a = false
  | [] => rfl
  | c :: a => by simp [Op.bytesLess, bytesLess_irrefl a]
theorem lessD_cmp (a b : Datum) : lessD a b = decide (cmpD a b < 0) := by
  unfold lessD cmpD
  by_cases h1 : a.text = b.text
  · simp only [h1, ne_eq, not_true_eq_false, if_false, cmpS, bytesLess_irrefl, Bool.false_eq_true, orI, if_true, cmpI]
    by_cases h2 : a.n = b.n
    · simp only [h2, not_true_eq_false, if_false, Int.lt_irrefl, if_true]
      rw [Bool.eq_iff_iff]
      simp only [decide_eq_true_eq]
      repeat' split
      all_goals omega
    · simp only [h2, not_false_eq_true, if_true]
      rw [Bool.eq_iff_iff]
      simp only [decide_eq_true_eq]
      repeat' split
      all_goals omega
  · simp only [h1, ne_eq, not_false_eq_true, if_true, cmpS, orI]
    cases h : Op.bytesLess a.text b.text
    · simp [h1]
    · simp

theorem ruleOf_single {k : Nat} (h : 1 ≤ k ∧ k ≤ 8) : (ruleOf k).single = ((k : Int) == 3 || (k : Int) == 4) := by
  match k, h with
  | 1, _ => rfl
  | 2, _ => rfl
  | 3, _ => rfl
  | 4, _ => rfl
  | 5, _ => rfl
  | 6, _ => rfl
  | 7, _ => rfl
  | 8, _ => rfl
theorem ruleOf_wild {k : Nat} (h : 1 ≤ k ∧ k ≤ 8) : (!(ruleOf k).wild) = ((k : Int) != 1 && (k : Int) != 5 && (k : Int) != 8) := by
  match k, h with
  | 1, _ => rfl
  | 2, _ => rfl
  | 3, _ => rfl
  | 4, _ => rfl
  | 5, _ => rfl
  | 6, _ => rfl
  | 7, _ => rfl
  | 8, _ => rfl

end Go.Proofs.YtebielkakdhelaaGreatDoor.P
end

/- Contracts by the engine: the reference implementation's valid sets; sets that are few. Conditions: lengths that Go allows. -/
section
namespace Go.Proofs.YtebielkakdhelaaGreatDoor.P
open Go Go.Eng
set_option maxRecDepth 100000
set_option maxHeartbeats 4000000

theorem setOK_alt (s : RSet) : setOK s = (Nm.valid s.name && (decide (1 ≤ s.type) && decide (s.type ≤ 8)) && (decide (0 ≤ s.life) && decide (s.life ≤ 100000)) && (decide (1 ≤ (s.data.length : Int)) && decide ((s.data.length : Int) ≤ 8)) &&
    !((s.type == 3 || s.type == 4) && decide ((s.data.length : Int) > 1)) && !(Nm.wild s.name && (s.type != 1 && s.type != 5 && s.type != 8)) && dataB (ruleOf s.type.toNat) none s.data) := by
  by_cases ht : 1 ≤ s.type ∧ s.type ≤ 8
  · by_cases hn : 1 ≤ (s.data.length : Int)
    · obtain ⟨t, ht'⟩ := Int.eq_ofNat_of_zero_le (a := s.type) (by omega)
      have h8 : 1 ≤ t ∧ t ≤ 8 := by omega
      have e1 := ruleOf_single h8
      have e2 := ruleOf_wild h8
      have e3 : ((s.data.length : Int) != 1) = decide ((s.data.length : Int) > 1) := by
        rw [Bool.eq_iff_iff]; simp; omega
      simp only [setOK, ht', Int.toNat_natCast, e1, e2, e3]
    · simp [setOK, hn]
  · simp only [setOK]
    have : (decide (1 ≤ s.type) && decide (s.type ≤ 8)) = false := by
      rw [Bool.and_eq_false_iff]; simp; omega
    simp only [this, Bool.and_false, Bool.false_and]

theorem rdatum_q (k : Int) (d : Datum) (hk : 1 ≤ k ∧ k ≤ 8) (hd : d.text.length ≤ maxLen) : PCalls E 152 [.int .i64 k, d.enc] (· = .bool (datumOK (ruleOf k.toNat) d)) := by
  obtain ⟨t, rfl⟩ := Int.eq_ofNat_of_zero_le (a := k) (by omega)
  rw [Int.toNat_natCast]
  exact rdatum_p t d (by omega) hd

set_option linter.unusedSimpArgs false in
theorem rsetOK_p (s : RSet) (hf : s.Fits) : PCalls E 108 [s.enc] (· = .bool (setOK s)) := by
  rw [setOK_alt]
  refine PCalls.run E_ok (fn := Tryz.f108) Tryz.func108 (body := Tryz.f108.body.getD .skip) rfl (by decide) 2000 ?_
  conv => whnf
  repeat' (first | with_reducible refine callP_eq (rvalid_p _ hf.name) ?_ | with_reducible refine callP1_eq (rvalid_p _ hf.name) ?_ | with_reducible refine callP_eq (rwithin_p _ _ _) ?_ | with_reducible refine callP1_eq (rwithin_p _ _ _) ?_ | with_reducible refine callP_eq (rsingle_p _) ?_ | with_reducible refine callP1_eq (rsingle_p _) ?_ | with_reducible refine callP_eq (rwild_p _ hf.name) ?_ | with_reducible refine callP1_eq (rwild_p _ hf.name) ?_ | with_reducible refine caseB_true ?_ | with_reducible refine caseB_false ?_ | with_reducible refine caseB_yes (by decide) ?_ | with_reducible refine caseB_no (by decide) ?_ | with_reducible refine caseB_yes (by assumption) ?_ | with_reducible refine caseB_no (by assumption) ?_ | with_reducible refine caseB_split (fun _ => ?_) (fun _ => ?_) | ((conv => whnf); (with_reducible refine AWL.run E_ok Tryz.func108 2000 ?_); (conv => whnf); fail_if_success (with_reducible refine AWL.of ?_)) | ((conv => whnf); (with_reducible refine DWL.run E_ok 2000 ?_); (conv => whnf); fail_if_success (with_reducible refine DWL.is ?_)) | ((conv => whnf); (with_reducible refine SWL.run E_ok 2000 ?_); (conv => whnf); fail_if_success (with_reducible refine SWL.is ?_)))
  all_goals try simp only [List.length_map] at *
  all_goals try (simp only [Bool.not_eq_true', Bool.not_eq_false'] at *; simp only [*, Bool.false_and, Bool.and_false, Bool.true_and, Bool.not_true, Bool.not_false, Bool.and_true, Bool.and_self]; done)
  all_goals
    have hfin : ∀ {a b c d e f : Bool}, (!a) = false → (!b) = false → (!c) = false → (!d) = false → e = false → f = false → ∀ g : Bool, (a && b && c && d && !e && !f && g) = g := fun h1 h2 h3 h4 h5 h6 g => by
      simp_all
    have hty : 1 ≤ s.type ∧ s.type ≤ 8 := by simp_all
    have hl : s.data.length ≤ 8 := by simp_all <;> omega
    rw [hfin (by assumption) (by assumption) (by assumption) (by assumption) (by simp_all <;> omega) (by simp_all) _]
    clear hfin
    conv => whnf
    refine AWL.run E_ok Tryz.func108 2000 ?_
    conv => whnf
    refine AWL.loop (κ := Nat) [2, 4, 56, 57, 58, 59, 60, 61, 62, 63, 64, 65, 66, 67, 68, 69, 70, 71, 72, 73, 74, 75, 76, 77, 78, 79, 80, 81, 82, 83, 84, 85, 86, 87, 88] (fun k => [(4, .d (.int .i64 k))]) (fun _ => []) (fun k => k ≤ s.data.length ∧ dataB (ruleOf s.type.toNat) none s.data = dataB (ruleOf s.type.toNat) (prevD s.data k) (s.data.drop k)) (fun k => s.data.length - k) 0 ⟨Nat.zero_le _, rfl⟩ ?_ ?_
    · conv => whnf
      repeat (first | exact trivial | (refine And.intro (by first | with_reducible rfl | exact congrArg (DV.int .i64) (by omega) | exact congrArg (DV.int .i64) (wrap64 (by omega) (by omega)) | exact congrArg (DV.int .i64) ((wrap64 (by omega) (by omega)).trans (by omega))) ?_; conv => whnf))
    · intro k hk IH
      refine AWL.head E_ok Tryz.func108 2000 ?_
      conv => whnf
      refine caseB_split (fun h5 => ?_) (fun h5 => ?_)
      · have hlt : k < s.data.length := by simpa using h5
        obtain ⟨d, hd⟩ := some_of_lt hlt
        have hnext := dataB_next (r := ruleOf s.type.toNat) hd
        rw [← hk.2] at hnext
        conv => whnf
        refine AWL.run E_ok Tryz.func108 2000 ?_
        conv => whnf
        refine AWL.draw E_ok E_mixed 28 2000 (by kernel_rfl) ?_
        conv => whnf
        refine elemP_intro d.enc (by omega) (elem_map hd) rfl ?_
        conv => whnf
        refine DWL.run E_ok 2000 ?_
        conv => whnf
        with_reducible refine callP1_eq (rdatum_q _ d hty (hf.texts d (List.mem_of_getElem? hd))) ?_
        conv => whnf
        refine DWL.run E_ok 2000 ?_
        conv => whnf
        refine caseB_split (fun h6 => ?_) (fun h6 => ?_)
        · conv => whnf
          refine DWL.run E_ok 2000 ?_
          conv => whnf
          conv => whnf
          refine SWL.run E_ok 2000 ?_
          conv => whnf
          conv => whnf
          refine AWL.run E_ok Tryz.func108 2000 ?_
          conv => whnf
          refine caseB_true ?_
          conv => whnf
          refine AWL.run E_ok Tryz.func108 2000 ?_
          conv => whnf
          rw [Bool.not_eq_true'] at h6
          rw [hnext, h6, Bool.false_and, Bool.false_and]
        · rw [Bool.not_eq_false'] at h6
          conv => whnf
          refine DWL.run E_ok 2000 ?_
          conv => whnf
          refine caseB_split (fun h7 => ?_) (fun h7 => ?_)
          · have hk0 : 0 < k := by simpa using h7
            obtain ⟨e, he⟩ := some_of_lt (l := s.data) (k := k - 1) (by omega)
            have hw : IntKind.i64.wrap ((k : Int) - 1) = ((k - 1 : Nat) : Int) := by rw [wrap64 (by omega) (by omega)]; omega
            have hpr : prevD s.data k = some e := by simp [prevD, he]; omega
            conv => whnf
            refine DWL.run E_ok 2000 ?_
            conv => whnf
            rw [hw]
            refine elemP_intro e.enc (by omega) (elem_map he) rfl ?_
            conv => whnf
            refine DWL.run E_ok 2000 ?_
            conv => whnf
            refine elemP_intro d.enc (by omega) (elem_map hd) rfl ?_
            conv => whnf
            refine DWL.run E_ok 2000 ?_
            conv => whnf
            with_reducible refine callP1_eq (rless_p _ _) ?_
            conv => whnf
            refine DWL.run E_ok 2000 ?_
            conv => whnf
            rw [lessD_cmp]
            conv => whnf
            refine SWL.run E_ok 2000 ?_
            conv => whnf
            conv => whnf
            refine AWL.run E_ok Tryz.func108 2000 ?_
            conv => whnf
            refine caseB_split (fun h8 => ?_) (fun h8 => ?_)
            · conv => whnf
              refine AWL.run E_ok Tryz.func108 2000 ?_
              conv => whnf
              have : decide (cmpD e d < 0) = false := by simpa using h8
              rw [hnext, hpr]; dsimp only; rw [this, Bool.and_false, Bool.false_and]
            · conv => whnf
              refine AWL.run E_ok Tryz.func108 2000 ?_
              conv => whnf
              have : decide (cmpD e d < 0) = true := by simpa using h8
              refine AWL.back (IH (k + 1) ⟨by omega, by rw [hnext, hpr]; dsimp only; rw [this, h6]; rfl⟩ (by omega)) ?_
              conv => whnf
              repeat (first | exact trivial | (refine And.intro (by first | with_reducible rfl | exact congrArg (DV.int .i64) (by omega) | exact congrArg (DV.int .i64) (wrap64 (by omega) (by omega)) | exact congrArg (DV.int .i64) ((wrap64 (by omega) (by omega)).trans (by omega))) ?_; conv => whnf))
          · have hk0 : k = 0 := by simp at h7; omega
            have hpr : prevD s.data k = none := by simp [prevD, hk0]
            conv => whnf
            refine DWL.run E_ok 2000 ?_
            conv => whnf
            conv => whnf
            refine SWL.run E_ok 2000 ?_
            conv => whnf
            conv => whnf
            refine AWL.run E_ok Tryz.func108 2000 ?_
            conv => whnf
            refine caseB_false ?_
            conv => whnf
            refine AWL.run E_ok Tryz.func108 2000 ?_
            conv => whnf
            refine AWL.back (IH (k + 1) ⟨by omega, by rw [hnext, hpr, h6]; rfl⟩ (by omega)) ?_
            conv => whnf
            repeat (first | exact trivial | (refine And.intro (by first | with_reducible rfl | exact congrArg (DV.int .i64) (by omega) | exact congrArg (DV.int .i64) (wrap64 (by omega) (by omega)) | exact congrArg (DV.int .i64) ((wrap64 (by omega) (by omega)).trans (by omega))) ?_; conv => whnf))
      · have hge : s.data.length ≤ k := by simpa using h5
        conv => whnf
        refine AWL.run E_ok Tryz.func108 2000 ?_
        conv => whnf
        rw [hk.2, List.drop_of_length_le hge]
        rfl

end Go.Proofs.YtebielkakdhelaaGreatDoor.P
end

/- Contracts by the engine: the parts of the laws of layer 8. Conditions: lengths that Go allows. -/
section
namespace Go.Proofs.YtebielkakdhelaaGreatDoor.P
open Go Go.Eng
set_option maxRecDepth 100000
set_option maxHeartbeats 4000000

theorem address_p (t : Text) (n : Int) : PCalls E 45 [.str t, .int .i64 n] (· = (RSet.mk t 1 5 [⟨[], n, 0⟩]).enc) := by
  refine PCalls.run E_ok (fn := Tryz.f45) Tryz.func45 (body := Tryz.f45.body.getD .skip) rfl (by decide) 2000 ?_
  conv => whnf
  rfl

theorem ordered0_p : PCalls E 60 [.agg [.str [], .nilsl]] (· = .bool false) := by
  refine PCalls.run E_ok (fn := Tryz.f60) Tryz.func60 (body := Tryz.f60.body.getD .skip) rfl (by decide) 2000 ?_
  conv => whnf
  with_reducible refine callP_eq (nvalid_p [] (by decide)) ?_
  conv => whnf
  refine AWL.run E_ok Tryz.func60 2000 ?_
  conv => whnf
  refine caseB_yes (by decide) ?_
  conv => whnf
  refine AWL.run E_ok Tryz.func60 2000 ?_
  conv => whnf
  refine caseB_true ?_
  conv => whnf
  refine AWL.run E_ok Tryz.func60 2000 ?_
  conv => whnf
  refine caseB_true ?_
  conv => whnf
  refine AWL.run E_ok Tryz.func60 2000 ?_
  conv => whnf
theorem zvalid0_p : PCalls E 16 [.agg [.str [], .nilsl]] (· = .bool false) := by
  refine PCalls.run E_ok (fn := Tryz.f16) Tryz.func16 (body := Tryz.f16.body.getD .skip) rfl (by decide) 2000 ?_
  conv => whnf
  with_reducible refine callP_eq (ordered0_p) ?_
  conv => whnf
  refine AWL.run E_ok Tryz.func16 2000 ?_
  conv => whnf
  refine caseB_yes (by decide) ?_
  conv => whnf
  refine AWL.run E_ok Tryz.func16 2000 ?_
  conv => whnf
  refine caseB_true ?_
  conv => whnf
  refine AWL.run E_ok Tryz.func16 2000 ?_
  conv => whnf
theorem all0_p (k : Key) : PCalls E 13 [.agg [.str [], .nilsl], .sl [k.enc], .int .i64 10, .int .i64 20] (· = .tup [.agg [.str [], .nilsl], .int .i64 1]) := by
  refine PCalls.run E_ok (fn := Tryz.f13) Tryz.func13 (body := Tryz.f13.body.getD .skip) rfl (by decide) 2000 ?_
  conv => whnf
  repeat' (first | with_reducible refine callP_eq (winOK_p _ _) ?_ | with_reducible refine callP1_eq (winOK_p _ _) ?_ | with_reducible refine callP_eq (zvalid0_p) ?_ | with_reducible refine callP1_eq (zvalid0_p) ?_ | with_reducible refine caseB_true ?_ | with_reducible refine caseB_false ?_ | with_reducible refine caseB_yes (by decide) ?_ | with_reducible refine caseB_no (by decide) ?_ | with_reducible refine caseB_yes (by assumption) ?_ | with_reducible refine caseB_no (by assumption) ?_ | with_reducible refine caseB_split (fun _ => ?_) (fun _ => ?_) | ((conv => whnf); (with_reducible refine AWL.run E_ok Tryz.func13 2000 ?_); (conv => whnf); fail_if_success (with_reducible refine AWL.of ?_)) | ((conv => whnf); (with_reducible refine DWL.run E_ok 2000 ?_); (conv => whnf); fail_if_success (with_reducible refine DWL.is ?_)) | ((conv => whnf); (with_reducible refine SWL.run E_ok 2000 ?_); (conv => whnf); fail_if_success (with_reducible refine SWL.is ?_)))

theorem add0_a (d : Int) : ACalls E 105 [.cells [.d (.int .u64 d)]] [.ptr 0 0, .d .nilsl] (fun a b => a = .tup [] ∧ b = [.cells [.d (.int .u64 d)]]) := by
  refine ACalls.run E_ok (fn := Tryz.f105) Tryz.func105 (body := Tryz.f105.body.getD .skip) rfl (by decide) 2000 rfl ?_
  conv => whnf
  refine AWL.unroll ?_
  refine AWL.run E_ok Tryz.func105 2000 ?_
  conv => whnf
  refine caseB_no (by decide) ?_
  conv => whnf
  refine AWL.run E_ok Tryz.func105 2000 ?_
  conv => whnf
  exact ⟨rfl, rfl⟩
theorem digest0_p : PCalls E 46 [.nilsl] (· = .int .u64 14695981039346656037) := by
  refine PCalls.run E_ok (fn := Tryz.f46) Tryz.func46 (body := Tryz.f46.body.getD .skip) rfl (by decide) 2000 ?_
  conv => whnf
  with_reducible refine callS_eq (add0_a _) ?_
  conv => whnf
  refine AWL.run E_ok Tryz.func46 2000 ?_
  conv => whnf


def setA : RSet := ⟨[97, 46, 120], 1, 5, [⟨[], 7, 0⟩]⟩
def setY : RSet := ⟨[97, 46, 121], 1, 5, [⟨[], 7, 0⟩]⟩
def key3 : Key := ⟨3, 1⟩
def key4 : Key := ⟨4, 1⟩
def sumA : Int := dig dig0 (sumB (setB setA) [120] key3 10 20)
def sigA : Sig := ⟨[120], 3, 1, 10, 20, sumA⟩
theorem setA_fits : setA.Fits := ⟨by decide, by decide, by decide⟩
theorem setY_fits : setY.Fits := ⟨by decide, by decide, by decide⟩
theorem okA : signOK setA [120] key3 10 20 = true := by decide +kernel
theorem okY : signOK setY [120] key3 10 20 = false := by decide +kernel
theorem okW : signOK setA [120] key3 20 10 = false := by decide +kernel
theorem signA_p : PCalls E 44 [.agg [.str [97, 46, 120], .int .i64 1, .int .i64 5, .sl [.agg [.str [], .int .i64 7, .int .i64 0]]], .str [120], .agg [.int .i64 3, .int .i64 1], .int .i64 10, .int .i64 20] (· = .tup [.agg [.str [120], .int .i64 3, .int .i64 1, .int .i64 10, .int .i64 20, .int .u64 sumA], .int .i64 0]) := by
  have h := sign_p setA [120] key3 10 20 setA_fits (by decide)
  simp only [signR, signE, okA, if_true] at h
  exact h
theorem signY_p : PCalls E 44 [.agg [.str [97, 46, 121], .int .i64 1, .int .i64 5, .sl [.agg [.str [], .int .i64 7, .int .i64 0]]], .str [120], .agg [.int .i64 3, .int .i64 1], .int .i64 10, .int .i64 20] (· = .tup [.agg [.str [], .int .i64 0, .int .i64 0, .int .i64 0, .int .i64 0, .int .u64 0], .int .i64 1]) := by
  have h := sign_p setY [120] key3 10 20 setY_fits (by decide)
  simp only [signR, signE, okY, Bool.false_eq_true, if_false] at h
  exact h
theorem signW_p : PCalls E 44 [.agg [.str [97, 46, 120], .int .i64 1, .int .i64 5, .sl [.agg [.str [], .int .i64 7, .int .i64 0]]], .str [120], .agg [.int .i64 3, .int .i64 1], .int .i64 20, .int .i64 10] (· = .tup [.agg [.str [], .int .i64 0, .int .i64 0, .int .i64 0, .int .i64 0, .int .u64 0], .int .i64 1]) := by
  have h := sign_p setA [120] key3 20 10 setA_fits (by decide)
  simp only [signR, signE, okW, Bool.false_eq_true, if_false] at h
  exact h
theorem checkA : checkB setA sigA key3 = true := by
  have h : sigEq (sigOf setA sigA.zone key3 sigA.frm sigA.upto) sigA = true := sigEq_iff.2 rfl
  have h0 : signOK setA sigA.zone key3 sigA.frm sigA.upto = true := okA
  rw [checkB, h, h0]; rfl
theorem checkA4 : checkB setA sigA key4 = false := by
  have h : ¬ sigEq (sigOf setA sigA.zone key4 sigA.frm sigA.upto) sigA = true := fun h => by
    have := congrArg Sig.key (sigEq_iff.1 h)
    exact absurd this (by decide)
  rw [Bool.not_eq_true] at h
  rw [checkB, h, Bool.and_false]
theorem checkA_p : PCalls E 18 [.agg [.str [97, 46, 120], .int .i64 1, .int .i64 5, .sl [.agg [.str [], .int .i64 7, .int .i64 0]]], .agg [.str [120], .int .i64 3, .int .i64 1, .int .i64 10, .int .i64 20, .int .u64 sumA], .agg [.int .i64 3, .int .i64 1]] (· = .bool true) := by
  have h := check_p setA sigA key3 setA_fits (by decide)
  rw [checkA] at h
  exact h
theorem checkA4_p : PCalls E 18 [.agg [.str [97, 46, 120], .int .i64 1, .int .i64 5, .sl [.agg [.str [], .int .i64 7, .int .i64 0]]], .agg [.str [120], .int .i64 3, .int .i64 1, .int .i64 10, .int .i64 20, .int .u64 sumA], .agg [.int .i64 4, .int .i64 1]] (· = .bool false) := by
  have h := check_p setA sigA key4 setA_fits (by decide)
  rw [checkA4] at h
  exact h
theorem digestZ_p : PCalls E 46 [.sl [.int .u8 0]] (· = .int .u64 12638153115695167455) := by
  have h := digest_p [.int .u8 0] (by decide) (by simp [isByte])
  rw [show dig dig0 [.int .u8 0] = 12638153115695167455 by decide +kernel] at h
  exact h
theorem all1_p : PCalls E 13 [.agg [.str [], .nilsl], .sl [.agg [.int .i64 3, .int .i64 1]], .int .i64 10, .int .i64 20] (· = .tup [.agg [.str [], .nilsl], .int .i64 1]) := all0_p key3

theorem head08_p : PCalls E 10 [] (· = .bool true) := by
  refine PCalls.run E_ok (fn := Tryz.f10) Tryz.func10 (body := Tryz.f10.body.getD .skip) rfl (by decide) 2000 ?_
  conv => whnf
  refine AWL.drawA E_ok E_mixed 6 2000 (by kernel_rfl) ?_
  conv => whnf
  with_reducible refine callP1_eq (address_p _ _) ?_
  conv => whnf
  refine DWL.run E_ok 2000 ?_
  conv => whnf
  refine callP1_eq (signA_p) ?_
  conv => whnf
  refine DWL.run E_ok 2000 ?_
  conv => whnf
  conv => whnf
  refine SWL.run E_ok 2000 ?_
  conv => whnf
  conv => whnf
  refine AWL.run E_ok Tryz.func10 2000 ?_
  conv => whnf
  refine AWL.drawA E_ok E_mixed 6 2000 (by kernel_rfl) ?_
  conv => whnf
  with_reducible refine callP1_eq (address_p _ _) ?_
  conv => whnf
  refine DWL.run E_ok 2000 ?_
  conv => whnf
  refine callP1_eq (signY_p) ?_
  conv => whnf
  refine DWL.run E_ok 2000 ?_
  conv => whnf
  conv => whnf
  refine SWL.run E_ok 2000 ?_
  conv => whnf
  conv => whnf
  refine AWL.run E_ok Tryz.func10 2000 ?_
  conv => whnf
  refine AWL.drawA E_ok E_mixed 6 2000 (by kernel_rfl) ?_
  conv => whnf
  with_reducible refine callP1_eq (address_p _ _) ?_
  conv => whnf
  refine DWL.run E_ok 2000 ?_
  conv => whnf
  refine callP1_eq (signW_p) ?_
  conv => whnf
  refine DWL.run E_ok 2000 ?_
  conv => whnf
  conv => whnf
  refine SWL.run E_ok 2000 ?_
  conv => whnf
  conv => whnf
  refine AWL.run E_ok Tryz.func10 2000 ?_
  conv => whnf
  refine callP_eq (all1_p) ?_
  conv => whnf
  refine AWL.run E_ok Tryz.func10 2000 ?_
  conv => whnf
  repeat' (first | with_reducible refine caseB_true ?_ | with_reducible refine caseB_false ?_ | with_reducible refine caseB_yes (by decide) ?_ | with_reducible refine caseB_no (by decide) ?_ | with_reducible refine caseB_yes (by assumption) ?_ | with_reducible refine caseB_no (by assumption) ?_ | with_reducible refine caseB_split (fun _ => ?_) (fun _ => ?_) | ((conv => whnf); (with_reducible refine AWL.run E_ok Tryz.func10 2000 ?_); (conv => whnf); fail_if_success (with_reducible refine AWL.of ?_)) | ((conv => whnf); (with_reducible refine DWL.run E_ok 2000 ?_); (conv => whnf); fail_if_success (with_reducible refine DWL.is ?_)) | ((conv => whnf); (with_reducible refine SWL.run E_ok 2000 ?_); (conv => whnf); fail_if_success (with_reducible refine SWL.is ?_)))
  conv => whnf
  refine AWL.run E_ok Tryz.func10 2000 ?_
  conv => whnf
  refine AWL.draw E_ok E_mixed 15 2000 (by kernel_rfl) ?_
  conv => whnf
  refine caseB_true ?_
  conv => whnf
  refine DWL.run E_ok 2000 ?_
  conv => whnf
  with_reducible refine callP1_eq (address_p _ _) ?_
  conv => whnf
  refine DWL.run E_ok 2000 ?_
  conv => whnf
  refine callP1_eq (checkA_p) ?_
  conv => whnf
  refine DWL.run E_ok 2000 ?_
  conv => whnf
  refine caseB_true ?_
  conv => whnf
  refine DWL.run E_ok 2000 ?_
  conv => whnf
  with_reducible refine callP1_eq (address_p _ _) ?_
  conv => whnf
  refine DWL.run E_ok 2000 ?_
  conv => whnf
  refine callP1_eq (checkA4_p) ?_
  conv => whnf
  refine DWL.run E_ok 2000 ?_
  conv => whnf
  conv => whnf
  refine SWL.run E_ok 2000 ?_
  conv => whnf
  conv => whnf
  refine AWL.run E_ok Tryz.func10 2000 ?_
  conv => whnf
  refine caseB_true ?_
  conv => whnf
  refine AWL.run E_ok Tryz.func10 2000 ?_
  conv => whnf
  refine callP_eq (digest0_p) ?_
  conv => whnf
  refine AWL.run E_ok Tryz.func10 2000 ?_
  conv => whnf
  refine caseB_yes (by decide) ?_
  conv => whnf
  refine AWL.run E_ok Tryz.func10 2000 ?_
  conv => whnf
  refine callP_eq (digestZ_p) ?_
  conv => whnf
  refine AWL.run E_ok Tryz.func10 2000 ?_
  conv => whnf
  rfl

end Go.Proofs.YtebielkakdhelaaGreatDoor.P
end
