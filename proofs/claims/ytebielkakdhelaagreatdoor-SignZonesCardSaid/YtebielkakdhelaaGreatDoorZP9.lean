/- Contracts by the engine: the reference implementation's names: parts, order, wildcards. Conditions: lengths that Go allows. -/
import Derived.Test.YtebielkakdhelaaGreatDoorZM8
set_option linter.unusedVariables false
set_option linter.unusedSimpArgs false
namespace Go.Proofs.YtebielkakdhelaaGreatDoor.P
open Go Go.Eng
set_option maxRecDepth 100000
set_option maxHeartbeats 4000000

theorem split_len (t : Text) : (Nm.split t).length ≤ t.length + 1 := by
  induction t with
  | nil => simp [Nm.split]
  | cons c r ih =>
    by_cases hc : c = 46
    · subst hc; simp [Nm.split]; omega
    · obtain ⟨x, u, h1, h2⟩ := Nm.split_cons c r hc
      rw [h2]
      rw [h1] at ih
      simp at ih ⊢
      omega
theorem split_mem (t : Text) : ∀ x ∈ Nm.split t, x.length ≤ t.length := by
  induction t with
  | nil => simp [Nm.split]
  | cons c r ih =>
    intro x hx
    by_cases hc : c = 46
    · subst hc
      simp only [Nm.split, if_true] at hx
      rcases List.mem_cons.1 hx with rfl | hx
      · simp
      · have := ih x hx; simp; omega
    · obtain ⟨y, u, h1, h2⟩ := Nm.split_cons c r hc
      rw [h2] at hx
      rw [h1] at ih
      rcases List.mem_cons.1 hx with rfl | hx
      · have := ih y (List.mem_cons_self ..); simp; omega
      · have := ih x (List.mem_cons_of_mem _ hx); simp; omega
theorem rsplit_p (t : Text) (ht : t.length ≤ 1000) : PCalls E 146 [.str t] (· = .sl ((Nm.split t).map .str)) := by
  refine PCalls.run E_ok (fn := Tryz.f146) Tryz.func146 (body := Tryz.f146.body.getD .skip) rfl (by decide) 6 ?_
  conv => whnf
  refine AWL.buildOwn E_ok rfl ?_
  conv => whnf
  refine AWL.run E_ok Tryz.func146 2000 ?_
  conv => whnf
  refine AWL.loop (κ := Nat) [3, 4, 6, 7, 8, 9, 10, 11, 12, 13, 14, 15, 16, 17, 18, 19, 20, 21, 22, 23, 24, 25, 26, 27, 28, 29, 30, 31, 32, 33, 34, 35] (fun k => [(4, .d (.int .i64 k)), (3, .own 0 1)]) (fun k => [(0, .arr 1 (9, 1) ((Nm.split (t.take k)).map .str))]) (fun k => k ≤ t.length) (fun k => t.length - k) 0 (Nat.zero_le _) ?_ ?_
  · conv => whnf
    repeat (first | exact trivial | (refine And.intro (by first | with_reducible rfl | exact congrArg (DV.int .i64) (by omega) | exact congrArg (DV.int .i64) (wrap64 (by omega) (by omega)) | exact congrArg (DV.int .i64) ((wrap64 (by omega) (by omega)).trans (by omega))) ?_; conv => whnf))
    refine And.intro (by simp [Nm.split]) ?_
    conv => whnf
    repeat (first | exact trivial | (refine And.intro (by first | with_reducible rfl | exact congrArg (DV.int .i64) (by omega) | exact congrArg (DV.int .i64) (wrap64 (by omega) (by omega)) | exact congrArg (DV.int .i64) ((wrap64 (by omega) (by omega)).trans (by omega))) ?_; conv => whnf))
  · intro k hk IH
    have hlen := split_len (t.take k)
    rw [List.length_take] at hlen
    refine AWL.head E_ok Tryz.func146 2000 ?_
    conv => whnf
    refine caseB_split (fun h1 => ?_) (fun h1 => ?_)
    · have hlt : k < t.length := by simpa using h1
      obtain ⟨c, hc⟩ := some_of_lt hlt
      conv => whnf
      refine AWL.run E_ok Tryz.func146 2000 ?_
      conv => whnf
      refine byteP_intro c (by omega) (by rw [Int.toNat_natCast]; exact hc) ?_
      conv => whnf
      refine AWL.run E_ok Tryz.func146 2000 ?_
      conv => whnf
      refine caseB_split (fun h2 => ?_) (fun h2 => ?_)
      · have hdot : c = 46 := by
          have : (c.toNat : Int) = 46 := by simpa using h2
          exact UInt8.toNat_inj.1 (by simp; omega)
        conv => whnf
        refine AWL.run E_ok Tryz.func146 2000 ?_
        conv => whnf
        refine need_intro ⟨by simp; omega, by simp [DV.cells]⟩ ?_
        conv => whnf
        refine AWL.run E_ok Tryz.func146 2000 ?_
        conv => whnf
        refine AWL.back (IH (k + 1) (by omega) (by omega)) ?_
        conv => whnf
        repeat (first | exact trivial | (refine And.intro (by first | with_reducible rfl | exact congrArg (DV.int .i64) (by omega) | exact congrArg (DV.int .i64) (wrap64 (by omega) (by omega)) | exact congrArg (DV.int .i64) ((wrap64 (by omega) (by omega)).trans (by omega))) ?_; conv => whnf))
        refine And.intro (by rw [Nm.split_step_dot t k c hc hdot]; simp) ?_
        conv => whnf
        repeat (first | exact trivial | (refine And.intro (by first | with_reducible rfl | exact congrArg (DV.int .i64) (by omega) | exact congrArg (DV.int .i64) (wrap64 (by omega) (by omega)) | exact congrArg (DV.int .i64) ((wrap64 (by omega) (by omega)).trans (by omega))) ?_; conv => whnf))
      · have hdot : c ≠ 46 := by rintro rfl; simp at h2
        obtain ⟨i, x, e1⟩ : ∃ i x, Nm.split (t.take k) = i ++ [x] := ⟨_, _, (List.dropLast_concat_getLast (Nm.split_ne _)).symm⟩
        have hst := Nm.split_step t k c hc hdot i x e1
        rw [e1] at hlen ⊢
        have hw : IntKind.i64.wrap ((((i ++ [x]).map DV.str).length : Int) - 1) = (i.length : Int) := by
          rw [wrap64 (by simp) (by simp; simp at hlen; omega)]; simp
        conv => whnf
        refine AWL.run E_ok Tryz.func146 2000 ?_
        conv => whnf
        refine AWL.draw E_ok E_mixed 17 2000 (by kernel_rfl) ?_
        conv => whnf
        rw [hw]
        have hel : ((i ++ [x]).map DV.str)[((i.length : Nat) : Int).toNat]? = some (.str x) := by simp
        have hcb : (List.drop (Int.toNat (k : Int)) (List.take (IntKind.i64.wrap ((k : Int) + 1)).toNat t)) = [c] := by
          rw [wrap64 (by omega) (by omega), show ((k : Int) + 1).toNat = k + 1 by omega, Int.toNat_natCast, take_next hc]
          simp [Nat.min_eq_left (Nat.le_of_lt hlt)]
        refine need_intro ⟨by omega, by simp; omega⟩ ?_
        conv => whnf
        refine DWL.run E_ok 2000 ?_
        conv => whnf
        refine elemP_intro (.str x) (by omega) hel rfl ?_
        conv => whnf
        refine DWL.run E_ok 2000 ?_
        conv => whnf
        have hk1 : IntKind.i64.wrap ((k : Int) + 1) = (k : Int) + 1 := wrap64 (by omega) (by omega)
        refine need_intro ⟨by simp, by simp [hk1]; omega, by simp [hk1]; omega⟩ ?_
        conv => whnf
        refine DWL.run E_ok 2000 ?_
        conv => whnf
        have hxl : x.length ≤ 1000 := by
          have := split_mem (t.take k) x (by rw [e1]; simp)
          simp at this
          omega
        simp only [Option.getD_some]
        rw [hcb]
        refine need_intro (by simp; omega) ?_
        conv => whnf
        refine DWL.run E_ok 2000 ?_
        conv => whnf
        refine need_intro ⟨by omega, by simp; omega⟩ ?_
        conv => whnf
        refine DWL.run E_ok 2000 ?_
        conv => whnf
        conv => whnf
        refine SWL.run E_ok 2000 ?_
        conv => whnf
        refine elemP_intro (.str x) (by omega) hel rfl ?_
        conv => whnf
        refine SWL.run E_ok 2000 ?_
        conv => whnf
        conv => whnf
        refine AWL.run E_ok Tryz.func146 2000 ?_
        conv => whnf
        refine AWL.back (IH (k + 1) (by omega) (by omega)) ?_
        conv => whnf
        repeat (first | exact trivial | (refine And.intro (by first | with_reducible rfl | exact congrArg (DV.int .i64) (by omega) | exact congrArg (DV.int .i64) (wrap64 (by omega) (by omega)) | exact congrArg (DV.int .i64) ((wrap64 (by omega) (by omega)).trans (by omega))) ?_; conv => whnf))
        refine And.intro (by rw [hst]; simp [List.set_append_right]) ?_
        conv => whnf
        repeat (first | exact trivial | (refine And.intro (by first | with_reducible rfl | exact congrArg (DV.int .i64) (by omega) | exact congrArg (DV.int .i64) (wrap64 (by omega) (by omega)) | exact congrArg (DV.int .i64) ((wrap64 (by omega) (by omega)).trans (by omega))) ?_; conv => whnf))
    · have hge : k = t.length := by simp at h1; omega
      subst hge
      conv => whnf
      refine AWL.run E_ok Tryz.func146 2000 ?_
      conv => whnf
      simp

theorem rparts_p (t : Text) (ht : t.length ≤ 1000) : PCalls E 148 [.str t] (· = .sl ((Nm.labels t).map .str)) := by
  refine PCalls.norm ?_
  refine PCalls.run E_ok (fn := Tryz.f148) Tryz.func148 (body := Tryz.f148.body.getD .skip) rfl (by decide) 2000 ?_
  conv => whnf
  repeat' (first | with_reducible refine callP_eq (rsplit_p _ ht) ?_ | with_reducible refine callP1_eq (rsplit_p _ ht) ?_ | with_reducible refine caseB_true ?_ | with_reducible refine caseB_false ?_ | with_reducible refine caseB_yes (by decide) ?_ | with_reducible refine caseB_no (by decide) ?_ | with_reducible refine caseB_yes (by assumption) ?_ | with_reducible refine caseB_no (by assumption) ?_ | with_reducible refine caseB_split (fun _ => ?_) (fun _ => ?_) | ((conv => whnf); (with_reducible refine AWL.run E_ok Tryz.func148 2000 ?_); (conv => whnf); fail_if_success (with_reducible refine AWL.of ?_)) | ((conv => whnf); (with_reducible refine DWL.run E_ok 2000 ?_); (conv => whnf); fail_if_success (with_reducible refine DWL.is ?_)) | ((conv => whnf); (with_reducible refine SWL.run E_ok 2000 ?_); (conv => whnf); fail_if_success (with_reducible refine SWL.is ?_)))
  all_goals simp_all [Nm.labels, norm]

theorem rin_p (t z : Text) (ht : t.length ≤ 1000) (hz : z.length ≤ 1000) : PCalls E 109 [.str t, .str z] (· = .bool (Nm.under t z)) :=
  ofTexts (g := fun t z => .bool (Nm.under t z)) t z ⟨_, Tryz.func109, rfl, by decide⟩ fun w => (rin_any ⟨t.toArray⟩ ⟨z.toArray⟩ w (by simpa [ByteArray.size] using ht) (by simpa [ByteArray.size] using hz)).mono fun e w' ⟨h1, h2⟩ => ⟨_, h1, fun _ _ => by
    simp only [toL_mk]
    exact .bool _, h2⟩

/-- The first label is a star. -/
def wildL (t : Text) : Bool := match Nm.labels t with
  | [] => false
  | x :: _ => x == [42]
theorem rwildL_p (t : Text) (ht : t.length ≤ 1000) : PCalls E 107 [.str t] (· = .bool (wildL t)) := by
  unfold wildL
  refine PCalls.run E_ok (fn := Tryz.f107) Tryz.func107 (body := Tryz.f107.body.getD .skip) rfl (by decide) 2000 ?_
  conv => whnf
  with_reducible refine callP_eq (rparts_p _ ht) ?_
  conv => whnf
  refine AWL.run E_ok Tryz.func107 2000 ?_
  conv => whnf
  cases hl : Nm.labels t with
  | nil =>
    refine caseB_no (by simp) ?_
    conv => whnf
    refine AWL.run E_ok Tryz.func107 2000 ?_
    conv => whnf
  | cons x l =>
    refine caseB_yes (by simp) ?_
    conv => whnf
    refine AWL.run E_ok Tryz.func107 2000 ?_
    conv => whnf
    refine elemP_intro (.str x) (by decide) rfl rfl ?_
    conv => whnf
    refine AWL.run E_ok Tryz.func107 2000 ?_
    conv => whnf

/-- Two lists of labels, from the last one on, compared. -/
def cmpL : List Text → List Text → Int
  | [], [] => 0
  | [], _ :: _ => -1
  | _ :: _, [] => 1
  | x :: l, y :: m => if Op.bytesLess x y then -1 else if x == y then cmpL l m else 1
/-- The canonical order. -/
def ordN (a b : Text) : Int := cmpL (Nm.labels a).reverse (Nm.labels b).reverse

theorem rev_at {α : Type} {l : List α} {k : Nat} (hk : k < l.length) : ∃ x, l[l.length - (k + 1)]? = some x ∧ l.reverse.drop k = x :: l.reverse.drop (k + 1) := by
  have h1 : l.length - (k + 1) < l.length := by omega
  refine ⟨l[l.length - (k + 1)], by simp [h1], ?_⟩
  rw [List.drop_eq_getElem_cons (by simpa using hk)]
  congr 1
  simp only [List.getElem_reverse]
  congr 1
  omega
theorem labels_len (t : Text) : (Nm.labels t).length ≤ t.length + 1 := by
  unfold Nm.labels
  split
  · simp
  · exact split_len t

theorem rorder_p (a b : Text) (ha : a.length ≤ 1000) (hb : b.length ≤ 1000) : PCalls E 118 [.str a, .str b] (· = .int .i64 (ordN a b)) := by
  have hla := labels_len a
  have hlb := labels_len b
  unfold ordN
  refine PCalls.run E_ok (fn := Tryz.f118) Tryz.func118 (body := Tryz.f118.body.getD .skip) rfl (by decide) 2000 ?_
  conv => whnf
  with_reducible refine callP_eq (rparts_p _ ha) ?_
  conv => whnf
  refine AWL.run E_ok Tryz.func118 2000 ?_
  conv => whnf
  with_reducible refine callP_eq (rparts_p _ hb) ?_
  conv => whnf
  refine AWL.run E_ok Tryz.func118 2000 ?_
  conv => whnf
  generalize Nm.labels a = l at *
  generalize Nm.labels b = m at *
  refine AWL.loop (κ := Nat) [4, 7, 8, 9, 14, 15, 16, 17, 18, 19, 20, 21, 22, 23, 24, 25, 26, 27, 28, 29, 30, 31, 32, 33, 34, 35, 36, 37, 38, 39, 40, 41, 42, 43, 44, 45] (fun k => [(7, .d (.int .i64 (k + 1)))]) (fun _ => []) (fun k => k ≤ l.length ∧ k ≤ m.length ∧ cmpL l.reverse m.reverse = cmpL (l.reverse.drop k) (m.reverse.drop k)) (fun k => l.length - k) 0 ⟨Nat.zero_le _, Nat.zero_le _, rfl⟩ ?_ ?_
  · conv => whnf
    repeat (first | exact trivial | (refine And.intro (by first | with_reducible rfl | exact congrArg (DV.int .i64) (by omega) | exact congrArg (DV.int .i64) (wrap64 (by omega) (by omega)) | exact congrArg (DV.int .i64) ((wrap64 (by omega) (by omega)).trans (by omega))) ?_; conv => whnf))
  · intro k hk IH
    refine AWL.head E_ok Tryz.func118 2000 ?_
    conv => whnf
    refine caseB_split (fun h1 => ?_) (fun h1 => ?_)
    · conv => whnf
      refine AWL.run E_ok Tryz.func118 2000 ?_
      conv => whnf
      refine caseB_split (fun h2 => ?_) (fun h2 => ?_)
      · have h1' : k < l.length := by simp at h1; omega
        have h2' : k < m.length := by simp at h2; omega
        obtain ⟨x, hx, hxd⟩ := rev_at h1'
        obtain ⟨y, hy, hyd⟩ := rev_at h2'
        have hw1 : IntKind.i64.wrap ((l.length : Int) - (k + 1)) = ((l.length - (k + 1) : Nat) : Int) := by rw [wrap64 (by omega) (by omega)]; omega
        have hw2 : IntKind.i64.wrap ((m.length : Int) - (k + 1)) = ((m.length - (k + 1) : Nat) : Int) := by rw [wrap64 (by omega) (by omega)]; omega
        have hc := hk.2.2
        rw [hxd, hyd] at hc
        conv => whnf
        refine AWL.run E_ok Tryz.func118 2000 ?_
        conv => whnf
        simp only [List.length_map]
        rw [hw1]
        refine elemP_intro (.str x) (by omega) (elem_map hx) rfl ?_
        conv => whnf
        refine AWL.run E_ok Tryz.func118 2000 ?_
        conv => whnf
        simp only [List.length_map]
        rw [hw2]
        refine elemP_intro (.str y) (by omega) (elem_map hy) rfl ?_
        conv => whnf
        refine AWL.run E_ok Tryz.func118 2000 ?_
        conv => whnf
        refine caseB_split (fun h3 => ?_) (fun h3 => ?_)
        · conv => whnf
          refine AWL.run E_ok Tryz.func118 2000 ?_
          conv => whnf
          rw [hc, cmpL, if_pos h3]
        · conv => whnf
          refine AWL.run E_ok Tryz.func118 2000 ?_
          conv => whnf
          refine caseB_split (fun h4 => ?_) (fun h4 => ?_)
          · conv => whnf
            refine AWL.run E_ok Tryz.func118 2000 ?_
            conv => whnf
            rw [hc, cmpL, if_neg (by rw [h3]; decide), if_neg (by simp [h3] at h4; simpa using h4)]
          · conv => whnf
            refine AWL.run E_ok Tryz.func118 2000 ?_
            conv => whnf
            refine AWL.back (IH (k + 1) ⟨by omega, by omega, by rw [hc, cmpL, if_neg (by rw [h3]; decide), if_pos (by simpa [h3] using h4)]⟩ (by omega)) ?_
            conv => whnf
            repeat (first | exact trivial | (refine And.intro (by first | with_reducible rfl | exact congrArg (DV.int .i64) (by omega) | exact congrArg (DV.int .i64) (wrap64 (by omega) (by omega)) | exact congrArg (DV.int .i64) ((wrap64 (by omega) (by omega)).trans (by omega))) ?_; conv => whnf))
      · have h1' : k < l.length := by simp at h1; omega
        have h2' : k = m.length := by simp at h2; omega
        obtain ⟨x, hx, hxd⟩ := rev_at h1'
        have hc := hk.2.2
        rw [hxd, List.drop_of_length_le (l := m.reverse) (by simp; omega), cmpL] at hc
        conv => whnf
        refine AWL.run E_ok Tryz.func118 2000 ?_
        conv => whnf
        refine caseB_no (by simp; omega) ?_
        conv => whnf
        refine AWL.run E_ok Tryz.func118 2000 ?_
        conv => whnf
        refine caseB_yes (by simp; omega) ?_
        conv => whnf
        refine AWL.run E_ok Tryz.func118 2000 ?_
        conv => whnf
        rw [hc]
    · have h1' : k = l.length := by simp at h1; omega
      have hc := hk.2.2
      rw [List.drop_of_length_le (l := l.reverse) (by simp; omega)] at hc
      conv => whnf
      refine AWL.run E_ok Tryz.func118 2000 ?_
      conv => whnf
      refine caseB_false ?_
      conv => whnf
      refine AWL.run E_ok Tryz.func118 2000 ?_
      conv => whnf
      refine caseB_split (fun h2 => ?_) (fun h2 => ?_)
      · have h2' : k < m.length := by simp at h2; omega
        obtain ⟨y, hy, hyd⟩ := rev_at h2'
        rw [hyd, cmpL] at hc
        conv => whnf
        refine AWL.run E_ok Tryz.func118 2000 ?_
        conv => whnf
        rw [hc]
      · have h2' : k = m.length := by simp at h2; omega
        rw [List.drop_of_length_le (l := m.reverse) (by simp; omega), cmpL] at hc
        conv => whnf
        refine AWL.run E_ok Tryz.func118 2000 ?_
        conv => whnf
        refine caseB_no (by simp; omega) ?_
        conv => whnf
        refine AWL.run E_ok Tryz.func118 2000 ?_
        conv => whnf
        rw [hc]

theorem rcompare_p (a b : Text) (ha : Nm.valid a = true) (hb : Nm.valid b = true) : PCalls E 154 [.str a, .str b] (· = .tup [.int .i64 (ordN a b), .int .i64 0]) := by
  have h1 := valid_len ha
  have h2 := valid_len hb
  refine PCalls.run E_ok (fn := Tryz.f154) Tryz.func154 (body := Tryz.f154.body.getD .skip) rfl (by decide) 2000 ?_
  conv => whnf
  with_reducible refine callP_eq (rvalid_p _ (by unfold maxLen; omega)) ?_
  conv => whnf
  refine AWL.run E_ok Tryz.func154 2000 ?_
  conv => whnf
  with_reducible refine callP_eq (rvalid_p _ (by unfold maxLen; omega)) ?_
  conv => whnf
  refine AWL.run E_ok Tryz.func154 2000 ?_
  conv => whnf
  rw [ha, hb]
  refine caseB_no (by decide) ?_
  conv => whnf
  refine AWL.run E_ok Tryz.func154 2000 ?_
  conv => whnf
  refine caseB_no (by decide) ?_
  conv => whnf
  refine AWL.run E_ok Tryz.func154 2000 ?_
  conv => whnf
  with_reducible refine callP_eq (rorder_p _ _ (by omega) (by omega)) ?_
  conv => whnf
  refine AWL.run E_ok Tryz.func154 2000 ?_
  conv => whnf

/-- Two sets in order. -/
def ordS (a b : RSet) : Int := if ordN a.name b.name ≠ 0 then ordN a.name b.name else cmpI a.type b.type
theorem rordS_p (a b : RSet) (ha : Nm.valid a.name = true) (hb : Nm.valid b.name = true) : PCalls E 110 [a.enc, b.enc] (· = .int .i64 (ordS a b)) := by
  refine PCalls.run E_ok (fn := Tryz.f110) Tryz.func110 (body := Tryz.f110.body.getD .skip) rfl (by decide) 2000 ?_
  conv => whnf
  repeat' (first | with_reducible refine callP_eq (rcompare_p _ _ ha hb) ?_ | with_reducible refine callP1_eq (rcompare_p _ _ ha hb) ?_ | with_reducible refine caseB_true ?_ | with_reducible refine caseB_false ?_ | with_reducible refine caseB_yes (by decide) ?_ | with_reducible refine caseB_no (by decide) ?_ | with_reducible refine caseB_yes (by assumption) ?_ | with_reducible refine caseB_no (by assumption) ?_ | with_reducible refine caseB_split (fun _ => ?_) (fun _ => ?_) | ((conv => whnf); (with_reducible refine AWL.run E_ok Tryz.func110 2000 ?_); (conv => whnf); fail_if_success (with_reducible refine AWL.of ?_)) | ((conv => whnf); (with_reducible refine DWL.run E_ok 2000 ?_); (conv => whnf); fail_if_success (with_reducible refine DWL.is ?_)) | ((conv => whnf); (with_reducible refine SWL.run E_ok 2000 ?_); (conv => whnf); fail_if_success (with_reducible refine SWL.is ?_)))
  all_goals simp_all [ordS, cmpI]
  all_goals omega

end Go.Proofs.YtebielkakdhelaaGreatDoor.P
