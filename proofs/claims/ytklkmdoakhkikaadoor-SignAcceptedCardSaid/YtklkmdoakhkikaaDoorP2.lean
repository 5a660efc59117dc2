/- Contracts by the engine: record.Valid and what it calls. Conditions: texts and lists of lengths that Go allows. -/
import Derived.Test.YtklkmdoakhkikaaDoorP1
namespace Go.Proofs.YtklkmdoakhkikaaDoor.P
open Go Go.Eng
set_option maxRecDepth 100000

theorem elem_map {α : Type} {f : α → DV} {l : List α} {k : Nat} {x : α} (hx : l[k]? = some x) : (l.map f)[((k : Nat) : Int).toNat]? = some (f x) := by
  simp [hx]
theorem some_of_lt {α : Type} {l : List α} {k : Nat} (h : k < l.length) : ∃ x, l[k]? = some x := ⟨l[k], by simp [h]⟩

def orI : List Int → Int
  | [] => 0
  | x :: l => if x = 0 then orI l else x
theorem orI_zero {l : List Int} : ∀ {k : Nat}, (∀ j, j < k → l[j]? = some 0) → orI l = orI (l.drop k)
  | 0, _ => rfl
  | k + 1, h => by
    cases l with
    | nil => rfl
    | cons x l =>
      have h0 := h 0 (by omega)
      simp at h0
      subst h0
      simp only [orI, if_true, List.drop_succ_cons]
      exact orI_zero fun j hj => by have := h (j + 1) (by omega); simpa using this

theorem orI_p (l : List Int) (hl : l.length ≤ 2147483648) : PCalls E 83 [.sl (l.map (.int .i64))] (· = .int .i64 (orI l)) := by
  refine PCalls.run E_ok (fn := Tryd.f83) Tryd.func83 (body := Tryd.f83.body.getD .skip) rfl (by decide) 2000 ?_
  conv => whnf
  refine AWL.loop (κ := Nat) [2, 5, 8, 9, 10, 11, 12, 13, 14, 15, 16] (fun k => [(8, .d (.int .i64 k)), (2, .d (.int .i64 0))]) (fun _ => []) (fun k => k ≤ l.length ∧ ∀ j, j < k → l[j]? = some 0) (fun k => l.length - k) 0 ⟨Nat.zero_le _, fun j h => by omega⟩ ?_ ?_
  · conv => whnf
    repeat (first | exact trivial | (refine And.intro (by first | with_reducible rfl | exact congrArg (DV.int .i64) (by omega) | exact congrArg (DV.int .i64) (wrap64 (by omega) (by omega)) | exact congrArg (DV.int .i64) ((wrap64 (by omega) (by omega)).trans (by omega))) ?_; conv => whnf))
  · intro k hk IH
    refine AWL.head E_ok Tryd.func83 2000 ?_
    conv => whnf
    refine caseB_split (fun h1 => ?_) (fun h1 => ?_)
    · simp at h1
      obtain ⟨x, hx⟩ := some_of_lt h1
      conv => whnf
      refine AWL.run E_ok Tryd.func83 2000 ?_
      conv => whnf
      refine elemP_intro (.int .i64 x) (by omega) (elem_map hx) rfl ?_
      conv => whnf
      refine AWL.run E_ok Tryd.func83 2000 ?_
      conv => whnf
      refine caseB_split (fun h2 => ?_) (fun h2 => ?_)
      · conv => whnf
        refine AWL.run E_ok Tryd.func83 2000 ?_
        conv => whnf
        have hne : x ≠ 0 := by simpa using h2
        rw [orI_zero hk.2, List.drop_eq_getElem_cons h1]
        have : l[k] = x := by simpa [h1] using hx
        simp only [orI, this, if_neg hne]
      · conv => whnf
        refine AWL.run E_ok Tryd.func83 2000 ?_
        conv => whnf
        have h0 : x = 0 := by simpa using h2
        subst h0
        refine AWL.back (IH (k + 1) ⟨by omega, fun j hj => ?_⟩ (by omega)) ?_
        · rcases Nat.lt_or_ge j k with h | h
          · exact hk.2 j h
          · obtain rfl : j = k := by omega
            exact hx
        · conv => whnf
          repeat (first | exact trivial | (refine And.intro (by first | with_reducible rfl | exact congrArg (DV.int .i64) (by omega) | exact congrArg (DV.int .i64) (wrap64 (by omega) (by omega)) | exact congrArg (DV.int .i64) ((wrap64 (by omega) (by omega)).trans (by omega))) ?_; conv => whnf))
    · simp at h1
      conv => whnf
      refine AWL.run E_ok Tryd.func83 2000 ?_
      conv => whnf
      rw [orI_zero hk.2, List.drop_of_length_le h1]
      rfl

def cmpD (a b : Datum) : Int := orI [cmpS a.text b.text, cmpI a.n b.n, cmpI a.m b.m]
theorem cmpD_p (a b : Datum) : PCalls E 65 [a.enc, b.enc] (· = .int .i64 (cmpD a b)) := by
  refine PCalls.run E_ok (fn := Tryd.f65) Tryd.func65 (body := Tryd.f65.body.getD .skip) rfl (by decide) 2000 ?_
  conv => whnf
  refine AWL.draw E_ok E_mixed 18 2000 (by kernel_rfl) ?_
  conv => whnf
  with_reducible refine callP1_eq (cmpS_p _ _) ?_
  conv => whnf
  refine DWL.run E_ok 2000 ?_
  conv => whnf
  with_reducible refine callP1_eq (cmpI_p _ _) ?_
  conv => whnf
  refine DWL.run E_ok 2000 ?_
  conv => whnf
  with_reducible refine callP1_eq (cmpI_p _ _) ?_
  conv => whnf
  refine DWL.run E_ok 2000 ?_
  conv => whnf
  refine callP1_eq (orI_p [cmpS a.text b.text, cmpI a.n b.n, cmpI a.m b.m] (by simp)) ?_
  conv => whnf
  refine DWL.run E_ok 2000 ?_
  conv => whnf
  conv => whnf
  refine SWL.run E_ok 2000 ?_
  conv => whnf
  conv => whnf
  refine AWL.run E_ok Tryd.func65 2000 ?_
  conv => whnf
  rfl

def preB (a b : List UInt8) : Bool := b.isPrefixOf a
theorem pre_take {a b : List UInt8} : (a.take b.length == b) = preB a b := by
  unfold preB
  rw [Bool.eq_iff_iff, beq_iff_eq, List.isPrefixOf_iff_prefix]
  constructor
  · intro e; rw [← e]; exact List.take_prefix _ _
  · intro e; exact (List.prefix_iff_eq_take.1 e).symm
theorem pre_long {a b : List UInt8} (h : a.length < b.length) : preB a b = false := by
  unfold preB
  rw [Bool.eq_false_iff]
  intro e
  have := (List.isPrefixOf_iff_prefix.1 e).length_le
  omega
theorem hasPrefix0_p (a b : List UInt8) : PCalls E 42 [.str a, .str b] (· = .bool (preB a b)) := by
  refine PCalls.run E_ok (fn := Tryd.f42) Tryd.func42 (body := Tryd.f42.body.getD .skip) rfl (by decide) 2000 ?_
  conv => whnf
  refine caseB_split (fun h => ?_) (fun h => ?_)
  · simp at h
    conv => whnf
    refine AWL.run E_ok Tryd.func42 2000 ?_
    conv => whnf
    refine need_intro ⟨by simp, by simp, by simp; omega⟩ ?_
    conv => whnf
    refine AWL.run E_ok Tryd.func42 2000 ?_
    conv => whnf
    simp
    exact pre_take
  · simp at h
    conv => whnf
    refine AWL.run E_ok Tryd.func42 2000 ?_
    conv => whnf
    rw [pre_long h]
theorem hasPrefix_p (a b : List UInt8) : PCalls E 22 [.str a, .str b] (· = .bool (preB a b)) := by
  refine PCalls.run E_ok (fn := Tryd.f22) Tryd.func22 (body := Tryd.f22.body.getD .skip) rfl (by decide) 2000 ?_
  conv => whnf
  with_reducible refine callP_eq (hasPrefix0_p _ _) ?_
  conv => whnf
  refine AWL.run E_ok Tryd.func22 2000 ?_
  conv => whnf
theorem pre_star (a : List UInt8) : preB a [42] = Nm.wild a := by
  cases a with
  | nil => rfl
  | cons c a =>
    show ((42 : UInt8) == c && List.isPrefixOf [] a) = (c == 42)
    simp only [List.isPrefixOf, Bool.and_true]
    exact BEq.comm
theorem isWild_p (a : List UInt8) : PCalls E 63 [.str a] (· = .bool (Nm.wild a)) := by
  refine PCalls.run E_ok (fn := Tryd.f63) Tryd.func63 (body := Tryd.f63.body.getD .skip) rfl (by decide) 2000 ?_
  conv => whnf
  with_reducible refine callP_eq (hasPrefix_p _ _) ?_
  conv => whnf
  refine AWL.run E_ok Tryd.func63 2000 ?_
  conv => whnf
  exact congrArg _ (pre_star a)

def okc (c : UInt8) : Bool := (decide (97 ≤ (c.toNat : Int)) && decide ((c.toNat : Int) ≤ 122)) || (decide (48 ≤ (c.toNat : Int)) && decide ((c.toNat : Int) ≤ 57)) || ((c.toNat : Int) == 32)
/-- A text of a datum of the type of texts. -/
def freeB (t : List UInt8) : Bool := decide (1 ≤ (t.length : Int)) && decide ((t.length : Int) ≤ 40) && !(t.head?.any fun c => (c.toNat : Int) == 32) && !(t.getLast?.any fun c => (c.toNat : Int) == 32) && t.all okc

theorem freeB_of {t : List UInt8} (h1 : 1 ≤ t.length) (h2 : t.length ≤ 40) {c0 c1 : UInt8} (h3 : t[0]? = some c0) (h4 : t[t.length - 1]? = some c1) (h5 : ((c0.toNat : Int) == 32) = false) (h6 : ((c1.toNat : Int) == 32) = false) : freeB t = t.all okc := by
  have e1 : t.head? = some c0 := by rw [← h3]; exact List.head?_eq_getElem?
  have e2 : t.getLast? = some c1 := by rw [← h4, List.getLast?_eq_getElem?]
  have e3 : decide (1 ≤ (t.length : Int)) = true := by simp; omega
  have e4 : decide ((t.length : Int) ≤ 40) = true := by simp; omega
  simp only [freeB, e1, e2, e3, e4, Option.any_some, h5, h6, Bool.not_false, Bool.and_self, Bool.true_and]

theorem okF {a b : Bool} {x y : Int} (h1 : (!a) = true) (h2 : (!b) = true) (h3 : (x != y) = true) : (a || b || (x == y)) = false := by
  cases a <;> cases b <;> simp_all
theorem okT1 {a b d : Bool} (h : (!a) = false) : (a || b || d) = true := by cases a <;> simp_all
theorem okT2 {a b d : Bool} (h : (!b) = false) : (a || b || d) = true := by cases b <;> simp_all
theorem okT3 {a b : Bool} {x y : Int} (h : (x != y) = false) : (a || b || (x == y)) = true := by simp_all

theorem isFree_p (t : List UInt8) : PCalls E 82 [.str t] (· = .bool (freeB t)) := by
  refine PCalls.run E_ok (fn := Tryd.f82) Tryd.func82 (body := Tryd.f82.body.getD .skip) rfl (by decide) 2000 ?_
  conv => whnf
  with_reducible refine callP_eq (within_p _ _ _) ?_
  conv => whnf
  refine AWL.run E_ok Tryd.func82 2000 ?_
  conv => whnf
  refine caseB_split (fun h1 => ?_) (fun h1 => ?_)
  · conv => whnf
    refine AWL.run E_ok Tryd.func82 2000 ?_
    conv => whnf
    refine caseB_true ?_
    conv => whnf
    refine AWL.run E_ok Tryd.func82 2000 ?_
    conv => whnf
    refine caseB_true ?_
    conv => whnf
    refine AWL.run E_ok Tryd.func82 2000 ?_
    conv => whnf
    have : (decide (1 ≤ (t.length : Int)) && decide ((t.length : Int) ≤ 40)) = false := by rw [Bool.not_eq_true'] at h1; exact h1
    simp only [freeB, this, Bool.false_and]
  · have hb : 1 ≤ t.length ∧ t.length ≤ 40 := by simp at h1; omega
    obtain ⟨c0, hc0⟩ := some_of_lt (l := t) (k := 0) (by omega)
    obtain ⟨c1, hc1⟩ := some_of_lt (l := t) (k := t.length - 1) (by omega)
    have hw : (IntKind.i64.wrap (t.length - 1)) = ((t.length - 1 : Nat) : Int) := by rw [wrap64 (by omega) (by omega)]; omega
    conv => whnf
    refine AWL.run E_ok Tryd.func82 2000 ?_
    conv => whnf
    refine byteP_intro c0 (by decide) hc0 ?_
    conv => whnf
    refine AWL.run E_ok Tryd.func82 2000 ?_
    conv => whnf
    refine caseB_split (fun h2 => ?_) (fun h2 => ?_)
    · conv => whnf
      refine AWL.run E_ok Tryd.func82 2000 ?_
      conv => whnf
      refine caseB_true ?_
      conv => whnf
      refine AWL.run E_ok Tryd.func82 2000 ?_
      conv => whnf
      have e1 : t.head? = some c0 := by rw [← hc0]; exact List.head?_eq_getElem?
      simp only [freeB, e1, Option.any_some, h2, Bool.not_true, Bool.and_false, Bool.false_and]
    · conv => whnf
      refine AWL.run E_ok Tryd.func82 2000 ?_
      conv => whnf
      rw [hw]
      refine byteP_intro c1 (by omega) (by rw [Int.toNat_natCast]; exact hc1) ?_
      conv => whnf
      refine AWL.run E_ok Tryd.func82 2000 ?_
      conv => whnf
      refine caseB_split (fun h3 => ?_) (fun h3 => ?_)
      · conv => whnf
        refine AWL.run E_ok Tryd.func82 2000 ?_
        conv => whnf
        have e2 : t.getLast? = some c1 := by rw [← hc1, List.getLast?_eq_getElem?]
        simp only [freeB, e2, Option.any_some, h3, Bool.not_true, Bool.and_false, Bool.false_and]
      · rw [freeB_of hb.1 hb.2 hc0 hc1 h2 h3]
        conv => whnf
        refine AWL.run E_ok Tryd.func82 2000 ?_
        conv => whnf
        refine AWL.loop (κ := Nat) [3, 4, 2, 24, 25, 26, 27, 28, 29, 30, 31, 32, 33, 34, 35, 36, 37, 38, 39, 40, 41, 42] (fun k => [(24, .d (.int .i64 k))]) (fun _ => []) (fun k => k ≤ t.length ∧ ∀ j c, j < k → t[j]? = some c → okc c = true) (fun k => t.length - k) 0 ⟨Nat.zero_le _, fun j c h => by omega⟩ ?_ ?_
        · conv => whnf
          repeat (first | exact trivial | (refine And.intro (by first | with_reducible rfl | exact congrArg (DV.int .i64) (by omega) | exact congrArg (DV.int .i64) (wrap64 (by omega) (by omega)) | exact congrArg (DV.int .i64) ((wrap64 (by omega) (by omega)).trans (by omega))) ?_; conv => whnf))
        · intro k hk IH
          have no : ∀ c, t[k]? = some c → okc c = false → t.all okc = false := fun c hc h => by
            rw [Bool.eq_false_iff]
            intro hall
            have := List.all_eq_true.1 hall c (List.mem_of_getElem? hc)
            rw [h] at this
            cases this
          refine AWL.head E_ok Tryd.func82 2000 ?_
          conv => whnf
          refine caseB_split (fun h4 => ?_) (fun h4 => ?_)
          · simp at h4
            obtain ⟨c, hc⟩ := some_of_lt h4
            have next : okc c = true → ∀ j c', j < k + 1 → t[j]? = some c' → okc c' = true := fun ho j c' hj hc' => by
              rcases Nat.lt_or_ge j k with h | h
              · exact hk.2 j c' h hc'
              · obtain rfl : j = k := by omega
                rw [hc] at hc'; cases hc'; exact ho
            conv => whnf
            refine AWL.run E_ok Tryd.func82 2000 ?_
            conv => whnf
            refine byteP_intro c (by omega) (by rw [Int.toNat_natCast]; exact hc) ?_
            conv => whnf
            refine AWL.run E_ok Tryd.func82 2000 ?_
            conv => whnf
            with_reducible refine callP_eq (withinb_p _ _ _) ?_
            conv => whnf
            refine AWL.run E_ok Tryd.func82 2000 ?_
            conv => whnf
            refine caseB_split (fun h5 => ?_) (fun h5 => ?_)
            · conv => whnf
              refine AWL.run E_ok Tryd.func82 2000 ?_
              conv => whnf
              with_reducible refine callP_eq (withinb_p _ _ _) ?_
              conv => whnf
              refine AWL.run E_ok Tryd.func82 2000 ?_
              conv => whnf
              refine caseB_split (fun h6 => ?_) (fun h6 => ?_)
              · conv => whnf
                refine AWL.run E_ok Tryd.func82 2000 ?_
                conv => whnf
                refine caseB_split (fun h7 => ?_) (fun h7 => ?_)
                · conv => whnf
                  refine AWL.run E_ok Tryd.func82 2000 ?_
                  conv => whnf
                  rw [no c hc (okF h5 h6 h7)]
                · conv => whnf
                  refine AWL.run E_ok Tryd.func82 2000 ?_
                  conv => whnf
                  refine AWL.back (IH (k + 1) ⟨by omega, next (okT3 h7)⟩ (by omega)) ?_
                  conv => whnf
                  repeat (first | exact trivial | (refine And.intro (by first | with_reducible rfl | exact congrArg (DV.int .i64) (by omega) | exact congrArg (DV.int .i64) (wrap64 (by omega) (by omega)) | exact congrArg (DV.int .i64) ((wrap64 (by omega) (by omega)).trans (by omega))) ?_; conv => whnf))
              · conv => whnf
                refine AWL.run E_ok Tryd.func82 2000 ?_
                conv => whnf
                refine caseB_false ?_
                conv => whnf
                refine AWL.run E_ok Tryd.func82 2000 ?_
                conv => whnf
                refine AWL.back (IH (k + 1) ⟨by omega, next (okT2 h6)⟩ (by omega)) ?_
                conv => whnf
                repeat (first | exact trivial | (refine And.intro (by first | with_reducible rfl | exact congrArg (DV.int .i64) (by omega) | exact congrArg (DV.int .i64) (wrap64 (by omega) (by omega)) | exact congrArg (DV.int .i64) ((wrap64 (by omega) (by omega)).trans (by omega))) ?_; conv => whnf))
            · conv => whnf
              refine AWL.run E_ok Tryd.func82 2000 ?_
              conv => whnf
              refine caseB_false ?_
              conv => whnf
              refine AWL.run E_ok Tryd.func82 2000 ?_
              conv => whnf
              refine caseB_false ?_
              conv => whnf
              refine AWL.run E_ok Tryd.func82 2000 ?_
              conv => whnf
              refine AWL.back (IH (k + 1) ⟨by omega, next (okT1 h5)⟩ (by omega)) ?_
              conv => whnf
              repeat (first | exact trivial | (refine And.intro (by first | with_reducible rfl | exact congrArg (DV.int .i64) (by omega) | exact congrArg (DV.int .i64) (wrap64 (by omega) (by omega)) | exact congrArg (DV.int .i64) ((wrap64 (by omega) (by omega)).trans (by omega))) ?_; conv => whnf))
          · simp at h4
            conv => whnf
            refine AWL.run E_ok Tryd.func82 2000 ?_
            conv => whnf
            have : t.all okc = true := by
              rw [List.all_eq_true]
              intro c hc
              obtain ⟨j, hj⟩ := List.getElem?_of_mem hc
              exact hk.2 j c (by have := lt_of_getElem? hj; omega) hj
            rw [this]

end Go.Proofs.YtklkmdoakhkikaaDoor.P
