/- The engine, part C: calls that hand over boxes. The boxes that the callee gets are numbered anew for it, the others are barred; behind the call they are put back. No conditions. -/
import Derived.Test.YtklkmdoakhkikaaDoorEngM
namespace Go.Eng
open Go Go.RowKit

/-- Where a number stands in a list. -/
def ixOf : List Nat → Nat → Option Nat
  | [], _ => none
  | a :: l, j => match Nat.beq a j with
    | true => some 0
    | false => (ixOf l j).map (· + 1)
theorem ixOf_some : ∀ {l : List Nat} {j i : Nat}, ixOf l j = some i → l[i]? = some j
  | a :: l, j, i, h => by
    simp only [ixOf] at h
    split at h
    · rename_i q; cases h; simp [Nat.eq_of_beq_eq_true q]
    · cases hx : ixOf l j with
      | none => rw [hx] at h; cases h
      | some k => rw [hx] at h; cases h; simpa using ixOf_some hx
theorem ixOf_of : ∀ {l : List Nat} {j i : Nat}, l.Nodup → l[i]? = some j → ixOf l j = some i
  | [], _, _, _, h => by simp at h
  | a :: l, j, 0, _, h => by simp at h; subst h; simp [ixOf]
  | a :: l, j, i + 1, hn, h => by
    have hl : l[i]? = some j := by simpa using h
    have hne : (Nat.beq a j) = false := by
      cases hb : Nat.beq a j with
      | false => rfl
      | true =>
        have := Nat.eq_of_beq_eq_true hb
        subst this
        exact absurd (List.mem_of_getElem? hl) (List.nodup_cons.1 hn).1
    simp only [ixOf, hne, ixOf_of (List.nodup_cons.1 hn).2 hl]
    rfl
theorem ixOf_none {l : List Nat} {j : Nat} (h : ixOf l j = none) (hn : l.Nodup) : j ∉ l := fun hm => by
  obtain ⟨i, hi, he⟩ := List.getElem_of_mem hm
  rw [ixOf_of hn (i := i) (by simp [hi, he])] at h
  cases h

/-- The generation of a box. -/
def genOf (h : List Box) (j : Nat) : Nat := match at? h j with
  | some (.arr g _ _) => g
  | _ => 0

section
variable (sel : List Nat) (h : List Box)

/-- A caller's reference, as the callee's. -/
def unA : AV → AV
  | .own j g => match ixOf sel j with
    | some i => match at? h j with
      | some (.arr g' _ _) => match Nat.beq g g' with
        | true => .own i 0
        | false => .any
      | _ => .any
    | none => .any
  | .ptr j off => match ixOf sel j with
    | some i => match at? h j with
      | some (.cells _) => .ptr i off
      | _ => .any
    | none => .any
  | .aptr j g k off => match ixOf sel j with
    | some i => match at? h j with
      | some (.arr g' _ _) => match Nat.beq g g' with
        | true => .aptr i 0 k off
        | false => .any
      | _ => .any
    | none => .any
  | .map j => match ixOf sel j with
    | some i => match at? h j with
      | some (.map _) => .map i
      | _ => .any
    | none => .any
  | .d x => .d x
  | .eptr e off => .eptr e off
  | _ => .any
def unV : AV → AV
  | .agg l => .agg (l.map (unA sel h))
  | .tup l => .tup (l.map (unA sel h))
  | .fn f a b => .fn f (a.map (unA sel h)) (b.map (unA sel h))
  | x => unA sel h x
def unB : Box → Box
  | .arr _ ts l => .arr 0 ts l
  | .cells cs => .cells (cs.map (unA sel h))
  | b => b
def unH : List Box := sel.map fun j => match at? h j with
  | some b => unB sel h b
  | none => .gone

/-- The number of a callee's box at the caller's. -/
def reI (i : Nat) : Nat := match at? sel i with
  | some j => j
  | none => h.length + (i - sel.length)
def reG (i : Nat) : Nat := match at? sel i with
  | some j => genOf h j
  | none => 0
/-- A callee's reference, as the caller's. -/
def reA : AV → AV
  | .own i g => .own (reI sel h i) (reG sel h i + g)
  | .ptr i off => .ptr (reI sel h i) off
  | .aptr i g k off => .aptr (reI sel h i) (reG sel h i + g) k off
  | .map i => .map (reI sel h i)
  | .d x => .d x
  | .eptr e off => .eptr e off
  | _ => .any
def reV1 : AV → AV
  | .agg l => .agg (l.map (reA sel h))
  | .tup l => .tup (l.map (reA sel h))
  | .fn f a b => .fn f (a.map (reA sel h)) (b.map (reA sel h))
  | x => reA sel h x
def reV : AV → AV
  | .tup l => .tup (l.map (reV1 sel h))
  | x => reV1 sel h x
def reB (g0 : Nat) : Box → Box
  | .arr g ts l => .arr (g0 + g) ts l
  | .cells cs => .cells (cs.map (reA sel h))
  | b => b
def reOld (h1 : List Box) : Nat → List Box → List Box
  | _, [] => []
  | j, b :: r => (match ixOf sel j with
    | some i => match at? h1 i with
      | some b1 => reB sel h (genOf h j) b1
      | none => .gone
    | none => b) :: reOld h1 (j + 1) r
def reH (h1 : List Box) : List Box := reOld sel h h1 0 h ++ (h1.drop sel.length).map (reB sel h 0)
end

section
variable {sel : List Nat} {h : List Box}

theorem reOld_len (h1 : List Box) : ∀ (j : Nat) (r : List Box), (reOld sel h h1 j r).length = r.length
  | _, [] => rfl
  | j, b :: r => by simp [reOld, reOld_len h1 (j + 1) r]
theorem reOld_get (h1 : List Box) : ∀ (j k : Nat) (r : List Box), (reOld sel h h1 j r)[k]? = (r[k]?).map fun b => match ixOf sel (j + k) with
    | some i => match at? h1 i with
      | some b1 => reB sel h (genOf h (j + k)) b1
      | none => .gone
    | none => b
  | _, _, [] => by simp [reOld]
  | j, 0, b :: r => by simp [reOld]
  | j, k + 1, b :: r => by
    simp only [reOld, List.getElem?_cons_succ]
    rw [reOld_get h1 (j + 1) k r, show j + 1 + k = j + (k + 1) by omega]
theorem reH_len (h1 : List Box) : (reH sel h h1).length = h.length + (h1.length - sel.length) := by simp [reH, reOld_len]
theorem reH_other {h1 : List Box} {j : Nat} (hj : j < h.length) (hn : ixOf sel j = none) : (reH sel h h1)[j]? = h[j]? := by
  rw [reH, List.getElem?_append_left (by rw [reOld_len]; exact hj), reOld_get, Nat.zero_add, hn]
  simp
theorem reH_sel {h1 : List Box} {i j : Nat} (hj : j < h.length) (hi : ixOf sel j = some i) {b : Box} (hb : h1[i]? = some b) : (reH sel h h1)[j]? = some (reB sel h (genOf h j) b) := by
  rw [reH, List.getElem?_append_left (by rw [reOld_len]; exact hj), reOld_get, Nat.zero_add, hi]
  simp [at?_eq, hb, hj]
theorem reH_new {h1 : List Box} {k : Nat} : (reH sel h h1)[h.length + k]? = (h1[sel.length + k]?).map (reB sel h 0) := by
  rw [reH, List.getElem?_append_right (by rw [reOld_len]; omega), reOld_len]
  simp

/-- What the callee sees. -/
def Cx.give (c : Cx) (sel : List Nat) : Cx := ⟨fun i => match sel[i]? with | some j => c.own j | none => none, unH sel c.heap, fun b => c.bar b ∨ ∃ j n, j ∉ sel ∧ c.own j = some (b, n), c.w⟩
/-- What the caller sees behind the call. -/
def Cx.take (c c1 : Cx) (sel : List Nat) : Cx := ⟨fun j => match ixOf sel j with | some i => c1.own i | none => if j < c.heap.length then c.own j else c1.own (sel.length + (j - c.heap.length)), reH sel c.heap c1.heap, c.bar, c1.w⟩

variable {c c1 : Cx} {G : List (Nat × DV)}

theorem give_bad (b : Nat) : (c.give sel).bad b ↔ c.bad b := by
  constructor
  · rintro ((hb | ⟨j, n, -, hj⟩) | ⟨i, n, hi⟩)
    · exact .inl hb
    · exact .inr ⟨j, n, hj⟩
    · simp only [Cx.give] at hi
      split at hi
      · exact .inr ⟨_, n, hi⟩
      · cases hi
  · rintro (hb | ⟨j, n, hj⟩)
    · exact .inl (.inl hb)
    · by_cases hm : j ∈ sel
      · obtain ⟨i, hi, he⟩ := List.getElem_of_mem hm
        refine .inr ⟨i, n, ?_⟩
        simp only [Cx.give]
        rw [show sel[i]? = some j by simp [hi, he]]
        exact hj
      · exact .inl (.inr ⟨j, n, hm, hj⟩)
theorem give_vd {x : DV} {v : Value} (hv : VD c.bad c.w x v) : VD (c.give sel).bad (c.give sel).w x v := hv.mono fun b _ hn => ⟨fun hb => hn ((give_bad b).1 hb), rfl⟩

theorem unH_get {i j : Nat} {b : Box} (hi : sel[i]? = some j) (hb : h[j]? = some b) : (unH sel h)[i]? = some (unB sel h b) := by
  simp [unH, hi, at?_eq, hb]
theorem give_own {i j : Nat} (hi : sel[i]? = some j) : (c.give sel).own i = c.own j := by simp only [Cx.give, hi]

theorem unA_vr {x : AV} {v : Value} (hv : VR c x v) : VR (c.give sel) (unA sel c.heap x) v := by
  unfold unA
  split
  · rename_i j g
    split
    · rename_i i hi
      have hi := ixOf_some hi
      rw [at?_eq]
      split
      · rename_i g' ts l hb
        split
        · rename_i q
          have q := Nat.eq_of_beq_eq_true q
          subst q
          have hb' := unH_get hi hb
          cases hv with
          | own _ _ _ l' blk cap k1 k2 => rw [hb] at k1; cases k1; exact .own i 0 ts l blk cap hb' ((give_own hi).trans k2)
          | ownnil _ _ _ k1 k2 => rw [hb] at k1; cases k1; exact .ownnil i 0 ts hb' ((give_own hi).trans k2)
          | ownold _ _ g2 _ _ _ k1 k2 _ => rw [hb] at k1; cases k1; omega
          | owngone _ _ _ k1 _ => rw [hb] at k1; cases k1
        · exact .any _
      · exact .any _
    · exact .any _
  · rename_i j off
    split
    · rename_i i hi
      have hi := ixOf_some hi
      rw [at?_eq]
      split
      · rename_i cs hb
        have hb' := unH_get hi hb
        cases hv with
        | ptr _ _ cs' blk cap k1 k2 => exact .ptr i off _ blk cap hb' ((give_own hi).trans k2)
        | ptrgone _ _ _ k1 _ => rw [hb] at k1; cases k1
      · exact .any _
    · exact .any _
  · rename_i j g k off
    split
    · rename_i i hi
      have hi := ixOf_some hi
      rw [at?_eq]
      split
      · rename_i g' ts l hb
        split
        · rename_i q
          have q := Nat.eq_of_beq_eq_true q
          subst q
          have hb' := unH_get hi hb
          cases hv with
          | aptr _ _ _ _ _ l' blk cap k1 k2 k3 => rw [hb] at k1; cases k1; exact .aptr i 0 k off ts l blk cap hb' ((give_own hi).trans k2) k3
          | aptrold _ _ g2 _ _ _ _ _ k1 k2 _ => rw [hb] at k1; cases k1; omega
          | aptrgone _ _ _ _ _ k1 _ => rw [hb] at k1; cases k1
        · exact .any _
      · exact .any _
    · exact .any _
  · rename_i j
    split
    · rename_i i hi
      have hi := ixOf_some hi
      rw [at?_eq]
      split
      · rename_i es hb
        have hb' := unH_get hi hb
        cases hv with
        | map _ es' blk cap k1 k2 => exact .map i _ blk cap hb' ((give_own hi).trans k2)
        | mapgone _ _ k1 _ => rw [hb] at k1; cases k1
      · exact .any _
    · exact .any _
  · cases hv with | d _ _ hx => exact .d _ _ (give_vd hx)
  · cases hv with
    | eptr _ _ blk o f k1 k2 k3 k4 => exact .eptr _ _ blk o f (fun hb => k1 ((give_bad _).1 hb)) k2 k3 (fun j x hx => give_vd (k4 j x hx))
  · exact .any _

theorem unA_vl {l : List AV} {vs : List Value} (hv : VL c l vs) : VL (c.give sel) (l.map (unA sel c.heap)) vs :=
  ⟨by simpa using hv.1, fun j x v hx hu => by
    rw [List.getElem?_map] at hx
    cases hy : l[j]? with
    | none => rw [hy] at hx; cases hx
    | some y => rw [hy] at hx; cases hx; exact unA_vr (hv.2 j y v hy hu)⟩

theorem vr_tup_inv {l : List AV} {v : Value} (h : VR c (.tup l) v) : ∃ vs : List Value, v = .tuple vs.toArray ∧ VL c l vs := by
  cases h with
  | tup _ vs hl hv => exact ⟨vs.toList, by simp, by simpa using hl, fun j x v hx hu => hv j x v hx (by simpa using hu)⟩
theorem vr_tup {l : List AV} {vs : List Value} (h : VL c l vs) : VR c (.tup l) (.tuple vs.toArray) :=
  .tup l vs.toArray (by simpa using h.1) (fun j x v hx hv => h.2 j x v hx (by simpa using hv))
theorem vr_fn_of {f : Fn} {a b : List AV} {v1 v2 : List Value} (h1 : VL c a v1) (h2 : VL c b v2) : VR c (.fn f a b) (.func f v1.toArray v2.toArray) :=
  .fn _ _ _ _ _ (by simpa using h1.1) (by simpa using h2.1) (fun j x v hx hv => h1.2 j x v hx (by simpa using hv)) (fun j x v hx hv => h2.2 j x v hx (by simpa using hv))

theorem unV_vr {x : AV} {v : Value} (hv : VR c x v) : VR (c.give sel) (unV sel c.heap x) v := by
  unfold unV
  split
  · obtain ⟨vs, rfl, h1⟩ := vr_agg_inv hv; exact vr_agg (unA_vl h1)
  · obtain ⟨vs, rfl, h1⟩ := vr_tup_inv hv; exact vr_tup (unA_vl h1)
  · obtain ⟨v1, v2, rfl, h1, h2⟩ := vr_fn hv; exact vr_fn_of (unA_vl h1) (unA_vl h2)
  · exact unA_vr hv
theorem unV_vl {l : List AV} {vs : List Value} (hv : VL c l vs) : VL (c.give sel) (l.map (unV sel c.heap)) vs :=
  ⟨by simpa using hv.1, fun j x v hx hu => by
    rw [List.getElem?_map] at hx
    cases hy : l[j]? with
    | none => rw [hy] at hx; cases hx
    | some y => rw [hy] at hx; cases hx; exact unV_vr (hv.2 j y v hy hu)⟩

theorem nodup_inj {l : List Nat} (hn : l.Nodup) {i j a : Nat} (hi : l[i]? = some a) (hj : l[j]? = some a) : i = j := by
  have h1 := ixOf_of hn hi
  have h2 := ixOf_of hn hj
  rw [h1] at h2
  cases h2; rfl

theorem HOk.give (ho : HOk G c) (hn : sel.Nodup) : HOk G (c.give sel) where
  barlt := fun b hb => hb.elim (ho.barlt b) fun ⟨j, n, _, hj⟩ => (ho.ownlt j b n hj).1
  ownlt := fun i b n hi => by
    simp only [Cx.give] at hi
    split at hi
    · rename_i j hj
      exact ⟨(ho.ownlt j b n hi).1, by show i < (unH sel c.heap).length; simp only [unH, List.length_map]; exact lt_of_getElem? hj⟩
    · cases hi
  inj := fun i j b n m hi hj => by
    simp only [Cx.give] at hi hj
    split at hi
    · rename_i a ha
      split at hj
      · rename_i a' ha'
        have := ho.inj a a' b n m hi hj
        subst this
        exact nodup_inj hn ha ha'
      · cases hj
    · cases hi
  sep := fun i b n hi hb => by
    simp only [Cx.give] at hi
    split at hi
    · rename_i a ha
      rcases hb with hb | ⟨j, m, hj, hb⟩
      · exact ho.sep a b n hi hb
      · have := ho.inj a j b n m hi hb
        subst this
        exact hj (List.mem_of_getElem? ha)
    · cases hi
  box := fun i bx hi => by
    have hi' : (unH sel c.heap)[i]? = some bx := hi
    simp only [unH, List.getElem?_map] at hi'
    cases hs : sel[i]? with
    | none => rw [hs] at hi'; cases hi'
    | some j =>
      rw [hs] at hi'
      simp only [Option.map_some, Option.some.injEq, at?_eq] at hi'
      have hown := give_own (c := c) hs
      cases hb : c.heap[j]? with
      | none =>
        rw [hb] at hi'
        subst hi'
        show (c.give sel).own i = none
        rw [hown]
        cases hx : c.own j with
        | none => rfl
        | some p => have := (ho.ownlt j p.1 p.2 hx).2; rw [List.getElem?_eq_none_iff] at hb; omega
      | some b =>
        rw [hb] at hi'
        subst hi'
        have hbox := ho.box j b hb
        cases b with
        | cells cs =>
          obtain ⟨blk, cap, vs, ty, k1, k2, k3⟩ := ho.cells hb
          have := unA_vl (sel := sel) k3
          exact ⟨blk, cap, vs, ty, hown.trans k1, k2, by simpa using this.1.symm, fun j x v hx hv => this.2 j x v hx (by simpa using hv)⟩
        | arr g ts l =>
          obtain ⟨q0, q1, q2⟩ := hbox
          refine ⟨q0, q1, ?_⟩
          rcases q2 with ⟨q2, q3⟩ | ⟨blk, cap, vs, q2, q3, q4, q5, q6, q7⟩
          · exact .inl ⟨hown.trans q2, q3⟩
          · refine .inr ⟨blk, cap, vs, hown.trans q2, q3, q4, q5, q6, fun i j e x he hx => ?_⟩
            obtain ⟨v, r1, r2, r3⟩ := q7 i j e x he hx
            exact ⟨v, r1, r2, give_vd r3⟩
        | map es =>
          obtain ⟨blk, cap, en, ck, k1, k2, k3, k4⟩ := hbox
          exact ⟨blk, cap, en, ck, hown.trans k1, k2, k3, fun j k x m hx hm => ⟨give_vd (k4 j k x m hx hm).1, give_vd (k4 j k x m hx hm).2⟩⟩
        | gone => exact hown.trans hbox
  glob := fun g e hg => by
    have := unA_vr (sel := sel) (ho.glob g e hg)
    exact this

theorem unH_fresh : Fresh (unH sel h) := fun i g ts l hi => by
  simp only [unH, List.getElem?_map] at hi
  cases hs : sel[i]? with
  | none => rw [hs] at hi; cases hi
  | some j =>
    rw [hs] at hi
    simp only [Option.map_some, Option.some.injEq] at hi
    split at hi
    · rename_i b _
      cases b <;> simp [unB] at hi
      exact hi.1.symm
    · cases hi

/-- All is put back. -/
structure Back (c c1 : Cx) (sel : List Nat) : Prop where
  nodup : sel.Nodup
  lt : ∀ j ∈ sel, j < c.heap.length
  rel : Rel (c.give sel) c1

theorem take_own_sel {i j : Nat} (hn : sel.Nodup) (hi : sel[i]? = some j) : (c.take c1 sel).own j = c1.own i := by
  simp only [Cx.take, ixOf_of hn hi]
theorem take_own_new {k : Nat} (hlt : ∀ j ∈ sel, j < c.heap.length) : (c.take c1 sel).own (c.heap.length + k) = c1.own (sel.length + k) := by
  have : ixOf sel (c.heap.length + k) = none := by
    cases hx : ixOf sel (c.heap.length + k) with
    | none => rfl
    | some i => have := hlt _ (List.mem_of_getElem? (ixOf_some hx)); omega
  simp only [Cx.take, this]
  rw [if_neg (by omega), Nat.add_sub_cancel_left]
theorem take_own_other {j : Nat} (hj : j < c.heap.length) (hn : ixOf sel j = none) : (c.take c1 sel).own j = c.own j := by
  simp only [Cx.take, hn, if_pos hj]

theorem reI_own (hn : sel.Nodup) (hlt : ∀ j ∈ sel, j < c.heap.length) (i : Nat) : (c.take c1 sel).own (reI sel c.heap i) = c1.own i := by
  unfold reI
  rw [at?_eq]
  split
  · rename_i j hj; exact take_own_sel hn hj
  · rename_i hj
    rw [List.getElem?_eq_none_iff] at hj
    rw [take_own_new hlt, show sel.length + (i - sel.length) = i by omega]
theorem reI_heap (hn : sel.Nodup) (hlt : ∀ j ∈ sel, j < c.heap.length) {i : Nat} {b : Box} (hb : c1.heap[i]? = some b) : (c.take c1 sel).heap[reI sel c.heap i]? = some (reB sel c.heap (reG sel c.heap i) b) := by
  unfold reI reG
  rw [at?_eq]
  show (reH sel c.heap c1.heap)[_]? = _
  split
  · rename_i j hj; exact reH_sel (hlt j (List.mem_of_getElem? hj)) (ixOf_of hn hj) hb
  · rename_i hj
    rw [List.getElem?_eq_none_iff] at hj
    rw [reH_new, show sel.length + (i - sel.length) = i by omega, hb]
    rfl

theorem take_bad (ho : HOk G c) (hb : Back c c1 sel) (b : Nat) : (c.take c1 sel).bad b ↔ c1.bad b := by
  obtain ⟨hn, hlt, hr⟩ := hb
  constructor
  · rintro (h | ⟨j, n, h⟩)
    · refine .inl ?_; rw [hr.bar]; exact .inl h
    · simp only [Cx.take] at h
      split at h
      · exact .inr ⟨_, n, h⟩
      · rename_i hx
        split at h
        · refine .inl ?_; rw [hr.bar]; exact .inr ⟨j, n, ixOf_none hx hn, h⟩
        · exact .inr ⟨_, n, h⟩
  · rintro (h | ⟨i, n, h⟩)
    · rw [hr.bar] at h
      rcases h with h | ⟨j, n, hj, h⟩
      · exact .inl h
      · refine .inr ⟨j, n, ?_⟩
        have hx : ixOf sel j = none := by
          cases hx : ixOf sel j with
          | none => rfl
          | some i => exact absurd (List.mem_of_getElem? (ixOf_some hx)) hj
        rw [take_own_other (ho.ownlt j b n h).2 hx]
        exact h
    · exact .inr ⟨_, n, (reI_own hn hlt i).trans h⟩
theorem take_vd (ho : HOk G c) (hb : Back c c1 sel) {x : DV} {v : Value} (hv : VD c1.bad c1.w x v) : VD (c.take c1 sel).bad (c.take c1 sel).w x v :=
  hv.mono fun b _ hn => ⟨fun h => hn ((take_bad ho hb b).1 h), rfl⟩

theorem reA_vr (ho : HOk G c) (hb : Back c c1 sel) {x : AV} {v : Value} (hv : VR c1 x v) : VR (c.take c1 sel) (reA sel c.heap x) v := by
  have hn := hb.nodup
  have hlt := hb.lt
  unfold reA
  split
  · rename_i i g
    cases hv with
    | own _ _ ts l blk cap k1 k2 => exact .own _ _ ts l blk cap (reI_heap hn hlt k1) ((reI_own hn hlt i).trans k2)
    | ownnil _ _ ts k1 k2 => exact .ownnil _ _ ts (reI_heap hn hlt k1) ((reI_own hn hlt i).trans k2)
    | ownold _ _ g2 ts l _ k1 k2 k3 => exact .ownold _ _ _ ts l _ (reI_heap hn hlt k1) (by omega) k3
    | owngone _ _ _ k1 k3 => exact .owngone _ _ _ (reI_heap hn hlt k1) k3
  · rename_i i off
    cases hv with
    | ptr _ _ cs blk cap k1 k2 => exact .ptr _ _ _ blk cap (reI_heap hn hlt k1) ((reI_own hn hlt i).trans k2)
    | ptrgone _ _ _ k1 k3 => exact .ptrgone _ _ _ (reI_heap hn hlt k1) k3
  · rename_i i g k off
    cases hv with
    | aptr _ _ _ _ ts l blk cap k1 k2 k3 => exact .aptr _ _ _ _ ts l blk cap (reI_heap hn hlt k1) ((reI_own hn hlt i).trans k2) k3
    | aptrold _ _ g2 _ _ ts l _ k1 k2 k3 => exact .aptrold _ _ _ _ _ ts l _ (reI_heap hn hlt k1) (by omega) k3
    | aptrgone _ _ _ _ _ k1 k3 => exact .aptrgone _ _ _ _ _ (reI_heap hn hlt k1) k3
  · rename_i i
    cases hv with
    | map _ es blk cap k1 k2 => exact .map _ es blk cap (reI_heap hn hlt k1) ((reI_own hn hlt i).trans k2)
    | mapgone _ _ k1 k3 => exact .mapgone _ _ (reI_heap hn hlt k1) k3
  · cases hv with | d _ _ hx => exact .d _ _ (take_vd ho hb hx)
  · cases hv with
    | eptr _ _ blk o f k1 k2 k3 k4 => exact .eptr _ _ blk o f (fun h => k1 ((take_bad ho hb _).1 h)) k2 k3 (fun j x hx => take_vd ho hb (k4 j x hx))
  · exact .any _

theorem map_vl {c c' : Cx} {f : AV → AV} (hf : ∀ {x : AV} {v : Value}, VR c x v → VR c' (f x) v) {l : List AV} {vs : List Value} (hv : VL c l vs) : VL c' (l.map f) vs :=
  ⟨by simpa using hv.1, fun j x v hx hu => by
    rw [List.getElem?_map] at hx
    cases hy : l[j]? with
    | none => rw [hy] at hx; cases hx
    | some y => rw [hy] at hx; cases hx; exact hf (hv.2 j y v hy hu)⟩

theorem reV1_vr (ho : HOk G c) (hb : Back c c1 sel) {x : AV} {v : Value} (hv : VR c1 x v) : VR (c.take c1 sel) (reV1 sel c.heap x) v := by
  have hA : ∀ {x : AV} {v : Value}, VR c1 x v → VR (c.take c1 sel) (reA sel c.heap x) v := fun h => reA_vr ho hb h
  unfold reV1
  split
  · obtain ⟨vs, rfl, h1⟩ := vr_agg_inv hv; exact vr_agg (map_vl hA h1)
  · obtain ⟨vs, rfl, h1⟩ := vr_tup_inv hv; exact vr_tup (map_vl hA h1)
  · obtain ⟨v1, v2, rfl, h1, h2⟩ := vr_fn hv; exact vr_fn_of (map_vl hA h1) (map_vl hA h2)
  · exact hA hv
theorem reV_vr (ho : HOk G c) (hb : Back c c1 sel) {x : AV} {v : Value} (hv : VR c1 x v) : VR (c.take c1 sel) (reV sel c.heap x) v := by
  unfold reV
  split
  · obtain ⟨vs, rfl, h1⟩ := vr_tup_inv hv; exact vr_tup (map_vl (fun h => reV1_vr ho hb h) h1)
  · exact reV1_vr ho hb hv

theorem BoxOk.take (ho : HOk G c) (hb : Back c c1 sel) {i g : Nat} {b : Box} (hbox : BoxOk c1 i b) : BoxOk (c.take c1 sel) (reI sel c.heap i) (reB sel c.heap g b) := by
  have hown := reI_own (c1 := c1) hb.nodup hb.lt i
  cases b with
  | cells cs =>
    obtain ⟨blk, cap, vs, ty, k1, k2, k3, k4⟩ := hbox
    have : VL (c.take c1 sel) (cs.map (reA sel c.heap)) vs.toList := map_vl (fun h => reA_vr ho hb h) ⟨by simpa using k3.symm, fun j x v hx hv => k4 j x v hx (by simpa using hv)⟩
    exact ⟨blk, cap, vs, ty, hown.trans k1, k2, by simpa using this.1.symm, fun j x v hx hv => this.2 j x v hx (by simpa using hv)⟩
  | arr g ts l =>
    obtain ⟨q0, q1, q2⟩ := hbox
    refine ⟨q0, q1, ?_⟩
    rcases q2 with ⟨q2, q3⟩ | ⟨blk, cap, vs, q2, q3, q4, q5, q6, q7⟩
    · exact .inl ⟨hown.trans q2, q3⟩
    · refine .inr ⟨blk, cap, vs, hown.trans q2, q3, q4, q5, q6, fun i j e x he hx => ?_⟩
      obtain ⟨v, r1, r2, r3⟩ := q7 i j e x he hx
      exact ⟨v, r1, r2, take_vd ho hb r3⟩
  | map es =>
    obtain ⟨blk, cap, en, ck, k1, k2, k3, k4⟩ := hbox
    exact ⟨blk, cap, en, ck, hown.trans k1, k2, k3, fun j k x m hx hm => ⟨take_vd ho hb (k4 j k x m hx hm).1, take_vd ho hb (k4 j k x m hx hm).2⟩⟩
  | gone => exact hown.trans hbox

theorem take_step (ho : HOk G c) (hb : Back c c1 sel) : Step c (c.take c1 sel) where
  bar := rfl
  barlt := ho.barlt
  os := hb.rel.os
  tape := hb.rel.tape
  output := hb.rel.output
  size := hb.rel.size
  keep := fun b hlt hn => hb.rel.keep b hlt (fun i n hi => by
    simp only [Cx.give] at hi
    split at hi
    · exact hn _ n hi
    · cases hi)
  newown := fun j b n hj hlt => by
    have key : ∀ i, c1.own i = some (b, n) → ∃ j m, c.own j = some (b, m) := fun i hi => by
      obtain ⟨k, m, hk⟩ := hb.rel.newown i b n hi hlt
      simp only [Cx.give] at hk
      split at hk
      · exact ⟨_, m, hk⟩
      · cases hk
    simp only [Cx.take] at hj
    split at hj
    · exact key _ hj
    · split at hj
      · exact ⟨j, n, hj⟩
      · exact key _ hj
  boxes := fun j bx hj => by
    cases hx : ixOf sel j with
    | none =>
      have hlt := lt_of_getElem? hj
      have h' : (c.take c1 sel).heap[j]? = some bx := (reH_other hlt hx).trans hj
      have ho' := take_own_other (c1 := c1) hlt hx
      cases bx with
      | cells cs => exact .inl ⟨cs, h', ho', rfl⟩
      | arr g sz l => exact .inl ⟨g, l, h', .inr ⟨rfl, rfl, ho'⟩⟩
      | map es => exact .inl ⟨es, h', ho'⟩
      | gone => exact h'
    | some i =>
      have hi := ixOf_some hx
      have hlt := lt_of_getElem? hj
      have hg : (c.give sel).heap[i]? = some (unB sel c.heap bx) := unH_get hi hj
      have h1 := hb.rel.boxes i _ hg
      have ho' := take_own_sel (c := c) (c1 := c1) hb.nodup hi
      have hgo := give_own (c := c) hi
      have hgone : c1.heap[i]? = some .gone → (c.take c1 sel).heap[j]? = some .gone := fun h => reH_sel hlt hx h
      cases bx with
      | cells cs =>
        rcases h1 with ⟨cs', h1, h2, h3⟩ | h1
        · exact .inl ⟨_, reH_sel hlt hx h1, ho'.trans (h2.trans hgo), by simpa [unB] using h3⟩
        · exact .inr (hgone h1)
      | arr g ts l =>
        rcases h1 with ⟨g', l', h1, h2⟩ | h1
        · have hge : genOf c.heap j = g := by simp only [genOf, at?_eq, hj]
          have h3 := reH_sel (h := c.heap) hlt hx h1
          simp only [reB, hge] at h3
          refine .inl ⟨g + g', l', h3, ?_⟩
          rcases h2 with h2 | ⟨h2, h4, h5⟩
          · left; omega
          · exact .inr ⟨by omega, h4, ho'.trans (h5.trans hgo)⟩
        · exact .inr (hgone h1)
      | map es =>
        rcases h1 with ⟨es', h1, h2⟩ | h1
        · exact .inl ⟨es', reH_sel hlt hx h1, ho'.trans (h2.trans hgo)⟩
        · exact .inr (hgone h1)
      | gone => exact hgone h1

theorem HOk.take (ho : HOk G c) (ho1 : HOk G c1) (hb : Back c c1 sel) : HOk G (c.take c1 sel) := by
  have hst := take_step ho hb
  have hn := hb.nodup
  have hlt := hb.lt
  have own_cases : ∀ j b n, (c.take c1 sel).own j = some (b, n) → (∃ i, j = reI sel c.heap i ∧ c1.own i = some (b, n)) ∨ (j < c.heap.length ∧ ixOf sel j = none ∧ c.own j = some (b, n)) := by
    intro j b n hj
    simp only [Cx.take] at hj
    split at hj
    · rename_i i hi
      exact .inl ⟨i, by simp only [reI, at?_eq, ixOf_some hi], hj⟩
    · rename_i hx
      split at hj
      · rename_i hl; exact .inr ⟨hl, hx, hj⟩
      · rename_i hl
        refine .inl ⟨_, ?_, hj⟩
        have : sel[sel.length + (j - c.heap.length)]? = none := List.getElem?_eq_none (by omega)
        simp only [reI, at?_eq, this]
        omega
  have reI_inj : ∀ i i', i < c1.heap.length → i' < c1.heap.length → reI sel c.heap i = reI sel c.heap i' → i = i' := by
    intro i i' _ _ he
    simp only [reI, at?_eq] at he
    split at he
    · rename_i j hj
      split at he
      · rename_i j' hj'; subst he; exact nodup_inj hn hj hj'
      · have := hlt j (List.mem_of_getElem? hj); omega
    · rename_i hj
      split at he
      · rename_i j' hj'; have := hlt j' (List.mem_of_getElem? hj'); omega
      · rename_i hj'
        rw [List.getElem?_eq_none_iff] at hj hj'
        omega
  refine ho.next hst (fun j b n hj => ?_) (fun j j' b n m hj hj' => ?_) (fun j bx hj => ?_)
  · rcases own_cases j b n hj with ⟨i, rfl, hi⟩ | ⟨hl, hx, hj'⟩
    · obtain ⟨h1, h2⟩ := ho1.ownlt i b n hi
      refine ⟨h1, ?_⟩
      have : (c.take c1 sel).heap[reI sel c.heap i]? = some _ := reI_heap hn hlt (List.getElem?_eq_getElem h2)
      exact lt_of_getElem? this
    · exact ⟨Nat.lt_of_lt_of_le (ho.ownlt j b n hj').1 hb.rel.size, by show j < (reH sel c.heap c1.heap).length; rw [reH_len]; omega⟩
  · have cross : ∀ j i n m, ixOf sel j = none → c.own j = some (b, n) → c1.own i = some (b, m) → False := fun j i n m hx hj hi => by
      refine ho1.sep i b m hi ?_
      rw [hb.rel.bar]
      exact .inr ⟨j, n, ixOf_none hx hn, hj⟩
    rcases own_cases j b n hj with ⟨i, rfl, hi⟩ | ⟨hl, hx, hj1⟩
    · rcases own_cases j' b m hj' with ⟨i', rfl, hi'⟩ | ⟨hl', hx', hj1'⟩
      · rw [ho1.inj i i' b n m hi hi']
      · exact (cross j' i m n hx' hj1' hi).elim
    · rcases own_cases j' b m hj' with ⟨i', rfl, hi'⟩ | ⟨hl', hx', hj1'⟩
      · exact (cross j i' n m hx hj1 hi').elim
      · exact ho.inj j j' b n m hj1 hj1'
  · by_cases hl : j < c.heap.length
    · cases hx : ixOf sel j with
      | none =>
        left
        have hj' : (reH sel c.heap c1.heap)[j]? = some bx := hj
        rw [reH_other hl hx] at hj'
        refine ⟨hj', take_own_other hl hx, fun b n hb' => hb.rel.keep b (ho.ownlt j b n hb').1 (fun i m hi => ?_)⟩
        simp only [Cx.give] at hi
        split at hi
        · rename_i a ha
          have := ho.inj j a b n m hb' hi
          subst this
          rw [ixOf_of hn ha] at hx
          cases hx
        · cases hi
      | some i =>
        right
        have hi := ixOf_some hx
        have hj' : (reH sel c.heap c1.heap)[j]? = some bx := hj
        have hi0 : (c.give sel).heap[i]? = some (unB sel c.heap c.heap[j]) := unH_get hi (List.getElem?_eq_getElem hl)
        have hrb := hb.rel.boxes i _ hi0
        obtain ⟨b1, hb1⟩ : ∃ b1, c1.heap[i]? = some b1 := by
          generalize unB sel c.heap c.heap[j] = bb at hrb
          cases bb with
          | cells cs => rcases hrb with ⟨_, h, _⟩ | h <;> exact ⟨_, h⟩
          | arr g ts l => rcases hrb with ⟨_, _, h, _⟩ | h <;> exact ⟨_, h⟩
          | map es => rcases hrb with ⟨_, h, _⟩ | h <;> exact ⟨_, h⟩
          | gone => exact ⟨_, hrb⟩
        rw [reH_sel hl hx hb1] at hj'
        cases hj'
        have := (ho1.box i b1 hb1).take (g := genOf c.heap j) ho hb
        have hre : reI sel c.heap i = j := by simp only [reI, at?_eq, hi]
        rw [hre] at this
        exact this
    · right
      have hj' : (reH sel c.heap c1.heap)[j]? = some bx := hj
      rw [show j = c.heap.length + (j - c.heap.length) by omega, reH_new] at hj'
      cases hb1 : c1.heap[sel.length + (j - c.heap.length)]? with
      | none => rw [hb1] at hj'; cases hj'
      | some b1 =>
        rw [hb1] at hj'
        cases hj'
        have := (ho1.box _ b1 hb1).take (g := 0) ho hb
        have hre : reI sel c.heap (sel.length + (j - c.heap.length)) = j := by
          have : sel[sel.length + (j - c.heap.length)]? = none := List.getElem?_eq_none (by omega)
          simp only [reI, at?_eq, this]
          omega
        rw [hre] at this
        exact this

/-- A call that hands over boxes. -/
theorem ACalls.at {E : Env} {f : FuncId} {args : List AV} {Q : AV → List Box → Prop} (H : ACalls E f (unH sel h) (args.map (unV sel h)) Q) (hn : sel.Nodup) (hlt : ∀ j ∈ sel, j < h.length) (hh : c.heap = h) (ho : HOk E.G c) {vs : List Value} (hv : VL c args vs) :
    Calls E.P f vs.toArray c.w fun e w' => ∃ (c' : Cx) (r : AV) (h1 : List Box) (v : Value), e = .returned v ∧ c'.w = w' ∧ Q r h1 ∧ c'.heap = reH sel h h1 ∧ VR c' (reV sel h r) v ∧ HOk E.G c' ∧ Step c c' := by
  subst hh
  unfold ACalls at H
  refine (H.2.2 (c.give sel) vs rfl (ho.give hn) (unV_vl hv)).mono fun e w' ⟨c1, r, v, k1, k2, k3, k4, k5, k6⟩ => ?_
  have hb : Back c c1 sel := ⟨hn, hlt, k6⟩
  exact ⟨c.take c1 sel, r, c1.heap, v, k1, k2, k3, rfl, reV_vr ho hb k4, ho.take k5 hb, take_step ho hb⟩

end
end Go.Eng
