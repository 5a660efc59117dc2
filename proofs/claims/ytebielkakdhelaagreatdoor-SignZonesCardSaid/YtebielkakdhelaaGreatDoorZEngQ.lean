/- The engine, part Q: regions that draw their order, in which operations that change boxes, in a fixed order, stand beside operations that read none of these boxes. No conditions. -/
import Derived.Test.YtebielkakdhelaaGreatDoorZM4
set_option linter.unusedVariables false
set_option linter.unusedSimpArgs false
namespace Go.Eng
open Go Go.RowKit

/-- A box that is hidden: of the list, or new. -/
def hidB (n : Nat) (B : List Nat) (i : Nat) : Bool := match Nat.ble n i with
  | true => true
  | false => memB i B
def hideH (n : Nat) (B : List Nat) : Nat → List Box → List Box
  | _, [] => []
  | i, b :: r => match Nat.ble n i with
    | true => []
    | false => (match memB i B with | true => .gone | false => b) :: hideH n B (i + 1) r
theorem hideH_get {n : Nat} {B : List Nat} : ∀ (i k : Nat) (h : List Box), hidB n B (i + k) = false → (hideH n B i h)[k]? = h[k]?
  | _, _, [], _ => rfl
  | i, 0, b :: r, hh => by
    simp only [hidB, Nat.add_zero] at hh
    split at hh
    · cases hh
    · rename_i q; simp only [hideH, q, hh]; rfl
  | i, k + 1, b :: r, hh => by
    have hn : Nat.ble n i = false := by
      cases q : Nat.ble n i with
      | false => rfl
      | true =>
        have h1 := Nat.le_of_ble_eq_true q
        have h2 : Nat.ble n (i + (k + 1)) = true := Nat.ble_eq_true_of_le (by omega)
        simp only [hidB, h2] at hh
        cases hh
    simp only [hideH, hn, List.getElem?_cons_succ]
    exact hideH_get (i + 1) k r (by rwa [show i + 1 + k = i + (k + 1) by omega])
theorem hideH_hid {n : Nat} {B : List Nat} : ∀ (i k : Nat) (h : List Box) (b : Box), hidB n B (i + k) = true → (hideH n B i h)[k]? = some b → b = .gone
  | _, _, [], _, _, h => by simp [hideH] at h
  | i, k, b' :: r, b, hh, h => by
    simp only [hideH] at h
    split at h
    · simp at h
    · rename_i q
      cases k with
      | zero =>
        simp only [hidB, Nat.add_zero, q] at hh
        simp only [hh, List.getElem?_cons_zero, Option.some.injEq] at h
        exact h.symm
      | succ k => exact hideH_hid (i + 1) k r b (by rwa [show i + 1 + k = i + (k + 1) by omega]) (by simpa using h)

/-- A value that refers to no hidden box. -/
def free1B (n : Nat) (B : List Nat) : AV → Bool
  | .any => true
  | .d _ => true
  | .eptr _ _ => true
  | .own b _ => match hidB n B b with | true => false | false => true
  | .ptr b _ => match hidB n B b with | true => false | false => true
  | .aptr b _ _ _ => match hidB n B b with | true => false | false => true
  | .map b => match hidB n B b with | true => false | false => true
  | _ => false
def allB {β : Type} (f : β → Bool) : List β → Bool
  | [] => true
  | a :: l => match f a with
    | true => allB f l
    | false => false
theorem allB_spec {β : Type} {f : β → Bool} : ∀ {l : List β}, allB f l = true → ∀ (j : Nat) (x : β), l[j]? = some x → f x = true
  | [], _, _, _, h => by simp at h
  | a :: l, H, j, x, h => by
    unfold allB at H
    split at H
    · rename_i q
      cases j with
      | zero => simp at h; subst h; exact q
      | succ j => exact allB_spec H j x (by simpa using h)
    · cases H
def freeB (n : Nat) (B : List Nat) : AV → Bool
  | .agg l => allB (free1B n B) l
  | .tup l => allB (free1B n B) l
  | .fn _ a b => match allB (free1B n B) a with
    | true => allB (free1B n B) b
    | false => false
  | x => free1B n B x
def freeBoxB (n : Nat) (B : List Nat) : Box → Bool
  | .cells cs => allB (freeB n B) cs
  | _ => true

section
variable {G : List (Nat × DV)} {c c' : Cx} {n : Nat} {B : List Nat}

theorem free1_vr (hk : ∀ b, b < c.w.heap.size → ¬ c.bad b → ¬ c'.bad b ∧ c'.w.heap[b]? = c.w.heap[b]?) (hb : ∀ i bx, hidB n B i = false → c.heap[i]? = some bx → c'.heap[i]? = some bx ∧ c'.own i = c.own i)
    {x : AV} {v : Value} (hf : free1B n B x = true) (hv : VR c x v) : VR c' x v := by
  cases hv with
  | any v => exact .any v
  | d x v hx => exact .d x v (hx.mono hk)
  | own b g sz l blk cap h1 h2 =>
    have hh : hidB n B b = false := by simp only [free1B] at hf; split at hf <;> first | assumption | cases hf
    obtain ⟨k1, k2⟩ := hb _ _ hh h1
    exact .own b g sz l blk cap k1 (k2.trans h2)
  | ownnil b g sz h1 h2 =>
    have hh : hidB n B b = false := by simp only [free1B] at hf; split at hf <;> first | assumption | cases hf
    obtain ⟨k1, k2⟩ := hb _ _ hh h1
    exact .ownnil b g sz k1 (k2.trans h2)
  | ownold b g g1 sz l v h1 h2 h3 =>
    have hh : hidB n B b = false := by simp only [free1B] at hf; split at hf <;> first | assumption | cases hf
    obtain ⟨k1, k2⟩ := hb _ _ hh h1
    exact .ownold b g g1 sz l _ k1 h2 h3
  | owngone b g v h1 h2 =>
    have hh : hidB n B b = false := by simp only [free1B] at hf; split at hf <;> first | assumption | cases hf
    exact .owngone b g _ (hb _ _ hh h1).1 h2
  | ptr b off cs blk cap h1 h2 =>
    have hh : hidB n B b = false := by simp only [free1B] at hf; split at hf <;> first | assumption | cases hf
    obtain ⟨k1, k2⟩ := hb _ _ hh h1
    exact .ptr b off cs blk cap k1 (k2.trans h2)
  | ptrgone b off v h1 h2 =>
    have hh : hidB n B b = false := by simp only [free1B] at hf; split at hf <;> first | assumption | cases hf
    exact .ptrgone b off _ (hb _ _ hh h1).1 h2
  | aptr b g i off sz l blk cap h1 h2 h3 =>
    have hh : hidB n B b = false := by simp only [free1B] at hf; split at hf <;> first | assumption | cases hf
    obtain ⟨k1, k2⟩ := hb _ _ hh h1
    exact .aptr b g i off sz l blk cap k1 (k2.trans h2) h3
  | aptrold b g g1 i off sz l v h1 h2 h3 =>
    have hh : hidB n B b = false := by simp only [free1B] at hf; split at hf <;> first | assumption | cases hf
    exact .aptrold b g g1 i off sz l _ (hb _ _ hh h1).1 h2 h3
  | aptrgone b g i off v h1 h2 =>
    have hh : hidB n B b = false := by simp only [free1B] at hf; split at hf <;> first | assumption | cases hf
    exact .aptrgone b g i off _ (hb _ _ hh h1).1 h2
  | eptr e off blk o f h1 h2 h3 h4 =>
    have hlt : blk < c.w.heap.size := by
      obtain ⟨x, r, hx⟩ := List.exists_cons_of_ne_nil h2
      exact World.block_lt_of_cell? _ _ (h3 0 x (by rw [hx]; rfl))
    have hk := hk
    have hkb := hk blk hlt h1
    exact .eptr e off blk o f hkb.1 h2 (fun j x hx => by rw [World.cell?_of_block hkb.2]; exact h3 j x hx) (fun j x hx => (h4 j x hx).mono hk)
  | map b es blk cap h1 h2 =>
    have hh : hidB n B b = false := by simp only [free1B] at hf; split at hf <;> first | assumption | cases hf
    obtain ⟨k1, k2⟩ := hb _ _ hh h1
    exact .map b es blk cap k1 (k2.trans h2)
  | mapgone b v h1 h2 =>
    have hh : hidB n B b = false := by simp only [free1B] at hf; split at hf <;> first | assumption | cases hf
    exact .mapgone b _ (hb _ _ hh h1).1 h2
  | agg a vs h1 h2 => simp [free1B] at hf
  | tup a vs h1 h2 => simp [free1B] at hf
  | fn f a1 a2 v1 v2 h1 h2 h3 h4 => simp [free1B] at hf

theorem free_vr (hk : ∀ b, b < c.w.heap.size → ¬ c.bad b → ¬ c'.bad b ∧ c'.w.heap[b]? = c.w.heap[b]?) (hb : ∀ i bx, hidB n B i = false → c.heap[i]? = some bx → c'.heap[i]? = some bx ∧ c'.own i = c.own i)
    {x : AV} {v : Value} (hf : freeB n B x = true) (hv : VR c x v) : VR c' x v := by
  have one : ∀ {l : List AV}, allB (free1B n B) l = true → ∀ (vs : List Value), VL c l vs → VL c' l vs := fun hl vs h => ⟨h.1, fun j x v hx hv => free1_vr hk hb (allB_spec hl j x hx) (h.2 j x v hx hv)⟩
  unfold freeB at hf
  split at hf
  · obtain ⟨vs, rfl, h1⟩ := vr_agg_inv hv; exact vr_agg (one hf _ h1)
  · obtain ⟨vs, rfl, h1⟩ := vr_tup_inv hv; exact vr_tup (one hf _ h1)
  · split at hf
    · rename_i q
      obtain ⟨v1, v2, rfl, h1, h2⟩ := vr_fn hv
      exact vr_fn_of (one q _ h1) (one hf _ h2)
    · cases hf
  · exact free1_vr hk hb hf hv

/-- The context without the hidden boxes: their blocks are barred. -/
def Cx.hide (c : Cx) (n : Nat) (B : List Nat) : Cx := ⟨fun i => match hidB n B i with | true => none | false => c.own i, hideH n B 0 c.heap, fun b => c.bar b ∨ ∃ j m, hidB n B j = true ∧ c.own j = some (b, m), c.w⟩

theorem hide_own {i b m : Nat} (h : (c.hide n B).own i = some (b, m)) : hidB n B i = false ∧ c.own i = some (b, m) := by
  simp only [Cx.hide] at h
  split at h
  · cases h
  · rename_i q; exact ⟨q, h⟩
theorem own_hide {i : Nat} (h : hidB n B i = false) : (c.hide n B).own i = c.own i := by simp only [Cx.hide, h]
theorem hide_bad (b : Nat) : (c.hide n B).bad b ↔ c.bad b := by
  constructor
  · rintro ((hb | ⟨j, m, -, hj⟩) | ⟨i, m, hi⟩)
    · exact .inl hb
    · exact .inr ⟨j, m, hj⟩
    · exact .inr ⟨i, m, (hide_own hi).2⟩
  · rintro (hb | ⟨j, m, hj⟩)
    · exact .inl (.inl hb)
    · cases hh : hidB n B j
      · exact .inr ⟨j, m, (own_hide hh).trans hj⟩
      · exact .inl (.inr ⟨j, m, hh, hj⟩)
theorem hide_badOf (b : Nat) (_ : b < c.w.heap.size) (hn : ¬ c.bad b) : ¬ (c.hide n B).bad b ∧ (c.hide n B).w.heap[b]? = c.w.heap[b]? := ⟨fun h => hn ((hide_bad b).1 h), rfl⟩
theorem hide_at {i : Nat} {bx : Box} (hh : hidB n B i = false) (hi : c.heap[i]? = some bx) : (c.hide n B).heap[i]? = some bx ∧ (c.hide n B).own i = c.own i :=
  ⟨by show (hideH n B 0 c.heap)[i]? = _; rw [hideH_get 0 i c.heap (by rwa [Nat.zero_add])]; exact hi, own_hide hh⟩
theorem hide_vr {x : AV} {v : Value} (hf : freeB n B x = true) (hv : VR c x v) : VR (c.hide n B) x v := free_vr hide_badOf (fun _ _ => hide_at) hf hv
theorem hide_vd {x : DV} {v : Value} (hv : VD c.bad c.w x v) : VD (c.hide n B).bad (c.hide n B).w x v := hv.mono hide_badOf

theorem BoxOk.free {i : Nat} {bx : Box} (hfree : freeBoxB n B bx = true) (hvr : ∀ x v, freeB n B x = true → VR c x v → VR c' x v) (hvd : ∀ x v, VD c.bad c.w x v → VD c'.bad c'.w x v) (hb : BoxOk c i bx) (ho : c'.own i = c.own i) (hw : ∀ b n, c.own i = some (b, n) → c'.w.heap[b]? = c.w.heap[b]?) : BoxOk c' i bx := by
  cases bx with
  | cells cs =>
    obtain ⟨blk, cap, vs, ty, h1, h2, h3, h4⟩ := hb
    exact ⟨blk, cap, vs, ty, ho.trans h1, (hw blk cap h1).trans h2, h3, fun j x v hx hv => hvr x v (allB_spec hfree j x hx) (h4 j x v hx hv)⟩
  | arr g ts l =>
    obtain ⟨h0, h1, h2⟩ := hb
    refine ⟨h0, h1, ?_⟩
    rcases h2 with ⟨h2, h3⟩ | ⟨blk, cap, vs, h2, h3, h4, h5, h6, h7⟩
    · exact .inl ⟨ho.trans h2, h3⟩
    · refine .inr ⟨blk, cap, vs, ho.trans h2, (hw blk cap h2).trans h3, h4, h5, h6, fun i j e x he hx => ?_⟩
      obtain ⟨v, h8, h8', h9⟩ := h7 i j e x he hx
      exact ⟨v, h8, h8', hvd x v h9⟩
  | map es =>
    obtain ⟨blk, cap, en, ck, h1, h2, h3, h4⟩ := hb
    exact ⟨blk, cap, en, ck, ho.trans h1, (hw blk cap h1).trans h2, h3, fun j k x m hx hm => ⟨hvd _ _ (h4 j k x m hx hm).1, hvd _ _ (h4 j k x m hx hm).2⟩⟩
  | gone => exact ho.trans hb

/-- The boxes that stay are free of the hidden ones. -/
def closedB (n : Nat) (B : List Nat) (X : List Box) : Bool := allB (freeBoxB n B) X

theorem HOk.hide (ho : HOk G c) (hcl : closedB n B (hideH n B 0 c.heap) = true) : HOk G (c.hide n B) where
  barlt := fun b hb => hb.elim (ho.barlt b) fun ⟨j, m, _, hj⟩ => (ho.ownlt j b m hj).1
  ownlt := fun i b m hi => by
    obtain ⟨h1, h2⟩ := hide_own hi
    obtain ⟨h3, h4⟩ := ho.ownlt i b m h2
    refine ⟨h3, ?_⟩
    have : (c.hide n B).heap[i]? = c.heap[i]? := hideH_get 0 i c.heap (by rwa [Nat.zero_add])
    have h5 : (c.hide n B).heap[i]? = some c.heap[i] := by rw [this]; simp
    exact lt_of_getElem? h5
  inj := fun i j b m k hi hj => ho.inj i j b m k (hide_own hi).2 (hide_own hj).2
  sep := fun i b m hi hb => by
    obtain ⟨h1, h2⟩ := hide_own hi
    rcases hb with hb | ⟨j, k, hj, hk⟩
    · exact ho.sep i b m h2 hb
    · have := ho.inj i j b m k h2 hk
      subst this
      rw [h1] at hj
      cases hj
  box := fun i bx hi => by
    cases hh : hidB n B i
    · have e : (c.hide n B).heap[i]? = c.heap[i]? := hideH_get 0 i c.heap (by rwa [Nat.zero_add])
      have hf := allB_spec hcl i bx hi
      rw [e] at hi
      exact (ho.box i bx hi).free hf (fun _ _ => hide_vr) (fun _ _ => hide_vd) (own_hide hh) (fun _ _ _ => rfl)
    · obtain rfl := hideH_hid 0 i c.heap bx (by rwa [Nat.zero_add]) hi
      show (c.hide n B).own i = none
      simp only [Cx.hide, hh]
  glob := fun g e hg => hide_vr rfl (ho.glob g e hg)

/-- Slots that refer to hidden boxes are forgotten. -/
def freeS (n : Nat) (B : List Nat) : List AV → List AV
  | [] => []
  | x :: s => (match freeB n B x with | true => x | false => .any) :: freeS n B s
def freeSK {α : Sort _} (n : Nat) (B : List Nat) : List AV → (List AV → α) → α
  | [], k => k []
  | x :: s, k => match freeB n B x with
    | true => freeSK n B s fun s' => k (x :: s')
    | false => freeSK n B s fun s' => k (.any :: s')
theorem freeSK_eq {α : Sort _} : ∀ (s : List AV) (k : List AV → α), freeSK n B s k = k (freeS n B s)
  | [], _ => rfl
  | x :: s, k => by
    simp only [freeSK, freeS]
    split <;> rename_i q <;> rw [freeSK_eq s] <;> simp only [q]
theorem freeS_get : ∀ (s : List AV) (i : Nat) (x : AV), (freeS n B s)[i]? = some x → x = .any ∨ (s[i]? = some x ∧ freeB n B x = true)
  | [], _, _, h => by simp [freeS] at h
  | y :: s, 0, x, h => by
    simp only [freeS, List.getElem?_cons_zero, Option.some.injEq] at h
    split at h
    · rename_i q; subst h; exact .inr ⟨rfl, q⟩
    · exact .inl h.symm
  | y :: s, i + 1, x, h => by
    rcases freeS_get s i x (by simpa [freeS] using h) with h | h
    · exact .inl h
    · exact .inr (by simpa using h)
theorem freeS_len : ∀ (s : List AV), (freeS n B s).length = s.length
  | [] => rfl
  | _ :: s => by simp [freeS, freeS_len s]
theorem VS.hide {s : List AV} {t : Array Value} (h : VS c s t) : VS (c.hide n B) (freeS n B s) t := by
  refine ⟨by rw [freeS_len]; exact h.1, fun i x v hx hv => ?_⟩
  rcases freeS_get s i x hx with rfl | ⟨hx, hf⟩
  · exact .any v
  · exact hide_vr hf (h.2 i x v hx hv)

/-- What an operation does that sees no hidden box, it does beside them. -/
theorem OpOK.unhide {E : Env} {op : Op} {s : List AV} {h : List Box} {v : AV} (hcl : closedB n B (hideH n B 0 h) = true) (hf : freeB n B v = true) (H : OpOK E op (freeS n B s) (hideH n B 0 h) v (hideH n B 0 h)) : OpOK E op s h v h := by
  intro o c a hop hc ho hs
  subst hc
  obtain ⟨c1, u, d1, e1, k1, r1, st⟩ := H o (c.hide n B) a hop rfl (ho.hide hcl) hs.hide
  have heap1 : ∀ i, hidB n B i = false → c1.heap[i]? = c.heap[i]? := fun i hh => by rw [e1]; exact hideH_get 0 i c.heap (by rwa [Nat.zero_add])
  have own0 : ∀ i, hidB n B i = true → c1.own i = none := fun i hh => by
    cases hq : c1.heap[i]? with
    | none =>
      cases hw : c1.own i with
      | none => rfl
      | some p =>
        have h2 := (k1.ownlt i p.1 p.2 hw).2
        rw [List.getElem?_eq_none_iff] at hq
        omega
    | some bx =>
      have hq' := hq
      rw [e1] at hq'
      obtain rfl := hideH_hid 0 i c.heap bx (by rwa [Nat.zero_add]) hq'
      exact k1.box i _ hq
  have own1 : ∀ i, hidB n B i = false → c1.own i = c.own i := fun i hh => by
    cases hq : c.heap[i]? with
    | none =>
      have n1 : c.own i = none := by
        cases hw : c.own i with
        | none => rfl
        | some p => have h2 := (ho.ownlt i p.1 p.2 hw).2; rw [List.getElem?_eq_none_iff] at hq; omega
      have hq1 : c1.heap[i]? = none := (heap1 i hh).trans hq
      rw [n1]
      cases hw : c1.own i with
      | none => rfl
      | some p => have h2 := (k1.ownlt i p.1 p.2 hw).2; rw [List.getElem?_eq_none_iff] at hq1; omega
    | some bx =>
      have hb1 : c1.heap[i]? = some bx := (heap1 i hh).trans hq
      obtain ⟨g1, g2⟩ := hide_at (n := n) (B := B) hh hq
      have hs := st.boxes i bx g1
      cases bx with
      | cells cs =>
        rcases hs with ⟨cs', q1, q2, q3⟩ | q1
        · exact q2.trans g2
        · rw [hb1] at q1; cases q1
      | arr g sz l =>
        rcases hs with ⟨g', l', q1, q2⟩ | q1
        · rw [hb1] at q1
          cases q1
          rcases q2 with q2 | ⟨-, -, q2⟩
          · omega
          · exact q2.trans g2
        · rw [hb1] at q1; cases q1
      | map es =>
        rcases hs with ⟨es', q1, q2⟩ | q1
        · exact q2.trans g2
        · rw [hb1] at q1; cases q1
      | gone =>
        have a1 : c1.own i = none := k1.box i _ hb1
        have a2 : c.own i = none := ho.box i _ hq
        rw [a1, a2]
  have bad1 : ∀ b, c1.bad b ↔ c.bad b := fun b => by
    rw [← hide_bad (c := c) (n := n) (B := B)]
    constructor
    · rintro (h | ⟨i, m, h⟩)
      · exact .inl (by rw [← st.bar]; exact h)
      · cases hh : hidB n B i
        · exact .inr ⟨i, m, by rw [own_hide hh, ← own1 i hh]; exact h⟩
        · rw [own0 i hh] at h; cases h
    · rintro (h | ⟨i, m, h⟩)
      · exact .inl (by rw [st.bar]; exact h)
      · obtain ⟨g1, g2⟩ := hide_own h
        exact .inr ⟨i, m, by rw [own1 i g1]; exact g2⟩
  have hst : Step c (c.inW c1.w) := ⟨rfl, ho.barlt, st.os, st.tape, st.output, st.size, fun b hb hn => st.keep b hb (fun i m hi => hn i m (hide_own hi).2), fun i b m hi _ => ⟨m, hi⟩, (Step.refl c ho.barlt).boxes⟩
  have hk : ∀ b, b < c1.w.heap.size → ¬ c1.bad b → ¬ (c.inW c1.w).bad b ∧ (c.inW c1.w).w.heap[b]? = c1.w.heap[b]? := fun b _ hn => ⟨fun h => hn ((bad1 b).2 h), rfl⟩
  have hbx : ∀ i bx, hidB n B i = false → c1.heap[i]? = some bx → (c.inW c1.w).heap[i]? = some bx ∧ (c.inW c1.w).own i = c1.own i := fun i bx hh hi => ⟨(heap1 i hh).symm.trans hi, (own1 i hh).symm⟩
  have back : ∀ x v, freeB n B x = true → VR c1 x v → VR (c.inW c1.w) x v := fun x v hf hv => free_vr hk hbx hf hv
  have backd : ∀ x v, VD c1.bad c1.w x v → VD (c.inW c1.w).bad (c.inW c1.w).w x v := fun x v hv => hv.mono hk
  refine ⟨c.inW c1.w, u, d1, rfl, ?_, back v u hf r1, hst⟩
  exact {
    barlt := fun b hb => Nat.lt_of_lt_of_le (ho.barlt b hb) st.size
    ownlt := fun i b m hi => ⟨Nat.lt_of_lt_of_le (ho.ownlt i b m hi).1 st.size, (ho.ownlt i b m hi).2⟩
    inj := ho.inj
    sep := ho.sep
    box := fun i bx hi => by
      cases hh : hidB n B i
      · have hb1 : c1.heap[i]? = some bx := (heap1 i hh).trans hi
        have hfr := allB_spec hcl i bx (by rw [← e1]; exact hb1)
        exact (k1.box i bx hb1).free hfr back backd (own1 i hh).symm (fun _ _ _ => rfl)
      · refine (ho.box i bx hi).gen (fun _ _ => hst.vr) (fun _ _ => hst.vd) rfl (fun b m hn => ?_)
        refine st.keep b (ho.ownlt i b m hn).1 (fun j k hj => ?_)
        obtain ⟨g1, g2⟩ := hide_own hj
        have := ho.inj i j b m k hn g2
        subst this
        rw [hh] at g1
        cases g1
    glob := fun g e hg => back _ _ rfl (k1.glob g e hg) }
end

section
variable {E : Env} {ops : Array Oper} {F : List Nat} {n : Nat} {B : List Nat} {X : List Box}

structure ChkG (ops : Array Oper) (F : List Nat) : Prop where
  low : ∀ j o e, ops[j]? = some o → e ∈ o.after → Region.binds .any e = true → e.on < j
  pair : ∀ i j oi oj, i < j → ops[i]? = some oi → ops[j]? = some oj → confB ops oi oj = true → DepT ops i j
  spine : ∀ i j oi oj, i < j → ops[i]? = some oi → ops[j]? = some oj → memB i F = false → memB j F = false → DepT ops i j
theorem ChkG.chk (h : ChkG ops F) : Chk ops ops.size := ⟨h.low, h.pair, fun i j oi oj _ hj _ hoj => by
  have := (Array.getElem?_eq_some_iff.1 hoj).1; omega⟩
/-- A plan, in the order of the text. -/
def GPlan (E : Env) (ops : Array Oper) (F : List Nat) (n : Nat) (B : List Nat) (X : List Box) (K : List AV → List Box → Prop) : Nat → List Oper → List AV → List Box → Prop
  | _, [], s, h => K s h
  | j, o :: l, s, h => match memB j F with
    | true => ∃ v, (∀ h', hideH n B 0 h' = X → OpFact E ops o s h' v) ∧ GPlan E ops F n B X K (j + 1) l (putS s o.dst v) h
    | false => ∃ v h', SFact E ops o s h v h' ∧ hideH n B 0 h' = X ∧ GPlan E ops F n B X K (j + 1) l (putS s o.dst v) h'

structure GP (E : Env) (ops : Array Oper) (F : List Nat) (n : Nat) (B : List Nat) (X : List Box) (i0 : Nat) (s : List AV) (pl : List (Oper × AV)) (hp : Nat → List Box) : Prop where
  flo : ∀ j o v, memB (i0 + j) F = true → pl[j]? = some (o, v) → (∀ h', hideH n B 0 h' = X → OpFact E ops o (cur pl (fun k => decide (k < j)) 0 s) h' v) ∧ hp (j + 1) = hp j
  spi : ∀ j o v, memB (i0 + j) F = false → pl[j]? = some (o, v) → SFact E ops o (cur pl (fun k => decide (k < j)) 0 s) (hp j) v (hp (j + 1))
  hid : ∀ j, j ≤ pl.length → hideH n B 0 (hp j) = X

theorem GPlan.lay {K : List AV → List Box → Prop} : ∀ {l : List Oper} {i0 : Nat} {s : List AV} {h : List Box}, hideH n B 0 h = X → GPlan E ops F n B X K i0 l s h →
    ∃ (pl : List (Oper × AV)) (hp : Nat → List Box), pl.map (·.1) = l ∧ hp 0 = h ∧ K (cur pl (fun k => decide (k < pl.length)) 0 s) (hp pl.length) ∧ GP E ops F n B X i0 s pl hp
  | [], i0, s, h, hX, H => ⟨[], fun _ => h, rfl, rfl, H, ⟨fun j o v _ hj => by simp at hj, fun j o v _ hj => by simp at hj, fun j _ => hX⟩⟩
  | o :: l, i0, s, h, hX, H => by
    simp only [GPlan] at H
    have shift : ∀ (pl : List (Oper × AV)) (n : Nat) (s : List AV), cur pl (fun k => decide (k < n + 1)) (0 + 1) s = cur pl (fun k => decide (k < n)) 0 s := fun pl n s => by
      rw [cur_shift 1]
      congr 1
      funext k
      simp
    have build : ∀ (v : AV) (h' : List Box), hideH n B 0 h' = X → GPlan E ops F n B X K (i0 + 1) l (putS s o.dst v) h' → (memB i0 F = true → (∀ h', hideH n B 0 h' = X → OpFact E ops o s h' v) ∧ h' = h) → (memB i0 F = false → SFact E ops o s h v h') →
        ∃ (pl : List (Oper × AV)) (hp : Nat → List Box), pl.map (·.1) = o :: l ∧ hp 0 = h ∧ K (cur pl (fun k => decide (k < pl.length)) 0 s) (hp pl.length) ∧ GP E ops F n B X i0 s pl hp := by
      intro v h' hX' H' f1 f2
      obtain ⟨pl, hp, k1, k2, k3, k4⟩ := GPlan.lay hX' H'
      refine ⟨(o, v) :: pl, fun n => match n with | 0 => h | n + 1 => hp n, by simp [k1], rfl, ?_, ⟨fun j o' v' hm hj => ?_, fun j o' v' hm hj => ?_, fun j hj => ?_⟩⟩
      · rw [cur]
        simp only [List.length_cons, Nat.zero_lt_succ, decide_true, if_true]
        rw [shift]
        exact k3
      · cases j with
        | zero =>
          simp at hj
          obtain ⟨rfl, rfl⟩ := hj
          rw [cur_none _ _ _ _ (fun k _ => decide_eq_false (by omega))]
          obtain ⟨g1, g2⟩ := f1 hm
          exact ⟨g1, k2.trans g2⟩
        | succ j =>
          have := k4.flo j o' v' (by rwa [show i0 + 1 + j = i0 + (j + 1) by omega]) (by simpa using hj)
          rw [cur]
          simp only [Nat.zero_lt_succ, decide_true, if_true]
          rw [shift]
          exact this
      · cases j with
        | zero =>
          simp at hj
          obtain ⟨rfl, rfl⟩ := hj
          rw [cur_none _ _ _ _ (fun k _ => decide_eq_false (by omega))]
          simp only [k2]
          exact f2 hm
        | succ j =>
          have := k4.spi j o' v' (by rwa [show i0 + 1 + j = i0 + (j + 1) by omega]) (by simpa using hj)
          rw [cur]
          simp only [Nat.zero_lt_succ, decide_true, if_true]
          rw [shift]
          exact this
      · cases j with
        | zero => exact hX
        | succ j => exact k4.hid j (by simpa using hj)
    split at H
    · rename_i q
      obtain ⟨v, h1, h2⟩ := H
      exact build v h hX h2 (fun _ => ⟨h1, rfl⟩) (fun e => by rw [q] at e; cases e)
    · rename_i q
      obtain ⟨v, h', h1, h2, h3⟩ := H
      exact build v h' h2 h3 (fun e => by rw [q] at e; cases e) (fun _ => h1)

end

/-- The configuration inside such a region. -/
@[irreducible] def GWL (E : Env) (fid : FuncId) (R : Post) (ops : Array Oper) (k : List AItem) (F : List Nat) (n : Nat) (B : List Nat) (X : List Box) (_lits : List Nat) (j : Nat) (suf : List Oper) (s : List AV) (h : List Box) : Prop :=
  GPlan E ops F n B X (fun s2 h2 => AWL E fid R [] k s2 h2) j suf s h
section
variable {E : Env} {fid : FuncId} {R : Post} {ops : Array Oper} {k : List AItem} {F : List Nat} {n : Nat} {B : List Nat} {X : List Box} {lits : List Nat} {j : Nat} {suf : List Oper} {s : List AV} {h : List Box}
theorem GWL.is (H : GWL E fid R ops k F n B X lits j suf s h) : GWL E fid R ops k F n B X lits j suf s h := H
theorem GWL.to (H : GWL E fid R ops k F n B X lits j suf s h) : GPlan E ops F n B X (fun s2 h2 => AWL E fid R [] k s2 h2) j suf s h := by unfold GWL at H; exact H
end

/-- A value that refers to no hidden box, or else. -/
def freeVK (n : Nat) (B : List Nat) (v : AV) (stop k : Prop) : Prop := match freeB n B v with
  | true => k
  | false => stop

def grunK (E : Env) (fid : FuncId) (R : Post) (ops : Array Oper) (k : List AItem) (F : List Nat) (n : Nat) (B : List Nat) (X : List Box) : Nat → List Nat → Nat → List Oper → List AV → List Box → Prop
  | 0, lits, j, suf, s, h => GWL E fid R ops k F n B X lits j suf s h
  | m + 1, lits, j, suf, s, h =>
    match suf with
    | [] => AWL E fid R [] k s h
    | o :: l => maskK (keepOf ops o) 0 s fun so =>
      let stop : Prop := GWL E fid R ops k F n B X lits j suf s h
      let next (v : AV) : Prop := putK s o.dst v fun s' => GWL E fid R ops k F n B X lits (j + 1) l s' h
      let run (v : AV) : Prop := putK s o.dst v fun s' => grunK E fid R ops k F n B X m lits (j + 1) l s' h
      let go : Prop := match memB j F with
        | true => match floatB o with
          | true => opK E.T E.G o.op so h (plainSK E o.op so (sideMK E o.op so h (callK E.G so o stop fun _ _ => stop) fun _ _ => stop) fun _ => stop) fun v _ => run v
          | false => match stillOp o.op with
            | true => freeSK n B so fun sf => opK E.T E.G o.op sf X (plainSK E o.op sf (sideMK E o.op sf X stop fun v _ => freeVK n B v stop (next v)) fun v => freeVK n B v stop (run v)) fun v _ => freeVK n B v stop (run v)
            | false => stop
        | false => opK E.T E.G o.op so h (plainK E o.op so h (sideMK E o.op so h (callK E.G so o stop fun f avs => allDK avs (callB1K E f avs h stop fun v h' => hideH n B 0 h' = X ∧ putK s o.dst v fun s' => GWL E fid R ops k F n B X lits (j + 1) l s' h') fun ds => callP1 E f ds fun v => next (.d v))
            fun v h' => hideH n B 0 h' = X ∧ putK s o.dst v fun s' => GWL E fid R ops k F n B X lits (j + 1) l s' h')
            fun v h' => hideH n B 0 h' = X ∧ putK s o.dst v fun s' => GWL E fid R ops k F n B X lits (j + 1) l s' h')
          fun v h' => hideH n B 0 h' = X ∧ putK s o.dst v fun s' => GWL E fid R ops k F n B X lits (j + 1) l s' h'
      guardK ops o.guard go stop fun d b => getK so d stop fun
        | .d (.bool t) => match memB d lits with
          | false => caseB t (setK s d (.d (.bool true)) fun s' => GWL E fid R ops k F n B X (d :: lits) j suf s' h) (setK s d (.d (.bool false)) fun s' => GWL E fid R ops k F n B X (d :: lits) j suf s' h)
          | true => match sameB t b with
            | true => go
            | false => run (.d .undef)
        | .d .undef => run (.d .undef)
        | _ => stop

theorem grunK_sound {E : Env} (hE : E.OK) {fid : FuncId} {R : Post} {ops : Array Oper} {k : List AItem} {F : List Nat} {n : Nat} {B : List Nat} {X : List Box} (hcl : closedB n B X = true) : ∀ (m : Nat) (lits : List Nat) (j : Nat) (suf : List Oper) (s : List AV) (h : List Box),
    hideH n B 0 h = X → grunK E fid R ops k F n B X m lits j suf s h → GPlan E ops F n B X (fun s2 h2 => AWL E fid R [] k s2 h2) j suf s h := by
  intro m
  induction m with
  | zero => intro lits j suf s h _ H; exact GWL.to H
  | succ m ih =>
    intro lits j suf s h hX H
    unfold grunK at H
    split at H
    · exact H
    rename_i o l
    rw [maskK_eq] at H
    have hso : ∀ (d : Nat) (x : AV), (maskS (keepOf ops o) 0 s)[d]? = some x → x ≠ .any → s[d]? = some x := fun d x hx hne => by
      rcases maskS_get _ 0 d s x hx with h | ⟨-, h⟩
      · exact absurd h hne
      · exact h
    -- a value for one operation, on either side
    have stepB : ∀ (v : AV), (memB j F = true → ∀ h', hideH n B 0 h' = X → OpFact E ops o s h' v) → (memB j F = false → SFact E ops o s h v h) → GPlan E ops F n B X (fun s2 h2 => AWL E fid R [] k s2 h2) (j + 1) l (putS s o.dst v) h → GPlan E ops F n B X (fun s2 h2 => AWL E fid R [] k s2 h2) j (o :: l) s h := by
      intro v h1 h2 h3
      unfold GPlan
      cases q : memB j F
      · exact ⟨v, h, h2 q, hX, h3⟩
      · exact ⟨v, h1 q, h3⟩
    have stepS : ∀ (v : AV) (h' : List Box), memB j F = false → SFact E ops o s h v h' → hideH n B 0 h' = X → GPlan E ops F n B X (fun s2 h2 => AWL E fid R [] k s2 h2) (j + 1) l (putS s o.dst v) h' → GPlan E ops F n B X (fun s2 h2 => AWL E fid R [] k s2 h2) j (o :: l) s h := by
      intro v h' q h1 h2 h3
      unfold GPlan
      rw [q]
      exact ⟨v, h', h1, h2, h3⟩
    have free : ∀ {v : AV} {st kk : Prop}, freeVK n B v st kk → st ∨ (freeB n B v = true ∧ kk) := fun {v st kk} H => by
      unfold freeVK at H
      split at H
      · rename_i q; exact .inr ⟨q, H⟩
      · exact .inl H
    dsimp only at H
    have go : Wanted ops o (maskS (keepOf ops o) 0 s) true → (match memB j F with
        | true => match floatB o with
          | true => opK E.T E.G o.op (maskS (keepOf ops o) 0 s) h (plainSK E o.op (maskS (keepOf ops o) 0 s) (sideMK E o.op (maskS (keepOf ops o) 0 s) h (callK E.G (maskS (keepOf ops o) 0 s) o (GWL E fid R ops k F n B X lits j (o :: l) s h) fun _ _ => GWL E fid R ops k F n B X lits j (o :: l) s h) fun _ _ => GWL E fid R ops k F n B X lits j (o :: l) s h) fun _ => GWL E fid R ops k F n B X lits j (o :: l) s h) fun v _ => putK s o.dst v fun s' => grunK E fid R ops k F n B X m lits (j + 1) l s' h
          | false => match stillOp o.op with
            | true => freeSK n B (maskS (keepOf ops o) 0 s) fun sf => opK E.T E.G o.op sf X (plainSK E o.op sf (sideMK E o.op sf X (GWL E fid R ops k F n B X lits j (o :: l) s h) fun v _ => freeVK n B v (GWL E fid R ops k F n B X lits j (o :: l) s h) (putK s o.dst v fun s' => GWL E fid R ops k F n B X lits (j + 1) l s' h)) fun v => freeVK n B v (GWL E fid R ops k F n B X lits j (o :: l) s h) (putK s o.dst v fun s' => grunK E fid R ops k F n B X m lits (j + 1) l s' h)) fun v _ => freeVK n B v (GWL E fid R ops k F n B X lits j (o :: l) s h) (putK s o.dst v fun s' => grunK E fid R ops k F n B X m lits (j + 1) l s' h)
            | false => GWL E fid R ops k F n B X lits j (o :: l) s h
        | false => opK E.T E.G o.op (maskS (keepOf ops o) 0 s) h (plainK E o.op (maskS (keepOf ops o) 0 s) h (sideMK E o.op (maskS (keepOf ops o) 0 s) h (callK E.G (maskS (keepOf ops o) 0 s) o (GWL E fid R ops k F n B X lits j (o :: l) s h) fun f avs => allDK avs (callB1K E f avs h (GWL E fid R ops k F n B X lits j (o :: l) s h) fun v h' => hideH n B 0 h' = X ∧ putK s o.dst v fun s' => GWL E fid R ops k F n B X lits (j + 1) l s' h') fun ds => callP1 E f ds fun v => putK s o.dst (.d v) fun s' => GWL E fid R ops k F n B X lits (j + 1) l s' h)
            fun v h' => hideH n B 0 h' = X ∧ putK s o.dst v fun s' => GWL E fid R ops k F n B X lits (j + 1) l s' h')
            fun v h' => hideH n B 0 h' = X ∧ putK s o.dst v fun s' => GWL E fid R ops k F n B X lits (j + 1) l s' h')
          fun v h' => hideH n B 0 h' = X ∧ putK s o.dst v fun s' => GWL E fid R ops k F n B X lits (j + 1) l s' h') → GPlan E ops F n B X (fun s2 h2 => AWL E fid R [] k s2 h2) j (o :: l) s h := by
      intro hw H
      split at H
      · rename_i q
        split at H
        · rename_i hF
          have hst : stillOp o.op = true := by
            obtain ⟨dst, op, type, pos, after, guard⟩ := o
            cases op <;> first | rfl | (cases guard <;> cases hF)
          have H' : (match stillOp o.op with
            | true => opK E.T E.G o.op (maskS (keepOf ops o) 0 s) h (plainSK E o.op (maskS (keepOf ops o) 0 s) (sideMK E o.op (maskS (keepOf ops o) 0 s) h (callK E.G (maskS (keepOf ops o) 0 s) o (GWL E fid R ops k F n B X lits j (o :: l) s h) fun _ _ => GWL E fid R ops k F n B X lits j (o :: l) s h) fun _ _ => GWL E fid R ops k F n B X lits j (o :: l) s h) fun _ => GWL E fid R ops k F n B X lits j (o :: l) s h) fun v _ => putK s o.dst v fun s' => grunK E fid R ops k F n B X m lits (j + 1) l s' h
            | false => GWL E fid R ops k F n B X lits j (o :: l) s h) := by rw [hst]; exact H
          rcases float_sound hF H' id with H | ⟨v, H, ho⟩
          · exact GWL.to H
          · rw [putK_eq] at H
            exact stepB v (fun _ h' _ => OpFact.of hw (ho h')) (fun e => by rw [q] at e; cases e) (ih _ _ _ _ _ hX H)
        split at H
        · rename_i hst
          rw [freeSK_eq] at H
          have fin : ∀ v, freeB n B v = true → OpOK E o.op (freeS n B (maskS (keepOf ops o) 0 s)) X v X → GPlan E ops F n B X (fun s2 h2 => AWL E fid R [] k s2 h2) (j + 1) l (putS s o.dst v) h → GPlan E ops F n B X (fun s2 h2 => AWL E fid R [] k s2 h2) j (o :: l) s h := fun v hv hok H =>
            stepB v (fun _ h' e => OpFact.of hw (OpOK.unhide (by rw [e]; exact hcl) hv (by rw [e]; exact hok))) (fun e => by rw [q] at e; cases e) H
          rcases opK_sound hE (opK_still (K := fun v => freeVK n B v (GWL E fid R ops k F n B X lits j (o :: l) s h) (putK s o.dst v fun s' => grunK E fid R ops k F n B X m lits (j + 1) l s' h)) hst H) with H | ⟨v, h', ⟨rfl, H⟩, ho⟩
          · rcases plainSK_sound hE H with H | ⟨v, H, ho⟩
            case inr =>
              rcases free H with H | ⟨hv, H⟩
              · exact GWL.to H
              · rw [putK_eq] at H
                exact fin v hv (ho _) (ih _ _ _ _ _ hX H)
            rcases sideMK_sound hE (sideMK_still (K := fun v => freeVK n B v (GWL E fid R ops k F n B X lits j (o :: l) s h) (putK s o.dst v fun s' => GWL E fid R ops k F n B X lits (j + 1) l s' h)) hst H) with H | ⟨v, h', ⟨rfl, H⟩, ho⟩
            · exact GWL.to H
            · rcases free H with H | ⟨hv, H⟩
              · exact GWL.to H
              · rw [putK_eq] at H
                exact fin v hv ho (GWL.to H)
          · rcases free H with H | ⟨hv, H⟩
            · exact GWL.to H
            · rw [putK_eq] at H
              exact fin v hv ho (ih _ _ _ _ _ hX H)
        · exact GWL.to H
      · rename_i q
        have fin : ∀ v h', OpOK E o.op (maskS (keepOf ops o) 0 s) h v h' → (hideH n B 0 h' = X ∧ putK s o.dst v fun s' => GWL E fid R ops k F n B X lits (j + 1) l s' h') → GPlan E ops F n B X (fun s2 h2 => AWL E fid R [] k s2 h2) j (o :: l) s h := fun v h' ho H => by
          obtain ⟨e, H⟩ := H
          rw [putK_eq] at H
          exact stepS v h' q (SFact.of hw ho) e (GWL.to H)
        rcases opK_sound hE H with H | ⟨v, h', H, ho⟩
        · rcases plainK_sound hE H with H | ⟨v, h', H, ho⟩
          case inr => exact fin v h' ho H
          rcases sideMK_sound hE H with H | ⟨v, h', H, ho⟩
          · rcases callK_sound H with H | ⟨fx, args, ts, f, a1, av, a2, hop, hv, hav, H⟩
            · exact GWL.to H
            rcases allDK_cases (a1 ++ av ++ a2) (callB1K E f (a1 ++ av ++ a2) h (GWL E fid R ops k F n B X lits j (o :: l) s h) fun v h' => hideH n B 0 h' = X ∧ putK s o.dst v fun s' => GWL E fid R ops k F n B X lits (j + 1) l s' h') (fun ds => callP1 E f ds fun v => putK s o.dst (.d v) fun s' => GWL E fid R ops k F n B X lits (j + 1) l s' h) with ⟨ds, e1, e2⟩ | e2
            · rw [e2] at H
              unfold callP1 at H
              obtain ⟨r, hc, hk⟩ := H
              rw [putK_eq] at hk
              exact stepS _ h q (SFact.call hw hop hv hav e1 hc) hX (GWL.to hk)
            · rw [e2] at H
              rcases callB1K_sound H with H | ⟨sel, r, hp, hc, hn, hlt, hk⟩
              · exact GWL.to H
              obtain ⟨e, hk⟩ := hk
              rw [putK_eq] at hk
              exact stepS _ _ q (SFact.acall hw hop hv hav hc hn hlt) e (GWL.to hk)
          · exact fin v h' ho H
        · exact fin v h' ho H
    have skip : Wanted ops o (maskS (keepOf ops o) 0 s) false → (putK s o.dst (.d .undef) fun s' => grunK E fid R ops k F n B X m lits (j + 1) l s' h) → GPlan E ops F n B X (fun s2 h2 => AWL E fid R [] k s2 h2) j (o :: l) s h := fun hw H => by
      rw [putK_eq] at H
      exact stepB _ (fun _ h' _ => OpFact.skip hw) (fun _ => SFact.skip hw) (ih _ _ _ _ _ hX H)
    unfold guardK at H
    split at H
    · rename_i hg
      exact go (wanted_none hg) H
    · rename_i jj b hg
      rcases getK_or H with H | ⟨oj, hoj, H⟩
      · exact GWL.to H
      split at H
      · rename_i d hd
        rcases getK_or H with H | ⟨x, hx, H⟩
        · exact GWL.to H
        split at H
        · rename_i t
          have hxs := hso d _ hx (by simp)
          split at H
          · refine caseB_elim H (fun e H2 => ?_) (fun e H2 => ?_)
            · subst e
              rw [setK_eq, set_same hxs] at H2
              exact GWL.to H2
            · subst e
              rw [setK_eq, set_same hxs] at H2
              exact GWL.to H2
          · have hw := wanted_lit hg hoj hd hx
            split at H
            · rename_i q
              have : (t == b) = true := by cases t <;> cases b <;> first | rfl | cases q
              rw [this] at hw
              exact go hw H
            · rename_i q
              have : (t == b) = false := by cases t <;> cases b <;> first | rfl | cases q
              rw [this] at hw
              exact skip hw H
        · exact skip (wanted_undef hg hoj hd hx) H
        · exact GWL.to H
      · exact GWL.to H

section
variable {E : Env} {fid : FuncId} {R : Post} {ops : Array Oper} {k : List AItem} {F : List Nat} {n : Nat} {B : List Nat} {X : List Box} {lits : List Nat} {j : Nat} {suf : List Oper} {s : List AV} {h : List Box}

theorem GWL.run (hE : E.OK) (m : Nat) (hcl : closedB n B X = true) (hX : hideH n B 0 h = X) (H : grunK E fid R ops k F n B X m lits j suf s h) : GWL E fid R ops k F n B X lits j suf s h := by
  unfold GWL; exact grunK_sound hE hcl m lits j suf s h hX H

end
end Go.Eng
