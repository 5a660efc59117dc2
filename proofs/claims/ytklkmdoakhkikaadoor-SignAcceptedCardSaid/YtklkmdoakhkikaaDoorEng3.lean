/- The engine, part 3: the abstract operations are what the model does. No conditions. -/
import Derived.Test.YtklkmdoakhkikaaDoorEng2
import Derived.Laws.Cells
import Derived.Laws.IdiomCopy
namespace Go.Eng
open Go

/-- A box is in the model what it is here. -/
def BoxOk (c : Cx) (i : Nat) : Box → Prop
  | .cells cs => ∃ (blk cap : Nat) (vs : Array Value) (ty : TypeId), c.own i = some (blk, cap) ∧ c.w.heap[blk]? = some (.cells vs ty (0, 0)) ∧ vs.size = cs.length ∧
      ∀ (j : Nat) (x : AV) (v : Value), cs[j]? = some x → vs[j]? = some v → VR c x v
  | .arr _ ts l => 0 < ts.2 ∧ (∀ (i : Nat) (e : DV), l[i]? = some e → e.cells.length = ts.2) ∧
      ((c.own i = none ∧ l = []) ∨ ∃ (blk cap : Nat) (vs : Array Value), c.own i = some (blk, cap) ∧ c.w.heap[blk]? = some (.cells vs ts.1 (0, 0)) ∧ vs.size = cap * ts.2 ∧ l.length ≤ cap ∧ cap ≤ maxLen ∧
        ∀ (i j : Nat) (e x : DV), l[i]? = some e → e.cells[j]? = some x → ∃ v, vs[i * ts.2 + j]? = some v ∧ v.oneCell' = true ∧ VD c.bad c.w x v)
  | .map es => ∃ (blk cap : Nat) (en : Array MapEntry) (ck : Nat), c.own i = some (blk, cap) ∧ c.w.heap[blk]? = some (.map en ck) ∧ en.size = es.length ∧
      ∀ (j : Nat) (k x : DV) (m : MapEntry), es[j]? = some (k, x) → en[j]? = some m → VD c.bad c.w k m.key ∧ VD c.bad c.w x m.val
  | .gone => c.own i = none

structure HOk (G : List (Nat × DV)) (c : Cx) : Prop where
  barlt : ∀ b, c.bar b → b < c.w.heap.size
  ownlt : ∀ i b n, c.own i = some (b, n) → b < c.w.heap.size ∧ i < c.heap.length
  inj : ∀ i j b n m, c.own i = some (b, n) → c.own j = some (b, m) → i = j
  sep : ∀ i b n, c.own i = some (b, n) → ¬ c.bar b
  box : ∀ i bx, c.heap[i]? = some bx → BoxOk c i bx
  glob : ∀ g e, (g, e) ∈ G → VR c (.eptr e 0) (.pointer (some ⟨g, 0, none⟩))

def VS (c : Cx) (s : List AV) (t : Array Value) : Prop := s.length = t.size ∧ ∀ (i : Nat) (x : AV) (v : Value), s[i]? = some x → t[i]? = some v → VR c x v

theorem Step.vs {c c' : Cx} (h : Step c c') {s : List AV} {t : Array Value} (hv : VS c s t) : VS c' s t := ⟨hv.1, fun i x v hx ht => h.vr (hv.2 i x v hx ht)⟩

theorem VS.put {c : Cx} {s : List AV} {t : Array Value} (hv : VS c s t) (d : Nat) {x : AV} {v : Value} (hx : VR c x v) : VS c (s.set d x) (t.setIfInBounds d v) := by
  refine ⟨by simpa using hv.1, fun i y u hy hu => ?_⟩
  by_cases hd : d = i
  · subst hd
    have h1 : d < s.length := by
      rcases Nat.lt_or_ge d s.length with h | h
      · exact h
      · rw [List.getElem?_eq_none (by simpa using h)] at hy; cases hy
    have h2 : d < t.size := by rw [← hv.1]; exact h1
    rw [List.getElem?_set_self h1] at hy
    rw [Array.getElem?_setIfInBounds_self_of_lt h2] at hu
    cases hy; cases hu; exact hx
  · rw [List.getElem?_set_ne hd] at hy
    rw [Array.getElem?_setIfInBounds_ne hd] at hu
    exact hv.2 i y u hy hu

/-- What is not touched stays as it is. -/
theorem BoxOk.keep {c c' : Cx} (h : Step c c') {i : Nat} {bx : Box} (hb : BoxOk c i bx) (ho : c'.own i = c.own i) (hw : ∀ b n, c.own i = some (b, n) → c'.w.heap[b]? = c.w.heap[b]?) : BoxOk c' i bx := by
  cases bx with
  | cells cs =>
    obtain ⟨blk, cap, vs, ty, h1, h2, h3, h4⟩ := hb
    exact ⟨blk, cap, vs, ty, ho.trans h1, (hw blk cap h1).trans h2, h3, fun j x v hx hv => h.vr (h4 j x v hx hv)⟩
  | arr g ts l =>
    obtain ⟨h0, h1, h2⟩ := hb
    refine ⟨h0, h1, ?_⟩
    rcases h2 with ⟨h2, h3⟩ | ⟨blk, cap, vs, h2, h3, h4, h5, h6, h7⟩
    · exact .inl ⟨ho.trans h2, h3⟩
    · refine .inr ⟨blk, cap, vs, ho.trans h2, (hw blk cap h2).trans h3, h4, h5, h6, fun i j e x he hx => ?_⟩
      obtain ⟨v, h8, h8', h9⟩ := h7 i j e x he hx
      exact ⟨v, h8, h8', h.vd h9⟩
  | map es =>
    obtain ⟨blk, cap, en, ck, h1, h2, h3, h4⟩ := hb
    exact ⟨blk, cap, en, ck, ho.trans h1, (hw blk cap h1).trans h2, h3, fun j k x m hx hm => ⟨h.vd (h4 j k x m hx hm).1, h.vd (h4 j k x m hx hm).2⟩⟩
  | gone => exact ho.trans hb

theorem HOk.next {G : List (Nat × DV)} {c c' : Cx} (h : HOk G c) (hs : Step c c') (hl : ∀ i b n, c'.own i = some (b, n) → b < c'.w.heap.size ∧ i < c'.heap.length)
    (hi : ∀ i j b n m, c'.own i = some (b, n) → c'.own j = some (b, m) → i = j)
    (hb : ∀ i bx, c'.heap[i]? = some bx → (c.heap[i]? = some bx ∧ c'.own i = c.own i ∧ ∀ b n, c.own i = some (b, n) → c'.w.heap[b]? = c.w.heap[b]?) ∨ BoxOk c' i bx) : HOk G c' where
  barlt := fun b hb => Nat.lt_of_lt_of_le (h.barlt b (by rw [← hs.bar]; exact hb)) hs.size
  ownlt := hl
  inj := hi
  sep := fun i b n hi' hb => by
    rw [hs.bar] at hb
    obtain ⟨j, m, hj⟩ := hs.newown i b n hi' (h.barlt b hb)
    exact h.sep j b m hj hb
  box := fun i bx hx => (hb i bx hx).elim (fun ⟨h1, h2, h3⟩ => (h.box i bx h1).keep hs h2 h3) id
  glob := fun g e hg => hs.vr (h.glob g e hg)

/-- The world grew. -/
def Cx.inW (c : Cx) (w : World) : Cx := { c with w := w }
theorem HOk.grow {G : List (Nat × DV)} {c : Cx} (h : HOk G c) {w : World} (hx : Proofs.YtklkmdoakhkikaaDoor.Ext c.w w) : HOk G (c.inW w) ∧ Step c (c.inW w) := by
  have hs : Step c (c.inW w) := ⟨rfl, h.barlt, hx.os, hx.tape, hx.output, hx.size, fun b hb _ => hx.block b hb, fun i b n hi _ => ⟨i, n, hi⟩, (Step.refl c h.barlt).boxes⟩
  exact ⟨h.next hs (fun i b n hi => ⟨Nat.lt_of_lt_of_le (h.ownlt i b n hi).1 hx.size, (h.ownlt i b n hi).2⟩) h.inj (fun i bx hb => .inl ⟨hb, rfl, fun b n hn => hx.block b (h.ownlt i b n hn).1⟩), hs⟩

/-- An operation does this. -/
def Does (P : Program) (o : Oper) (a : Act) (w : World) (v : Value) (w' : World) : Prop :=
  (execOp a.eval o).run P w = .ok (.value v) w' ∨ (execOp a.eval o).run P w = .ok .skip w' ∧ v = undef

def OpOK (E : Env) (op : Op) (s : List AV) (h : List Box) (x : AV) (h' : List Box) : Prop :=
  ∀ (o : Oper) (c : Cx) (a : Act), o.op = op → c.heap = h → HOk E.G c → VS c s a.tmps →
    ∃ (c' : Cx) (v : Value), Does E.P o a c.w v c'.w ∧ c'.heap = h' ∧ HOk E.G c' ∧ VR c' x v ∧ Step c c'

def EvOK (G : List (Nat × DV)) (s : List AV) (x : Operand) (v : AV) : Prop :=
  ∀ (c : Cx) (a : Act), HOk G c → VS c s a.tmps → VR c v (a.eval x)

theorem getK_or {β : Type} {l : List β} {i : Nat} {stop : Prop} {k : β → Prop} (H : getK l i stop k) : stop ∨ ∃ x, l[i]? = some x ∧ k x := by
  cases h : l[i]? with
  | none => rw [getK_none h] at H; exact .inl H
  | some x => rw [getK_some h] at H; exact .inr ⟨x, rfl, H⟩

theorem evalK_sound {G : List (Nat × DV)} {s : List AV} {x : Operand} {stop : Prop} {k : AV → Prop} (H : evalK G s x stop k) : stop ∨ ∃ v, EvOK G s x v ∧ k v := by
  cases x with
  | tmp t =>
    rcases getK_or H with h | ⟨v, hv, h⟩
    · exact .inl h
    refine .inr ⟨v, fun c a _ hs => ?_, h⟩
    have hl : t < a.tmps.size := by
      rw [← hs.1]
      rcases Nat.lt_or_ge t s.length with h | h
      · exact h
      · rw [List.getElem?_eq_none h] at hv; cases hv
    have := hs.2 t v a.tmps[t] hv (by simp [hl])
    simpa [Act.eval, hl] using this
  | const v =>
    simp only [evalK, constK] at H
    split at H <;> first
      | exact .inl H
      | exact .inr ⟨_, fun c a _ _ => .d _ _ (ofV_vd rfl), H⟩
  | global g =>
    simp only [evalK] at H
    have : ∀ l : List (Nat × DV), (∀ p ∈ l, p ∈ G) → globK l g stop k → stop ∨ ∃ v, EvOK G s (.global g) v ∧ k v := by
      intro l
      induction l with
      | nil => exact fun _ h => .inl h
      | cons p l ih =>
        intro hm h
        obtain ⟨g', e⟩ := p
        simp only [globK] at h
        split at h
        · rename_i hg
          obtain rfl : g' = g := Nat.eq_of_beq_eq_true hg
          exact .inr ⟨_, fun c a ho _ => ho.glob g' e (hm _ (List.mem_cons_self ..)), h⟩
        · exact ih (fun p hp => hm p (List.mem_cons_of_mem _ hp)) h
    exact this G (fun _ h => h) H
  | func f => exact .inr ⟨_, fun c a _ _ => .fn _ _ _ _ _ rfl rfl (fun j x v h => by simp at h) (fun j x v h => by simp at h), H⟩

theorem OpOK.quiet {E : Env} {op : Op} {s : List AV} {h : List Box} {x : AV}
    (H : ∀ (o : Oper) (c : Cx) (a : Act), o.op = op → c.heap = h → HOk E.G c → VS c s a.tmps → ∃ v, (execOp a.eval o).run E.P c.w = .ok (.value v) c.w ∧ VR c x v) : OpOK E op s h x h :=
  fun o c a h1 h2 h3 h4 => let ⟨v, h5, h6⟩ := H o c a h1 h2 h3 h4; ⟨c, v, .inl h5, h2, h3, h6, Step.refl c h3.barlt⟩

theorem ok_move {E : Env} {s : List AV} {h : List Box} {x : Operand} {v : AV} (hx : EvOK E.G s x v) : OpOK E (.move x) s h v h :=
  .quiet fun o c a h1 _ h3 h4 => ⟨_, by simp only [execOp, h1]; rfl, hx c a h3 h4⟩
theorem ok_assign {E : Env} {s : List AV} {h : List Box} {x : Operand} {v : AV} (hx : EvOK E.G s x v) : OpOK E (.assign x) s h v h :=
  .quiet fun o c a h1 _ h3 h4 => ⟨_, by simp only [execOp, h1]; rfl, hx c a h3 h4⟩

end Go.Eng
