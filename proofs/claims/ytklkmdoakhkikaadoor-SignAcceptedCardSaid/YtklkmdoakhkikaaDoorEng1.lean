/- The engine, part 1: pure values, what they mean in a world, and how a world goes on. Plain definitions and lemmas over any program; no conditions. -/
import Derived.Test.YtklkmdoakhkikaaDoorBase
namespace Go.Eng
open Go

/-- A pure value: data that is not changed any more. -/
inductive DV where
  | undef
  | bool (b : Bool)
  | int (k : IntKind) (n : Int)
  | str (s : List UInt8)
  | nilsl
  | sl (l : List DV)
  | agg (c : List DV)
  | tup (c : List DV)
  | nilptr | nilfn | nilmap | nilif
  | fn (f : Fn)

/-- The cells of a value in memory. -/
def DV.cells : DV → List DV
  | .agg c => c
  | x => [x]

/-- A value of the abstract machine: pure, or with references to its own boxes. -/
inductive AV where
  | any
  | d (x : DV)
  | own (b g : Nat)
  | ptr (b off : Nat)
  | aptr (b g i off : Nat)
  | eptr (e : DV) (off : Nat)
  | map (b : Nat)
  | agg (c : List AV)
  | tup (c : List AV)
  | fn (f : Fn) (first captured : List AV)

def AV.cells : AV → List AV
  | .agg c => c
  | .d x => x.cells.map .d
  | x => [x]

/-- A box of the activation's own: a variable, an array (generation, the element's type and its cells, elements), a map; gone: no more used. -/
inductive Box where
  | cells (c : List AV)
  | arr (g : Nat) (ts : Nat × Nat) (l : List DV)
  | map (es : List (DV × DV))
  | gone

/-- A value of the model is a pure value, in a world; 'bad' blocks hold none of it. -/
inductive VD (bad : Nat → Prop) (w : World) : DV → Value → Prop
  | undef : VD bad w .undef Go.undef
  | bool (b : Bool) : VD bad w (.bool b) (.bool b)
  | int (k : IntKind) (n : Int) : VD bad w (.int k n) (.int k n)
  | str (l : List UInt8) : VD bad w (.str l) (.string ⟨l.toArray⟩)
  | nilsl : VD bad w .nilsl (.slice none 0 0)
  | slnil : VD bad w (.sl []) (.slice none 0 0)
  | slz (a : Addr) : VD bad w (.sl []) (.slice (some a) 0 0)
  | sl (l : List DV) (blk off cap sz : Nat) (f : Nat → Nat → Value) (hb : l ≠ [] → ¬ bad blk) (hsz : 0 < sz) (hcap : l.length ≤ cap)
      (hlen : ∀ (i : Nat) (e : DV), l[i]? = some e → e.cells.length = sz)
      (hcell : ∀ (i j : Nat) (e x : DV), l[i]? = some e → e.cells[j]? = some x → w.cell? ⟨blk, off + (i * sz + j), none⟩ = some (f i j))
      (hval : ∀ (i j : Nat) (e x : DV), l[i]? = some e → e.cells[j]? = some x → VD bad w x (f i j))
      (hone : ∀ (i j : Nat) (e x : DV), l[i]? = some e → e.cells[j]? = some x → (f i j).oneCell' = true) :
      VD bad w (.sl l) (.slice (some ⟨blk, off, none⟩) l.length cap)
  | agg (c : List DV) (vs : Array Value) (hlen : c.length = vs.size) (hval : ∀ (j : Nat) (x : DV) (v : Value), c[j]? = some x → vs[j]? = some v → VD bad w x v) : VD bad w (.agg c) (.agg vs)
  | tup (c : List DV) (vs : Array Value) (hlen : c.length = vs.size) (hval : ∀ (j : Nat) (x : DV) (v : Value), c[j]? = some x → vs[j]? = some v → VD bad w x v) : VD bad w (.tup c) (.tuple vs)
  | nilptr : VD bad w .nilptr (.pointer none)
  | nilfn : VD bad w .nilfn .nilFunc
  | nilmap : VD bad w .nilmap (.map none)
  | nilif : VD bad w .nilif .nilIface
  | fn (f : Fn) : VD bad w (.fn f) (.func f #[] #[])

theorem VD.mono {bad bad' : Nat → Prop} {w w' : World} (h : ∀ b, b < w.heap.size → ¬ bad b → ¬ bad' b ∧ w'.heap[b]? = w.heap[b]?) {x : DV} {v : Value} (hv : VD bad w x v) : VD bad' w' x v := by
  induction hv with
  | undef => exact .undef
  | bool b => exact .bool b
  | int k n => exact .int k n
  | str l => exact .str l
  | nilsl => exact .nilsl
  | slnil => exact .slnil
  | slz a => exact .slz a
  | sl l blk off cap sz f hb hsz hcap hlen hcell hval hone ih =>
    have key : l ≠ [] → blk < w.heap.size := fun hne => by
      obtain ⟨e, r, rfl⟩ := List.exists_cons_of_ne_nil hne
      have h1 := hlen 0 e rfl
      obtain ⟨x, hx⟩ : ∃ x, e.cells[0]? = some x := ⟨e.cells[0]'(by omega), by simp⟩
      exact World.block_lt_of_cell? _ _ (hcell 0 0 e x rfl hx)
    refine .sl l blk off cap sz f (fun hne => (h blk (key hne) (hb hne)).1) hsz hcap hlen (fun i j e x he hx => ?_) ih hone
    have hne : l ≠ [] := fun h0 => by subst h0; simp at he
    rw [World.cell?_of_block (h blk (key hne) (hb hne)).2]
    exact hcell i j e x he hx
  | agg c vs hlen hval ih => exact .agg c vs hlen ih
  | tup c vs hlen hval ih => exact .tup c vs hlen ih
  | nilptr => exact .nilptr
  | nilfn => exact .nilfn
  | nilmap => exact .nilmap
  | nilif => exact .nilif
  | fn f => exact .fn f

/-- What the abstract machine's own boxes are in the model. -/
structure Cx where
  own : Nat → Option (Nat × Nat)
  heap : List Box
  bar : Nat → Prop
  w : World

/-- Blocks in which no pure value may lie. -/
def Cx.bad (c : Cx) (b : Nat) : Prop := c.bar b ∨ ∃ i n, c.own i = some (b, n)

inductive VR (c : Cx) : AV → Value → Prop
  | any (v : Value) : VR c .any v
  | d (x : DV) (v : Value) (h : VD c.bad c.w x v) : VR c (.d x) v
  | own (b g : Nat) (sz : Nat × Nat) (l : List DV) (blk cap : Nat) (hb : c.heap[b]? = some (.arr g sz l)) (ho : c.own b = some (blk, cap)) : VR c (.own b g) (.slice (some ⟨blk, 0, none⟩) l.length cap)
  | ownnil (b g : Nat) (sz : Nat × Nat) (hb : c.heap[b]? = some (.arr g sz [])) (ho : c.own b = none) : VR c (.own b g) (.slice none 0 0)
  | ownold (b g g' : Nat) (sz : Nat × Nat) (l : List DV) (v : Value) (hb : c.heap[b]? = some (.arr g' sz l)) (hg : g < g') (hv : v.oneCell' = true) : VR c (.own b g) v
  | owngone (b g : Nat) (v : Value) (hb : c.heap[b]? = some .gone) (hv : v.oneCell' = true) : VR c (.own b g) v
  | ptr (b off : Nat) (cs : List AV) (blk cap : Nat) (hb : c.heap[b]? = some (.cells cs)) (ho : c.own b = some (blk, cap)) : VR c (.ptr b off) (.pointer (some ⟨blk, off, none⟩))
  | ptrgone (b off : Nat) (v : Value) (hb : c.heap[b]? = some .gone) (hv : v.oneCell' = true) : VR c (.ptr b off) v
  | aptr (b g i off : Nat) (sz : Nat × Nat) (l : List DV) (blk cap : Nat) (hb : c.heap[b]? = some (.arr g sz l)) (ho : c.own b = some (blk, cap)) (hi : i < l.length) : VR c (.aptr b g i off) (.pointer (some ⟨blk, i * sz.2 + off, none⟩))
  | aptrold (b g g' i off : Nat) (sz : Nat × Nat) (l : List DV) (v : Value) (hb : c.heap[b]? = some (.arr g' sz l)) (hg : g < g') (hv : v.oneCell' = true) : VR c (.aptr b g i off) v
  | aptrgone (b g i off : Nat) (v : Value) (hb : c.heap[b]? = some .gone) (hv : v.oneCell' = true) : VR c (.aptr b g i off) v
  | eptr (e : DV) (off blk o : Nat) (f : Nat → Value) (hb : ¬ c.bad blk) (hne : e.cells ≠ [])
      (hcell : ∀ (j : Nat) (x : DV), e.cells[j]? = some x → c.w.cell? ⟨blk, o + j, none⟩ = some (f j)) (hval : ∀ (j : Nat) (x : DV), e.cells[j]? = some x → VD c.bad c.w x (f j)) :
      VR c (.eptr e off) (.pointer (some ⟨blk, o + off, none⟩))
  | map (b : Nat) (es : List (DV × DV)) (blk cap : Nat) (hb : c.heap[b]? = some (.map es)) (ho : c.own b = some (blk, cap)) : VR c (.map b) (.map (some blk))
  | mapgone (b : Nat) (v : Value) (hb : c.heap[b]? = some .gone) (hv : v.oneCell' = true) : VR c (.map b) v
  | agg (a : List AV) (vs : Array Value) (hlen : a.length = vs.size) (hval : ∀ (j : Nat) (x : AV) (v : Value), a[j]? = some x → vs[j]? = some v → VR c x v) : VR c (.agg a) (.agg vs)
  | tup (a : List AV) (vs : Array Value) (hlen : a.length = vs.size) (hval : ∀ (j : Nat) (x : AV) (v : Value), a[j]? = some x → vs[j]? = some v → VR c x v) : VR c (.tup a) (.tuple vs)
  | fn (f : Fn) (a1 a2 : List AV) (v1 v2 : Array Value) (hl1 : a1.length = v1.size) (hl2 : a2.length = v2.size)
      (h1 : ∀ (j : Nat) (x : AV) (v : Value), a1[j]? = some x → v1[j]? = some v → VR c x v)
      (h2 : ∀ (j : Nat) (x : AV) (v : Value), a2[j]? = some x → v2[j]? = some v → VR c x v) : VR c (.fn f a1 a2) (.func f v1 v2)

/-- What a box has become. -/
def BoxStep (c c' : Cx) (i : Nat) : Box → Prop
  | .cells cs => (∃ cs', c'.heap[i]? = some (.cells cs') ∧ c'.own i = c.own i ∧ cs'.length = cs.length) ∨ c'.heap[i]? = some .gone
  | .arr g sz l => (∃ g' l', c'.heap[i]? = some (.arr g' sz l') ∧ (g < g' ∨ g' = g ∧ l'.length = l.length ∧ c'.own i = c.own i)) ∨ c'.heap[i]? = some .gone
  | .map _ => (∃ es', c'.heap[i]? = some (.map es') ∧ c'.own i = c.own i) ∨ c'.heap[i]? = some .gone
  | .gone => c'.heap[i]? = some .gone

structure Step (c c' : Cx) : Prop where
  bar : c'.bar = c.bar
  barlt : ∀ b, c.bar b → b < c.w.heap.size
  os : c'.w.os = c.w.os
  tape : c'.w.tape = c.w.tape
  output : c'.w.output = c.w.output
  size : c.w.heap.size ≤ c'.w.heap.size
  keep : ∀ b, b < c.w.heap.size → (∀ i n, c.own i ≠ some (b, n)) → c'.w.heap[b]? = c.w.heap[b]?
  newown : ∀ i b n, c'.own i = some (b, n) → b < c.w.heap.size → ∃ j m, c.own j = some (b, m)
  boxes : ∀ i bx, c.heap[i]? = some bx → BoxStep c c' i bx

theorem Step.refl (c : Cx) (hb : ∀ b, c.bar b → b < c.w.heap.size) : Step c c :=
  ⟨rfl, hb, rfl, rfl, rfl, Nat.le_refl _, fun _ _ _ => rfl, fun i b n h _ => ⟨i, n, h⟩, fun i bx h => by
    cases bx with
    | cells cs => exact .inl ⟨cs, h, rfl, rfl⟩
    | arr g sz l => exact .inl ⟨g, l, h, .inr ⟨rfl, rfl, rfl⟩⟩
    | map es => exact .inl ⟨es, h, rfl⟩
    | gone => exact h⟩

theorem Step.trans {a b c : Cx} (h : Step a b) (k : Step b c) : Step a c where
  bar := k.bar.trans h.bar
  barlt := h.barlt
  os := k.os.trans h.os
  tape := k.tape.trans h.tape
  output := k.output.trans h.output
  size := Nat.le_trans h.size k.size
  keep := fun x hx hn => by
    rw [k.keep x (Nat.lt_of_lt_of_le hx h.size) (fun i n hi => by obtain ⟨j, m, hj⟩ := h.newown i x n hi hx; exact hn j m hj)]
    exact h.keep x hx hn
  newown := fun i x n hi hx => by
    obtain ⟨j, m, hj⟩ := k.newown i x n hi (Nat.lt_of_lt_of_le hx h.size)
    exact h.newown j x m hj hx
  boxes := fun i bx hi => by
    have h1 := h.boxes i bx hi
    cases bx with
    | cells cs =>
      rcases h1 with ⟨cs', h1, h2, h3⟩ | h1
      · rcases k.boxes i _ h1 with ⟨cs'', k1, k2, k3⟩ | k1
        · exact .inl ⟨cs'', k1, k2.trans h2, k3.trans h3⟩
        · exact .inr k1
      · exact .inr (k.boxes i _ h1)
    | arr g sz l =>
      rcases h1 with ⟨g', l', h1, h2⟩ | h1
      · rcases k.boxes i _ h1 with ⟨g'', l'', k1, k2⟩ | k1
        · refine .inl ⟨g'', l'', k1, ?_⟩
          rcases h2 with h2 | ⟨h2, h3, h4⟩ <;> rcases k2 with k2 | ⟨k2, k3, k4⟩
          · left; omega
          · left; omega
          · left; omega
          · exact .inr ⟨k2.trans h2, k3.trans h3, k4.trans h4⟩
        · exact .inr k1
      · exact .inr (k.boxes i _ h1)
    | map es =>
      rcases h1 with ⟨es', h1, h2⟩ | h1
      · rcases k.boxes i _ h1 with ⟨es'', k1, k2⟩ | k1
        · exact .inl ⟨es'', k1, k2.trans h2⟩
        · exact .inr k1
      · exact .inr (k.boxes i _ h1)
    | gone => exact k.boxes i _ h1

theorem Step.badOf {c c' : Cx} (h : Step c c') (b : Nat) (hb : b < c.w.heap.size) (hn : ¬ c.bad b) : ¬ c'.bad b ∧ c'.w.heap[b]? = c.w.heap[b]? := by
  have h0 : ∀ i n, c.own i ≠ some (b, n) := fun i n hi => hn (.inr ⟨i, n, hi⟩)
  refine ⟨?_, h.keep b hb h0⟩
  rintro (h1 | ⟨i, n, h1⟩)
  · exact hn (.inl (by rw [← h.bar]; exact h1))
  · obtain ⟨j, m, hj⟩ := h.newown i b n h1 hb
    exact h0 j m hj

theorem Step.vd {c c' : Cx} (h : Step c c') {x : DV} {v : Value} (hv : VD c.bad c.w x v) : VD c'.bad c'.w x v := hv.mono h.badOf

theorem vr_gen {c c' : Cx} (hbad : ∀ b, b < c.w.heap.size → ¬ c.bad b → ¬ c'.bad b ∧ c'.w.heap[b]? = c.w.heap[b]?) (hbox : ∀ i bx, c.heap[i]? = some bx → BoxStep c c' i bx) {x : AV} {v : Value} (hv : VR c x v) : VR c' x v := by
  induction hv with
  | any v => exact .any v
  | d x v hx => exact .d x v (hx.mono hbad)
  | own b g sz l blk cap hb ho =>
    rcases hbox b _ hb with ⟨g', l', h1, h2 | ⟨rfl, h3, h4⟩⟩ | h1
    · exact .ownold b g g' sz l' _ h1 h2 rfl
    · rw [← h3]; exact .own b g' sz l' blk cap h1 (h4.trans ho)
    · exact .owngone b g _ h1 rfl
  | ownnil b g sz hb ho =>
    rcases hbox b _ hb with ⟨g', l', h1, h2 | ⟨rfl, h3, h4⟩⟩ | h1
    · exact .ownold b g g' sz l' _ h1 h2 rfl
    · obtain rfl : l' = [] := List.eq_nil_of_length_eq_zero (by simpa using h3)
      exact .ownnil b g' sz h1 (h4.trans ho)
    · exact .owngone b g _ h1 rfl
  | ownold b g g1 sz l v hb hg hv =>
    rcases hbox b _ hb with ⟨g', l', h1, h2 | ⟨rfl, h3, h4⟩⟩ | h1
    · exact .ownold b g g' sz l' _ h1 (by omega) hv
    · exact .ownold b g g' sz l' _ h1 hg hv
    · exact .owngone b g _ h1 hv
  | owngone b g v hb hv => exact .owngone b g v (hbox b _ hb) hv
  | ptr b off cs blk cap hb ho =>
    rcases hbox b _ hb with ⟨cs', h1, h2, h3⟩ | h1
    · exact .ptr b off cs' blk cap h1 (h2.trans ho)
    · exact .ptrgone b off _ h1 rfl
  | ptrgone b off v hb hv => exact .ptrgone b off v (hbox b _ hb) hv
  | aptr b g i off sz l blk cap hb ho hi =>
    rcases hbox b _ hb with ⟨g', l', h1, h2 | ⟨rfl, h3, h4⟩⟩ | h1
    · exact .aptrold b g g' i off sz l' _ h1 h2 rfl
    · exact .aptr b g' i off sz l' blk cap h1 (h4.trans ho) (by omega)
    · exact .aptrgone b g i off _ h1 rfl
  | aptrold b g g1 i off sz l v hb hg hv =>
    rcases hbox b _ hb with ⟨g', l', h1, h2 | ⟨rfl, h3, h4⟩⟩ | h1
    · exact .aptrold b g g' i off sz l' _ h1 (by omega) hv
    · exact .aptrold b g g' i off sz l' _ h1 hg hv
    · exact .aptrgone b g i off _ h1 hv
  | aptrgone b g i off v hb hv => exact .aptrgone b g i off v (hbox b _ hb) hv
  | eptr e off blk o f hb hne hcell hval =>
    have hlt : blk < c.w.heap.size := by
      obtain ⟨x, r, hx⟩ := List.exists_cons_of_ne_nil hne
      exact World.block_lt_of_cell? _ _ (hcell 0 x (by rw [hx]; rfl))
    have hk := hbad blk hlt hb
    exact .eptr e off blk o f hk.1 hne (fun j x hx => by rw [World.cell?_of_block hk.2]; exact hcell j x hx) (fun j x hx => (hval j x hx).mono hbad)
  | map b es blk cap hb ho =>
    rcases hbox b _ hb with ⟨es', h1, h2⟩ | h1
    · exact .map b es' blk cap h1 (h2.trans ho)
    · exact .mapgone b _ h1 rfl
  | mapgone b v hb hv => exact .mapgone b v (hbox b _ hb) hv
  | agg a vs hlen hval ih => exact .agg a vs hlen ih
  | tup a vs hlen hval ih => exact .tup a vs hlen ih
  | fn f a1 a2 v1 v2 hl1 hl2 h1 h2 ih1 ih2 => exact .fn f a1 a2 v1 v2 hl1 hl2 ih1 ih2

theorem Step.vr {c c' : Cx} (h : Step c c') {x : AV} {v : Value} (hv : VR c x v) : VR c' x v := vr_gen h.badOf h.boxes hv

end Go.Eng
