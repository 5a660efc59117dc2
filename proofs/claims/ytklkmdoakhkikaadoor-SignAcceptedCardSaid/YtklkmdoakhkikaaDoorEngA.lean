/- The engine, part A: append and make. No conditions. -/
import Derived.Test.YtklkmdoakhkikaaDoorEng11
import Derived.Laws.AppendOwn
import Derived.Laws.MakeOwn
namespace Go.Eng
open Go Go.RowKit

/-- A fact that is owed. -/
@[irreducible] def need (C K : Prop) : Prop := C ∧ K
theorem need_intro {C K : Prop} (h : C) (k : K) : need C K := by unfold need; exact ⟨h, k⟩
theorem need_elim {C K : Prop} (h : need C K) : C ∧ K := by unfold need at h; exact h

def byteD (b : UInt8) : DV := .int .u8 b.toNat

def two {β : Type} (l : List β) (stop : Prop) (k : β → β → Prop) : Prop :=
  match l with
  | [a, b] => k a b
  | _ => stop
theorem two_or {β : Type} {l : List β} {stop : Prop} {k : β → β → Prop} (H : two l stop k) : stop ∨ ∃ a b, l = [a, b] ∧ k a b := by
  unfold two at H
  split at H
  · exact .inr ⟨_, _, rfl, H⟩
  · exact .inl H

def finK (e : Nat) (ei : TInfo) (h : List Box) (a : AV) (m : List DV) (stop : Prop) (k : AV → List Box → Prop) : Prop :=
  match a with
  | .d .nilsl => need (m.length ≤ 2147483648 ∧ ∀ e ∈ m, e.cells.length = ei.size) (snocK h (.arr 1 (e, ei.size) m) 0 fun h' n => k (.own n 1) h')
  | .own b g => getK h b stop fun
    | .arr g' ts l => match Nat.beq g g', Nat.beq ts.1 e, Nat.beq ts.2 ei.size with
      | true, true, true => need (l.length + m.length ≤ 2147483648 ∧ ∀ e ∈ m, e.cells.length = ei.size) (setK h b (.arr (g + 1) ts (l ++ m)) fun h' => k (.own b (g + 1)) h')
      | _, _, _ => stop
    | _ => stop
  | _ => stop

def appK (T : List TInfo) (G : List (Nat × DV)) (o : Op) (s : List AV) (h : List Box) (stop : Prop) (k : AV → List Box → Prop) : Prop :=
  match o with
  | .call { callee := .builtin .append, args := args, argTypes := ts } => two args.toList stop fun x y => two ts.toList stop fun t0 t1 => getK T t0 stop fun i0 => getK T t1 stop fun i1 =>
    match i0.k with
    | .slice e => getK T e stop fun ei => match Nat.beq ei.zero.length ei.size, Nat.blt 0 ei.size, Nat.ble ei.bytes 65536 with
      | true, true, true => evalK G s x stop fun a => evalK G s y stop fun b =>
        match i1.k, b with
        | .slice _, .d (.sl m) => finK e ei h a m stop k
        | .string, .d (.str z) => match ei.k with
          | .int .u8 => finK e ei h a (z.map byteD) stop k
          | _ => stop
        | _, _ => stop
      | _, _, _ => stop
    | _ => stop
  | .makeSlice t n c => getK T t stop fun i => match i.k with
    | .slice e => getK T e stop fun ei => match Nat.beq ei.zero.length ei.size, Nat.blt 0 ei.size, Nat.ble ei.bytes 65536, ei.zero.all DV.scal with
      | true, true, true, true => evalK G s n stop fun
        | .d (.int _ a) => evalK G s c stop fun
          | .d (.int _ b) =>
            match ei.zero with
            | [z] => need (0 ≤ a ∧ a ≤ b ∧ b ≤ 2147483648) (snocK h (.arr 0 (e, ei.size) (List.replicate a.toNat z)) 0 fun h' n => k (.own n 0) h')
            | zl => need (0 ≤ a ∧ a ≤ b ∧ b ≤ 2147483648) (snocK h (.arr 0 (e, ei.size) (List.replicate a.toNat (.agg zl))) 0 fun h' n => k (.own n 0) h')
          | _ => stop
        | _ => stop
      | _, _, _, _ => stop
    | _ => stop
  | _ => stop

theorem lt_of_getElem? {β : Type} {l : List β} {n : Nat} {e : β} (h : l[n]? = some e) : n < l.length := by
  rcases Nat.lt_or_ge n l.length with h' | h'
  · exact h'
  · rw [List.getElem?_eq_none h'] at h; cases h

section
variable {E : Env} {s : List AV} {h : List Box} {c : Cx} {G : List (Nat × DV)} {P : Program}

/-- What is appended. -/
structure Src (P : Program) (size : Nat) (w : World) (x : Value) (n : Nat) (news : List Value) : Prop where
  len : ∀ w, (Builtin.lenOf x).run P w = .ok n w
  cells : ∀ d : Nat, (Builtin.firstCells size n x).run P { w with drawn := d } = .ok news.toArray { w with drawn := d }
  one : ∀ v ∈ news, v.oneCell' = true
  size : news.length = n * size

theorem run_app_room {t0 t1 e : TypeId} {i : TypeInfo} {d1 : TypeDesc} (h0 : P.underlying t0 = some (.slice e)) (h1 : P.underlying t1 = some d1) (hd1 : ∀ k, d1 ≠ .int k) (hi : P.info? e = some i) {w : World} {g n m cap : Nat} {cur : Array Value} {x : Value} {news : List Value}
    (hg : w.heap[g]? = some (.cells cur e (0, 0))) (hs : Src P i.size w x m news) (hroom : n + m ≤ cap) (hfit : n * i.size + news.length ≤ cur.size) (ty : TypeId) :
    (Builtin.append_ #[t0, t1] ty #[.slice (some ⟨g, 0, none⟩) n cap, x]).run P w = .ok (.slice (some ⟨g, 0, none⟩) (n + m) cap) (w.setCells g (n * i.size) news) := by
  have hst := run_storeCells_cells (P := P) g (n * i.size) news 0 w (fun j hj => by
      simp only [World.cell?, hg]
      simp; omega) (fun j hj => by simp [World.frozen?, hg]) hs.one
  simp only [Nat.add_zero] at hst
  have hc := hs.cells w.drawn
  simp [Builtin.append_, run_underlying h0, run_underlying h1, Go.sizeOf, typeInfo, hi, hs.len, hroom, hc, add_at, hst]

theorem run_app_zero {t0 t1 e : TypeId} {i : TypeInfo} {d1 : TypeDesc} (h0 : P.underlying t0 = some (.slice e)) (h1 : P.underlying t1 = some d1) (hd1 : ∀ k, d1 ≠ .int k) (hi : P.info? e = some i) {w : World} {n cap : Nat} {b : Option Addr} {x : Value}
    (hs : Src P i.size w x 0 []) (hroom : n ≤ cap) (ty : TypeId) : (Builtin.append_ #[t0, t1] ty #[.slice b n cap, x]).run P w = .ok (.slice b n cap) w := by
  have hc := hs.cells w.drawn
  cases b <;> simp [Builtin.append_, run_underlying h0, run_underlying h1, Go.sizeOf, typeInfo, hi, hs.len, hroom, hc, storeCells]

theorem run_app_grow {t0 t1 e : TypeId} {i : TypeInfo} {z : Value} {d1 : TypeDesc} (h0 : P.underlying t0 = some (.slice e)) (h1 : P.underlying t1 = some d1) (hd1 : ∀ k, d1 ≠ .int k) (hi : P.info? e = some i) (hz : i.zero = some z) {w : World} {n m cap : Nat} {b : Option Addr} {x : Value} {olds news : List Value}
    (hold : ∀ d : Nat, (Builtin.firstCells i.size n (.slice b n cap)).run P { w with drawn := d } = .ok olds.toArray { w with drawn := d }) (hs : Src P i.size w x m news) (hg : cap < n + m) (h63 : n + m ≤ 2147483648) (hby : i.bytes ≤ 65536) (ty : TypeId) :
    (Builtin.append_ #[t0, t1] ty #[.slice b n cap, x]).run P w = .ok (.slice (some ⟨w.heap.size, 0, none⟩) (n + m) (grownCap w (n + m) cap e)) (w.drew.alloc (.cells (olds.toArray ++ news.toArray ++ Builtin.zeroCells z.cells (grownCap w (n + m) cap e - (n + m))) e)) := by
  have hn : ¬ (n + m ≤ cap) := by omega
  have h63' : ¬ (9223372036854775807 < ((n : Int) + (m : Int))) := by omega
  have hfit : (n + m) * i.bytes ≤ 140737488355328 := by
    calc (n + m) * i.bytes ≤ 2147483648 * 65536 := Nat.mul_le_mul h63 hby
      _ = 140737488355328 := by decide
  have h48' : ¬ (281474976710656 < Builtin.nextslicecap (n + m) cap * i.bytes) := by
    have := growslice_fits (old := cap) (need := n + m) (bytes := i.bytes) (by omega) hfit
    omega
  have hc := hs.cells w.drew.drawn
  have ho := hold w.drew.drawn
  have hc' : (Builtin.firstCells i.size m x).run P w.drew = .ok news.toArray w.drew := hc
  have ho' : (Builtin.firstCells i.size n (.slice b n cap)).run P w.drew = .ok olds.toArray w.drew := ho
  simp [Builtin.append_, run_underlying h0, run_underlying h1, Go.sizeOf, typeInfo, zeroValue, hi, hz, hs.len, hn, h63', h48', Question.forced, hc', ho', newRow, grownCap]
  congr 2
  apply Array.ext'
  simp [List.append_assoc]

/-- A slice of pure values as a source. -/
theorem src_sl {c : Cx} {m : List DV} {x : Value} {sz : Nat} (hsz : 0 < sz) (hm : ∀ e ∈ m, e.cells.length = sz) (hv : VD c.bad c.w (.sl m) x) : ∃ news : List Value, Src P sz c.w x m.length news ∧ (∀ (j : Nat) (y : DV) (v : Value), (flat m)[j]? = some y → news[j]? = some v → VD c.bad c.w y v) := by
  have hel : Elems sz m := fun i e he => hm e (List.mem_of_getElem? he)
  cases hv with
  | slnil => exact ⟨[], ⟨fun _ => rfl, fun _ => rfl, fun v hv => by simp at hv, by simp⟩, fun j y v hy => by simp [flat] at hy⟩
  | slz a => exact ⟨[], ⟨fun _ => rfl, fun _ => by simp [Builtin.firstCells, loadCells, loadCellsFrom], fun v hv => by simp at hv, by simp⟩, fun j y v hy => by simp [flat] at hy⟩
  | sl _ blk off cap sz' f hb hsz' hcap hlen hcell hval hone =>
    by_cases hne : m = []
    · subst hne
      exact ⟨[], ⟨fun _ => rfl, fun _ => by simp [Builtin.firstCells, loadCells, loadCellsFrom], fun v hv => by simp at hv, by simp⟩, fun j y v hy => by simp [flat] at hy⟩
    obtain ⟨e0, r, hr⟩ := List.exists_cons_of_ne_nil hne
    have hzz : sz' = sz := (hlen 0 e0 (by rw [hr]; rfl)).symm.trans (hm e0 (by rw [hr]; simp))
    subst hzz
    have at_ : ∀ (idx : Nat), idx < m.length * sz' → ∃ (i j : Nat) (e y : DV), idx = i * sz' + j ∧ j < sz' ∧ m[i]? = some e ∧ e.cells[j]? = some y ∧ idx / sz' = i ∧ idx % sz' = j := fun idx hidx => by
      have hd : idx / sz' < m.length := Nat.div_lt_of_lt_mul (by rw [Nat.mul_comm]; exact hidx)
      have hmod : idx % sz' < sz' := Nat.mod_lt _ hsz
      have hl : idx % sz' < m[idx / sz'].cells.length := by rw [hlen _ _ (List.getElem?_eq_getElem hd)]; exact hmod
      exact ⟨idx / sz', idx % sz', m[idx / sz'], m[idx / sz'].cells[idx % sz'], by rw [Nat.mul_comm]; exact (Nat.div_add_mod idx sz').symm, hmod, List.getElem?_eq_getElem hd, List.getElem?_eq_getElem hl, rfl, rfl⟩
    have hget : ∀ (j : Nat) (v : Value), ((List.range (m.length * sz')).map fun idx => f (idx / sz') (idx % sz'))[j]? = some v → j < m.length * sz' ∧ v = f (j / sz') (j % sz') := fun j v hv => by
      have hj : j < m.length * sz' := by have := lt_of_getElem? hv; simpa using this
      simp [hj] at hv
      exact ⟨hj, hv.symm⟩
    refine ⟨(List.range (m.length * sz')).map fun idx => f (idx / sz') (idx % sz'), ⟨fun _ => rfl, fun d => ?_, fun v hv => ?_, by simp⟩, fun j y v hy hv => ?_⟩
    · have := run_loadCells_list (P := P) { c.w with drawn := d } ⟨blk, off, none⟩ ((List.range (m.length * sz')).map fun idx => f (idx / sz') (idx % sz')) (fun j v hv => by
        obtain ⟨hj, rfl⟩ := hget j v hv
        obtain ⟨i, jj, e, y, e1, e2, e3, e4, e5, e6⟩ := at_ j hj
        rw [add_at, e5, e6, e1]
        exact hcell i jj e y e3 e4)
      simpa [Builtin.firstCells] using this
    · obtain ⟨j, hjv⟩ := List.getElem?_of_mem hv
      obtain ⟨hj, rfl⟩ := hget j v hjv
      obtain ⟨i, jj, e, y, e1, e2, e3, e4, e5, e6⟩ := at_ j hj
      rw [e5, e6]
      exact hone i jj e y e3 e4
    · obtain ⟨hj, rfl⟩ := hget j v hv
      obtain ⟨i, jj, e, y', e1, e2, e3, e4, e5, e6⟩ := at_ j hj
      have := flat_get hel e3 e2
      rw [← e1, hy, e4] at this
      cases this
      rw [e5, e6]
      exact hval i jj e y e3 e4

theorem src_str {c : Cx} {z : List UInt8} : Src P 1 c.w (.string ⟨z.toArray⟩) (z.map byteD).length (z.map fun b => Value.int .u8 b.toNat) ∧ (∀ (j : Nat) (y : DV) (v : Value), (flat (z.map byteD))[j]? = some y → (z.map fun b => Value.int .u8 b.toNat)[j]? = some v → VD c.bad c.w y v) := by
  have hflat : flat (z.map byteD) = z.map byteD := by
    induction z with
    | nil => rfl
    | cons b z ih => simp only [List.map_cons, flat, List.flatMap_cons] at ih ⊢; rw [ih]; rfl
  refine ⟨⟨fun _ => by simp [Builtin.lenOf, ByteArray.size], fun d => ?_, fun v hv => ?_, by simp⟩, fun j y v hy hv => ?_⟩
  · simp [Builtin.firstCells]
  · obtain ⟨b, -, rfl⟩ := List.mem_map.1 hv; rfl
  · rw [hflat] at hy
    rw [List.getElem?_map] at hy hv
    cases hz : z[j]? with
    | none => rw [hz] at hy; cases hy
    | some b => rw [hz] at hy hv; cases hy; cases hv; exact .int _ _

/-- The cells of an own array, in a row. -/
def FlatOk (c : Cx) (l : List DV) (vs : List Value) : Prop := ∀ (idx : Nat) (y : DV), (flat l)[idx]? = some y → ∃ v, vs[idx]? = some v ∧ v.oneCell' = true ∧ VD c.bad c.w y v
theorem FlatOk.ij {c : Cx} {l : List DV} {vs : Array Value} {sz : Nat} (hel : Elems sz l) (h : FlatOk c l vs.toList) : ∀ (i j : Nat) (e x : DV), l[i]? = some e → e.cells[j]? = some x → ∃ v, vs[i * sz + j]? = some v ∧ v.oneCell' = true ∧ VD c.bad c.w x v := fun i j e x he hx => by
  have hj : j < sz := by rw [← hel i e he]; exact lt_of_getElem? hx
  obtain ⟨v, h1, h2⟩ := h (i * sz + j) x (by rw [flat_get hel he hj]; exact hx)
  exact ⟨v, by simpa using h1, h2⟩
theorem FlatOk.of_ij {c : Cx} {l : List DV} {vs : Array Value} {sz : Nat} (hsz : 0 < sz) (hel : Elems sz l) (h : ∀ (i j : Nat) (e x : DV), l[i]? = some e → e.cells[j]? = some x → ∃ v, vs[i * sz + j]? = some v ∧ v.oneCell' = true ∧ VD c.bad c.w x v) : FlatOk c l vs.toList := fun idx y hy => by
  have hlt := lt_of_getElem? hy
  rw [flat_length hel] at hlt
  have hd : idx / sz < l.length := Nat.div_lt_of_lt_mul (by rw [Nat.mul_comm]; exact hlt)
  have hmod : idx % sz < sz := Nat.mod_lt _ hsz
  have h1 := flat_get hel (List.getElem?_eq_getElem hd) hmod
  have e1 : idx / sz * sz + idx % sz = idx := by rw [Nat.mul_comm]; exact Nat.div_add_mod idx sz
  rw [e1, hy] at h1
  obtain ⟨v, h2, h3⟩ := h (idx / sz) (idx % sz) _ y (List.getElem?_eq_getElem hd) h1.symm
  rw [e1] at h2
  exact ⟨v, by simpa using h2, h3⟩
theorem FlatOk.append {c : Cx} {l m : List DV} {vs news : List Value} {tail : List Value} {sz : Nat} (hel : Elems sz l) (hl : FlatOk c l vs) (hvs : l.length * sz ≤ vs.length) (hone : ∀ v ∈ news, v.oneCell' = true) (hlen : news.length = (flat m).length) (hn : ∀ (j : Nat) (y : DV) (v : Value), (flat m)[j]? = some y → news[j]? = some v → VD c.bad c.w y v) :
    FlatOk c (l ++ m) (vs.take (l.length * sz) ++ news ++ tail) := fun idx y hy => by
  rw [flat_append] at hy
  have hfl := flat_length hel
  have htk : (vs.take (l.length * sz)).length = l.length * sz := by simp; omega
  rcases Nat.lt_or_ge idx (l.length * sz) with h | h
  · rw [List.getElem?_append_left (by omega)] at hy
    obtain ⟨v, h1, h2⟩ := hl idx y hy
    refine ⟨v, ?_, h2⟩
    rw [List.append_assoc, List.getElem?_append_left (by omega), List.getElem?_take, if_pos h]
    exact h1
  · rw [List.getElem?_append_right (by omega), hfl] at hy
    have hlt := lt_of_getElem? hy
    have hidx : idx - l.length * sz < news.length := by omega
    refine ⟨news[idx - l.length * sz], ?_, hone _ (List.getElem_mem hidx), hn _ y _ hy (by simp [hidx])⟩
    rw [List.append_assoc, List.getElem?_append_right (by omega), htk, List.getElem?_append_left hidx]
    simp [hidx]

theorem FlatOk.step {c c' : Cx} (hs : Step c c') {l : List DV} {vs : List Value} (h : FlatOk c l vs) : FlatOk c' l vs := fun idx y hy => by
  obtain ⟨v, h1, h2, h3⟩ := h idx y hy
  exact ⟨v, h1, h2, hs.vd h3⟩

theorem elems_append {sz : Nat} {l m : List DV} (hl : Elems sz l) (hm : ∀ e ∈ m, e.cells.length = sz) : Elems sz (l ++ m) := fun i e he => by
  rcases Nat.lt_or_ge i l.length with h | h
  · rw [List.getElem?_append_left h] at he; exact hl i e he
  · rw [List.getElem?_append_right h] at he; exact hm e (List.mem_of_getElem? he)

/-- An own array in another block, with other elements. -/
def Cx.regrow (c : Cx) (b g : Nat) (ts : Nat × Nat) (l : List DV) (own : Option (Nat × Nat)) (w : World) : Cx := { c with own := fun i => if i = b then own else c.own i, heap := c.heap.set b (.arr g ts l), w := w }

theorem HOk.regrow {G : List (Nat × DV)} (ho : HOk G c) {b g : Nat} {ts : Nat × Nat} {l l' : List DV} (hb : c.heap[b]? = some (.arr g ts l)) {w : World} (own : Option (Nat × Nat)) (hos : w.os = c.w.os) (htape : w.tape = c.w.tape) (hout : w.output = c.w.output) (hsize : c.w.heap.size ≤ w.heap.size)
    (hkeep : ∀ k, k < c.w.heap.size → (∀ n, c.own b ≠ some (k, n)) → w.heap[k]? = c.w.heap[k]?) (hown : ∀ k n, own = some (k, n) → k < w.heap.size ∧ (k < c.w.heap.size → ∃ m, c.own b = some (k, m))) :
    let c' := c.regrow b (g + 1) ts l' own w
    Step c c' ∧ ((Elems ts.2 l' ∧ ((own = none ∧ l' = []) ∨ ∃ (blk cap : Nat) (vs : Array Value), own = some (blk, cap) ∧ w.heap[blk]? = some (.cells vs ts.1 (0, 0)) ∧ vs.size = cap * ts.2 ∧ l'.length ≤ cap ∧ cap ≤ maxLen ∧ FlatOk c' l' vs.toList)) → HOk G c') := by
  intro c'
  have hbl := lt_of_getElem? hb
  have hst : Step c c' := {
    bar := rfl
    barlt := ho.barlt
    os := hos
    tape := htape
    output := hout
    size := hsize
    keep := fun x hx hn => hkeep x hx (fun n => hn b n)
    newown := fun i x n hi hx => by
      simp only [c', Cx.regrow] at hi
      split at hi
      · obtain ⟨m, hm⟩ := (hown x n hi).2 hx; exact ⟨b, m, hm⟩
      · exact ⟨i, n, hi⟩
    boxes := fun i bx hi => by
      by_cases hib : i = b
      · subst hib
        rw [hb] at hi
        cases hi
        exact .inl ⟨g + 1, l', by show (c.heap.set i _)[i]? = _; rw [List.getElem?_set_self hbl], .inl (Nat.lt_succ_self _)⟩
      · have h' : c'.heap[i]? = some bx := by show (c.heap.set b _)[i]? = _; rw [List.getElem?_set_ne (Ne.symm hib)]; exact hi
        have h'' : c'.own i = c.own i := by simp only [c', Cx.regrow]; rw [if_neg hib]
        cases bx with
        | cells cs => exact .inl ⟨cs, h', h'', rfl⟩
        | arr g sz l => exact .inl ⟨g, l, h', .inr ⟨rfl, rfl, h''⟩⟩
        | map es => exact .inl ⟨es, h', h''⟩
        | gone => exact h' }
  refine ⟨hst, fun hbox => ho.next hst ?_ ?_ ?_⟩
  · intro i x n hi
    have hl : c'.heap.length = c.heap.length := by simp [c', Cx.regrow]
    rw [hl]
    simp only [c', Cx.regrow] at hi
    split at hi
    · rename_i hib; subst hib; exact ⟨(hown x n hi).1, hbl⟩
    · have := ho.ownlt i x n hi; exact ⟨Nat.lt_of_lt_of_le this.1 hsize, this.2⟩
  · intro i j x n m hi hj
    simp only [c', Cx.regrow] at hi hj
    split at hi <;> split at hj
    · omega
    · rename_i h1 h2
      have := (ho.ownlt j x m hj).1
      obtain ⟨q, hq⟩ := (hown x n hi).2 this
      exact absurd (ho.inj j b x m q hj hq) h2
    · rename_i h1 h2
      have := (ho.ownlt i x n hi).1
      obtain ⟨q, hq⟩ := (hown x m hj).2 this
      exact absurd (ho.inj i b x n q hi hq) h1
    · exact ho.inj i j x n m hi hj
  · intro i bx hi
    by_cases hib : i = b
    · subst hib
      have hi' : (c.heap.set i (.arr (g + 1) ts l'))[i]? = some bx := hi
      rw [List.getElem?_set_self hbl] at hi'
      cases hi'
      right
      have hoi : c'.own i = own := by simp [c', Cx.regrow]
      obtain ⟨q0, -, -⟩ := ho.box i _ hb
      obtain ⟨hel, hor⟩ := hbox
      refine ⟨q0, hel, ?_⟩
      rcases hor with ⟨h1, h2⟩ | ⟨blk, cap, vs, h1, h2, h3, h4, h5, h6⟩
      · exact .inl ⟨hoi.trans h1, h2⟩
      · exact .inr ⟨blk, cap, vs, hoi.trans h1, h2, h3, h4, h5, h6.ij hel⟩
    · left
      have hi' : (c.heap.set b (.arr (g + 1) ts l'))[i]? = some bx := hi
      rw [List.getElem?_set_ne (Ne.symm hib)] at hi'
      refine ⟨hi', by simp only [c', Cx.regrow]; rw [if_neg hib], fun x n hn => hkeep x (ho.ownlt i x n hn).1 (fun m hm => hib (ho.inj i b x n m hn hm))⟩

theorem vr_own {b g : Nat} {ts : Nat × Nat} {l : List DV} (hb : c.heap[b]? = some (.arr g ts l)) {v : Value} (hv : VR c (.own b g) v) : (∃ blk cap, c.own b = some (blk, cap) ∧ v = .slice (some ⟨blk, 0, none⟩) l.length cap) ∨ (l = [] ∧ v = .slice none 0 0 ∧ c.own b = none) := by
  cases hv with
  | own _ _ _ l' blk cap k1 k2 => rw [hb] at k1; cases k1; exact .inl ⟨blk, cap, k2, rfl⟩
  | ownnil _ _ _ k1 k2 => rw [hb] at k1; cases k1; exact .inr ⟨rfl, rfl, k2⟩
  | ownold _ _ g' _ _ _ k1 k2 _ => rw [hb] at k1; cases k1; omega
  | owngone _ _ _ k1 _ => rw [hb] at k1; cases k1

theorem spl_eq {β : Type} {vs news : List β} {o : Nat} (h : o + news.length ≤ vs.length) : spl vs o news = vs.take o ++ news ++ vs.drop (o + news.length) := by
  have h1 : vs = vs.take o ++ (vs.drop o).take news.length ++ vs.drop (o + news.length) := by
    rw [List.append_assoc, ← List.drop_drop, List.take_append_drop, List.take_append_drop]
  have h2 : (vs.take o).length = o := by simp; omega
  have := spl_mid news (vs.take o) ((vs.drop o).take news.length) (vs.drop (o + news.length)) (by simp; omega)
  rw [← h1, h2] at this
  exact this

theorem maxLen_big {n : Nat} (h : n ≤ 2147483648) : n ≤ maxLen := by unfold maxLen; omega

theorem app_own (hok : HOk G c) {t0 t1 : TypeId} {i : TypeInfo} {z : Value} {d1 : TypeDesc} {ts : Nat × Nat} (h0 : P.underlying t0 = some (.slice ts.1)) (h1 : P.underlying t1 = some d1) (hd1 : ∀ k, d1 ≠ .int k) (hi : P.info? ts.1 = some i) (hz : i.zero = some z) (hzs : z.cells.size = i.size) (hsize : i.size = ts.2) (hby : i.bytes ≤ 65536)
    {b g : Nat} {l m : List DV} (hb : c.heap[b]? = some (.arr g ts l)) {v x : Value} (hv : VR c (.own b g) v) {news : List Value} (hs : Src P i.size c.w x m.length news) (hn : ∀ (j : Nat) (y : DV) (v : Value), (flat m)[j]? = some y → news[j]? = some v → VD c.bad c.w y v) (hm : ∀ e ∈ m, e.cells.length = ts.2) (hbig : l.length + m.length ≤ 2147483648) (ty : TypeId) :
    ∃ (c' : Cx) (v' : Value), (Builtin.append_ #[t0, t1] ty #[v, x]).run P c.w = .ok v' c'.w ∧ c'.heap = c.heap.set b (.arr (g + 1) ts (l ++ m)) ∧ HOk G c' ∧ VR c' (.own b (g + 1)) v' ∧ Step c c' := by
  obtain ⟨q0, q1, q2⟩ := hok.box b _ hb
  have hbl := lt_of_getElem? hb
  have hel' : Elems ts.2 (l ++ m) := elems_append q1 hm
  have hfm : (flat m).length = m.length * ts.2 := flat_length (fun i e he => hm e (List.mem_of_getElem? he))
  have hnl : news.length = (flat m).length := by rw [hs.size, hfm, hsize]
  have hheap : ∀ own w, (c.regrow b (g + 1) ts (l ++ m) own w).heap[b]? = some (.arr (g + 1) ts (l ++ m)) := fun own w => by show (c.heap.set b _)[b]? = _; rw [List.getElem?_set_self hbl]
  have hownb : ∀ own w, (c.regrow b (g + 1) ts (l ++ m) own w).own b = own := fun own w => by simp [Cx.regrow]
  -- the new block
  have grown : ∀ (olds : List Value) (cap : Nat) (bs : Option Addr), (∀ (idx : Nat) (y : DV), (flat l)[idx]? = some y → ∃ v, olds[idx]? = some v ∧ v.oneCell' = true ∧ VD c.bad c.w y v) → olds.length = l.length * ts.2 → (∀ d : Nat, (Builtin.firstCells i.size l.length (.slice bs l.length cap)).run P { c.w with drawn := d } = .ok olds.toArray { c.w with drawn := d }) → cap < l.length + m.length → v = .slice bs l.length cap →
      ∃ (c' : Cx) (v' : Value), (Builtin.append_ #[t0, t1] ty #[v, x]).run P c.w = .ok v' c'.w ∧ c'.heap = c.heap.set b (.arr (g + 1) ts (l ++ m)) ∧ HOk G c' ∧ VR c' (.own b (g + 1)) v' ∧ Step c c' := by
    intro olds cap bs hold hol hfirst hcap hveq
    subst hveq
    have hr := run_app_grow h0 h1 hd1 hi hz hfirst hs hcap hbig hby ty
    have hge := grownCap_ge c.w (l.length + m.length) cap ts.1
    have hle := grownCap_le_maxLen c.w (l.length + m.length) cap ts.1 (maxLen_big hbig)
    generalize grownCap c.w (l.length + m.length) cap ts.1 = nc at hr hge hle
    let cells : Array Value := olds.toArray ++ news.toArray ++ Builtin.zeroCells z.cells (nc - (l.length + m.length))
    have hw : (c.w.drew.alloc (.cells cells ts.1)).heap[c.w.heap.size]? = some (.cells cells ts.1 (0, 0)) := heap_alloc_new c.w.drew _
    obtain ⟨k1, k2⟩ := hok.regrow (l' := l ++ m) hb (w := c.w.drew.alloc (.cells cells ts.1)) (some (c.w.heap.size, nc)) rfl rfl rfl (by simp) (fun k hk _ => Below.heap_alloc c.w.drew _ k hk) (fun k n e => by cases e; exact ⟨by simp, fun h => by omega⟩)
    refine ⟨_, _, hr, rfl, k2 ⟨hel', .inr ⟨c.w.heap.size, nc, cells, rfl, hw, ?_, by simpa using hge, hle, ?_⟩⟩, ?_, k1⟩
    · simp only [cells, Array.size_append, List.size_toArray, size_zeroCells, hzs, hol, hnl, hfm, hsize, ← Nat.add_mul]
      congr 1
      omega
    · have := FlatOk.append (c := c) (l := l) (m := m) (vs := olds) (news := news) (tail := (Builtin.zeroCells z.cells (nc - (l.length + m.length))).toList) q1 hold (by omega) hs.one hnl hn
      rw [List.take_of_length_le (by omega)] at this
      have := this.step k1
      simpa [cells] using this
    · have := VR.own (c := c.regrow b (g + 1) ts (l ++ m) (some (c.w.heap.size, nc)) (c.w.drew.alloc (.cells cells ts.1))) b (g + 1) ts (l ++ m) c.w.heap.size nc (hheap _ _) (hownb _ _)
      rw [List.length_append] at this
      exact this
  rcases vr_own hb hv with ⟨blk, cap, r1, rfl⟩ | ⟨rfl, rfl, r1⟩
  · rcases q2 with ⟨q2, -⟩ | ⟨blk', cap', vs, q2, q3, q4, q5, q6, q7⟩
    · rw [r1] at q2; cases q2
    rw [r1] at q2; cases q2
    have hfl := FlatOk.of_ij q0 q1 q7
    have hvs : l.length * ts.2 ≤ vs.size := by rw [q4]; exact Nat.mul_le_mul_right _ q5
    by_cases hroom : l.length + m.length ≤ cap
    · have hfit : l.length * i.size + news.length ≤ vs.size := by
        rw [hnl, hfm, hsize, q4, ← Nat.add_mul]
        exact Nat.mul_le_mul_right _ hroom
      have hr := run_app_room h0 h1 hd1 hi q3 hs hroom hfit ty
      obtain ⟨e1, e2, e3, e4⟩ := setCells_os blk news (l.length * i.size) c.w
      obtain ⟨k1, k2⟩ := hok.regrow (l' := l ++ m) hb (w := c.w.setCells blk (l.length * i.size) news) (some (blk, cap)) e1 e2 e3 (Nat.le_of_eq e4.symm) (fun k _ hk => setCells_other blk news _ c.w k (fun e => hk cap (by rw [e]; exact r1))) (fun k n e => by cases e; exact ⟨by rw [e4]; exact (hok.ownlt b blk cap r1).1, fun _ => ⟨cap, r1⟩⟩)
      refine ⟨_, _, hr, rfl, k2 ⟨hel', .inr ⟨blk, cap, (spl vs.toList (l.length * i.size) news).toArray, rfl, setCells_at blk ts.1 (0, 0) news _ c.w vs q3, by simp [spl_length, q4], by simpa using hroom, q6, ?_⟩⟩, ?_, k1⟩
      · have := FlatOk.append (c := c) (l := l) (m := m) (vs := vs.toList) (news := news) (tail := vs.toList.drop (l.length * ts.2 + news.length)) q1 hfl (by simpa using hvs) hs.one hnl hn
        have := this.step k1
        show FlatOk _ (l ++ m) (spl vs.toList (l.length * i.size) news)
        rw [spl_eq (by simp; exact hfit)]
        rw [← hsize] at this
        exact this
      · have := VR.own (c := c.regrow b (g + 1) ts (l ++ m) (some (blk, cap)) (c.w.setCells blk (l.length * i.size) news)) b (g + 1) ts (l ++ m) blk cap (hheap _ _) (hownb _ _)
        rw [List.length_append] at this
        exact this
    · have hrow := row_of_block q3
      refine grown (vs.toList.take (l.length * ts.2)) cap (some ⟨blk, 0, none⟩) (fun idx y hy => ?_) (by simp; omega) (fun d => ?_) (by omega) rfl
      · obtain ⟨u, g1, g2⟩ := hfl idx y hy
        have hlt := lt_of_getElem? hy
        rw [flat_length q1] at hlt
        exact ⟨u, by rw [List.getElem?_take, if_pos hlt]; exact g1, g2⟩
      · have := run_loadCells_list (P := P) { c.w with drawn := d } ⟨blk, 0, none⟩ (vs.toList.take (l.length * ts.2)) (fun j u hu => by
          rw [List.getElem?_take] at hu
          split at hu
          · rw [add_at]; exact hrow j u hu
          · cases hu)
        have hlen : (vs.toList.take (l.length * ts.2)).length = l.length * i.size := by simp; rw [hsize]; omega
        rw [hlen] at this
        exact this
  · by_cases hm0 : m.length = 0
    · obtain rfl : m = [] := List.eq_nil_of_length_eq_zero hm0
      have hnn : news = [] := List.eq_nil_of_length_eq_zero (by rw [hs.size]; simp)
      subst hnn
      have hr := run_app_zero (b := none) (n := 0) (cap := 0) h0 h1 hd1 hi hs (Nat.le_refl _) ty
      obtain ⟨k1, k2⟩ := hok.regrow (l' := [] ++ []) hb (w := c.w) none rfl rfl rfl (Nat.le_refl _) (fun k _ _ => rfl) (fun k n e => by cases e)
      exact ⟨c.regrow b (g + 1) ts ([] ++ []) none c.w, .slice none 0 0, hr, rfl, k2 ⟨fun i e he => by simp at he, .inl ⟨rfl, rfl⟩⟩, .ownnil b (g + 1) ts (hheap _ _) (hownb _ _), k1⟩
    · exact grown [] 0 none (fun idx y hy => by simp [flat] at hy) (by simp) (fun d => by simp [Builtin.firstCells]) (by simp; omega) rfl

/-- A nil slice is an own array without elements. -/
theorem HOk.adopt (hok : HOk G c) (ts : Nat × Nat) (hts : 0 < ts.2) : let c' : Cx := { c with heap := c.heap ++ [.arr 0 ts []] }
    HOk G c' ∧ Step c c' ∧ c'.heap[c.heap.length]? = some (.arr 0 ts []) ∧ VR c' (.own c.heap.length 0) (.slice none 0 0) := by
  intro c'
  have hno : c.own c.heap.length = none := by
    cases ho : c.own c.heap.length with
    | none => rfl
    | some p => have := (hok.ownlt _ p.1 p.2 ho).2; omega
  have hst : Step c c' := ⟨rfl, hok.barlt, rfl, rfl, rfl, Nat.le_refl _, fun _ _ _ => rfl, fun i b n hi _ => ⟨i, n, hi⟩, fun i bx hi => by
    have h' : c'.heap[i]? = some bx := by show (c.heap ++ _)[i]? = _; rw [List.getElem?_append_left (lt_of_getElem? hi)]; exact hi
    cases bx with
    | cells cs => exact .inl ⟨cs, h', rfl, rfl⟩
    | arr g sz l => exact .inl ⟨g, l, h', .inr ⟨rfl, rfl, rfl⟩⟩
    | map es => exact .inl ⟨es, h', rfl⟩
    | gone => exact h'⟩
  have hnew : c'.heap[c.heap.length]? = some (.arr 0 ts []) := by show (c.heap ++ _)[_]? = _; simp
  refine ⟨hok.next hst (fun i b n hi => ⟨(hok.ownlt i b n hi).1, by have := (hok.ownlt i b n hi).2; show i < (c.heap ++ _).length; simp; omega⟩) hok.inj (fun i bx hi => ?_), hst, hnew, .ownnil _ _ ts hnew hno⟩
  by_cases hil : i = c.heap.length
  · subst hil
    rw [hnew] at hi
    cases hi
    exact .inr ⟨hts, fun i e he => by simp at he, .inl ⟨hno, rfl⟩⟩
  · have hlt : i < c.heap.length := by
      have := lt_of_getElem? hi
      have h2 : c'.heap.length = c.heap.length + 1 := by show (c.heap ++ _).length = _; simp
      omega
    have hi' : (c.heap ++ [.arr 0 ts []])[i]? = some bx := hi
    rw [List.getElem?_append_left hlt] at hi'
    exact .inl ⟨hi', rfl, fun _ _ _ => rfl⟩

theorem run_appendOp {o : Oper} {ac : Act} {w w' : World} {args : Array Operand} {ts : Array TypeId} {x y : Operand} {t0 t1 : Nat} {v v0 v1 : Value} (h1 : o.op = .call { callee := .builtin .append, args := args, argTypes := ts }) (hx : args.toList = [x, y]) (ht : ts.toList = [t0, t1]) (e0 : ac.eval x = v0) (e1 : ac.eval y = v1)
    (hr : (Builtin.append_ #[t0, t1] o.type #[v0, v1]).run P w = .ok v w') : (execOp ac.eval o).run P w = .ok (.value v) w' := by
  have ha : args.map ac.eval = #[v0, v1] := by
    apply Array.ext'
    rw [Array.toList_map, hx]
    simp [e0, e1]
  have hts : ts = #[t0, t1] := by apply Array.ext'; rw [ht]
  simp only [execOp, h1, resolve, ha, hts, Sem.run_bind, Sem.run_pure, Result.andThen_ok, invoke, builtin, hr]

theorem ok_append (hE : E.OK) {args : Array Operand} {tsA : Array TypeId} {x y : Operand} {t0 t1 e : Nat} {i0 i1 ei : TInfo} (hx : args.toList = [x, y]) (htA : tsA.toList = [t0, t1]) (hi0 : E.T[t0]? = some i0) (hi1 : E.T[t1]? = some i1) (hk0 : i0.k = .slice e) (hk1 : ∀ k, i1.k ≠ .int k) (hei : E.T[e]? = some ei)
    (hz : ei.zero.length = ei.size) (hpos : 0 < ei.size) (hby : ei.bytes ≤ 65536) {bv : AV} (hy : EvOK E.G s y bv) {m : List DV} (hm : ∀ e ∈ m, e.cells.length = ei.size)
    (hsrc : ∀ (c : Cx) (v : Value), VR c bv v → ∃ news : List Value, Src E.P ei.size c.w v m.length news ∧ (∀ (j : Nat) (y : DV) (v : Value), (flat m)[j]? = some y → news[j]? = some v → VD c.bad c.w y v))
    {a : AV} (ha : EvOK E.G s x a) {r : AV} {h' : List Box}
    (hcase : (∃ b g ts l, a = .own b g ∧ h[b]? = some (.arr g ts l) ∧ ts.1 = e ∧ ts.2 = ei.size ∧ l.length + m.length ≤ 2147483648 ∧ r = .own b (g + 1) ∧ h' = h.set b (.arr (g + 1) ts (l ++ m))) ∨ (a = .d .nilsl ∧ m.length ≤ 2147483648 ∧ r = .own h.length 1 ∧ h' = h ++ [.arr 1 (e, ei.size) m])) :
    OpOK E (.call { callee := .builtin .append, args := args, argTypes := tsA }) s h r h' := fun o c ac h1 h2 h3 h4 => by
  subst h2
  obtain ⟨ti0, d0, g1, g2, g3, -⟩ := tinfo_inv (hE.types _ _ hi0)
  obtain rfl := tk_slice (hk0.symm.trans g3)
  obtain ⟨ti1, d1, k1, k2, k3, -⟩ := tinfo_inv (hE.types _ _ hi1)
  obtain ⟨ti, z, q1, q2, q3, q4⟩ := zeroOf (hE.types _ _ hei) hz hpos
  obtain ⟨ti', d', p1, p2, p3, p4, p5, -⟩ := tinfo_inv (hE.types _ _ hei)
  rw [q1] at p1; cases p1
  have hd1 : ∀ k, d1 ≠ .int k := fun k e => hk1 k (by rw [k3, e]; rfl)
  have hzs : z.cells.size = ti.size := by
    obtain ⟨vs, e1, e2⟩ := q4 c
    rw [e1]
    have := e2.1
    simp at this
    simp [← this, hz, q3]
  rcases hcase with ⟨b, g, ts, l, rfl, hb, rfl, hts2, hbig, rfl, rfl⟩ | ⟨rfl, hbig, rfl, rfl⟩
  · obtain ⟨news, hs, hn⟩ := hsrc c _ (hy c ac h3 h4)
    rw [q3] at hs
    obtain ⟨c', v', r1, r2, r3, r4, r5⟩ := app_own h3 g2 k2 hd1 q1 q2 hzs (by rw [← q3]; exact hts2.symm) (by rw [← p5]; exact hby) hb (ha c ac h3 h4) hs hn (fun e he => by rw [hts2]; exact hm e he) hbig o.type
    exact ⟨c', v', .inl (run_appendOp h1 hx htA rfl rfl r1), r2, r3, r4, r5⟩
  · obtain ⟨w1, w2, w3, w4⟩ := h3.adopt (e, ei.size) hpos
    have hyv := w2.vr (hy c ac h3 h4)
    obtain ⟨news, hs, hn⟩ := hsrc _ _ hyv
    rw [q3] at hs
    have hxv : ac.eval x = .slice none 0 0 := by
      have := ha c ac h3 h4
      generalize ac.eval x = u at this
      cases this with
      | d _ _ hd => cases hd; rfl
    obtain ⟨c', v', r1, r2, r3, r4, r5⟩ := app_own (ts := (e, ei.size)) w1 g2 k2 hd1 q1 q2 hzs q3.symm (by rw [← p5]; exact hby) w3 w4 hs hn hm (by simpa using hbig) o.type
    refine ⟨c', v', .inl (run_appendOp h1 hx htA hxv rfl r1), ?_, r3, r4, w2.trans r5⟩
    rw [r2]
    simp

theorem ok_make (hE : E.OK) {t e : Nat} {n cc : Operand} {i ei : TInfo} (hi : E.T[t]? = some i) (hk : i.k = .slice e) (hei : E.T[e]? = some ei) (hz : ei.zero.length = ei.size) (hpos : 0 < ei.size) (hby : ei.bytes ≤ 65536) (hsc : ∀ y ∈ ei.zero, y.scal = true) {j j' : IntKind} {a b : Int} (hn : EvOK E.G s n (.d (.int j a))) (hc : EvOK E.G s cc (.d (.int j' b)))
    (ha : 0 ≤ a) (hab : a ≤ b) (hb : b ≤ 2147483648) {zd : DV} (hzd : zd.cells = ei.zero) : OpOK E (.makeSlice t n cc) s h (.own h.length 0) (h ++ [.arr 0 (e, ei.size) (List.replicate a.toNat zd)]) := fun o c ac h1 h2 h3 h4 => by
  subst h2
  obtain ⟨ti0, d0, g1, g2, g3, -⟩ := tinfo_inv (hE.types _ _ hi)
  obtain rfl := tk_slice (hk.symm.trans g3)
  obtain ⟨ti, z, q1, q2, q3, q4⟩ := zeroOf (hE.types _ _ hei) hz hpos
  obtain ⟨ti', d', p1, p2, p3, p4, p5, -⟩ := tinfo_inv (hE.types _ _ hei)
  rw [q1] at p1; cases p1
  obtain ⟨zs, hzs, hzl⟩ := q4 c
  have hzlen : zs.length = ei.size := by rw [← hzl.1]; simpa using hz
  have hbytes : (ti.bytes : Int) * b ≤ 281474976710656 := by
    have h5 : (ti.bytes : Int) ≤ 65536 := by rw [← p5]; omega
    calc (ti.bytes : Int) * b ≤ 65536 * 2147483648 := Int.mul_le_mul h5 hb (by omega) (by omega)
      _ ≤ 281474976710656 := by decide
  have hr := run_make (P := E.P) c.w t e ti z g2 q1 q2 j j' a b ha hab hbytes (by omega)
  have e1 := vr_int (hn c ac h3 h4)
  have e2 := vr_int (hc c ac h3 h4)
  obtain ⟨k1, k2⟩ := h3.add (.arr 0 (e, ei.size) (List.replicate a.toNat zd)) b.toNat (.cells (madeCells z.cells (b.toNat * ti.size)) e)
  have hel : Elems ei.size (List.replicate a.toNat zd) := fun i e he => by
    rw [List.getElem?_replicate] at he
    split at he
    · cases he; rw [hzd, hz]
    · cases he
  have hown : (c.add (.arr 0 (e, ei.size) (List.replicate a.toNat zd)) b.toNat (.cells (madeCells z.cells (b.toNat * ti.size)) e)).own c.heap.length = some (c.w.heap.size, b.toNat) := by simp [Cx.add]
  have hheap : (c.add (.arr 0 (e, ei.size) (List.replicate a.toNat zd)) b.toNat (.cells (madeCells z.cells (b.toNat * ti.size)) e)).heap[c.heap.length]? = some (.arr 0 (e, ei.size) (List.replicate a.toNat zd)) := by simp [Cx.add]
  refine ⟨_, .slice (some ⟨c.w.heap.size, 0, none⟩) a.toNat b.toNat, .inl ?_, rfl, k2 ⟨hpos, hel, .inr ⟨c.w.heap.size, b.toNat, madeCells z.cells (b.toNat * ti.size), hown, heap_alloc_new _ _, by rw [size_madeCells, q3], by simp; omega, maxLen_big (by omega), ?_⟩⟩, ?_, k1⟩
  · simp only [execOp, h1, e1, e2, Sem.run_bind, hr, Result.andThen_ok, Sem.run_pure]
    rfl
  · intro i' j2 e' x he hx
    have hje : j2 < ei.size := by rw [← hel i' e' he]; exact lt_of_getElem? hx
    rw [List.getElem?_replicate] at he
    split at he
    · rename_i hlt
      cases he
      rw [hzd] at hx
      have hidx : i' * ei.size + j2 < b.toNat * ti.size := by
        rw [← q3]
        have : (i' + 1) * ei.size ≤ b.toNat * ei.size := Nat.mul_le_mul_right _ (by omega)
        rw [Nat.add_mul, Nat.one_mul] at this
        omega
      have hmod : (i' * ei.size + j2) % ei.size = j2 := by rw [Nat.mul_comm, Nat.mul_add_mod, Nat.mod_eq_of_lt hje]
      have hval : (madeCells z.cells (b.toNat * ti.size))[i' * ei.size + j2]? = some (zs[j2]'(by omega)) := by
        simp [madeCells, hidx, hzs, hzlen, hmod, hje]
      have hvd := hzl.ofMapD j2 x (zs[j2]'(by omega)) hx (by simp [hzlen, hje])
      exact ⟨_, hval, vd_one hvd (hsc x (List.mem_of_getElem? hx)), k1.vd hvd⟩
    · cases he
  · have := VR.own (c := c.add (.arr 0 (e, ei.size) (List.replicate a.toNat zd)) b.toNat (.cells (madeCells z.cells (b.toNat * ti.size)) e)) c.heap.length 0 (e, ei.size) _ c.w.heap.size b.toNat hheap hown
    rw [List.length_replicate] at this
    exact this

theorem appK_sound (hE : E.OK) {o : Op} {stop : Prop} {k : AV → List Box → Prop} (H : appK E.T E.G o s h stop k) : stop ∨ ∃ v h', k v h' ∧ OpOK E o s h v h' := by
  unfold appK at H
  split at H
  · rename_i args tsA
    rcases two_or H with h | ⟨x, y, hx, H⟩
    · exact .inl h
    rcases two_or H with h | ⟨t0, t1, ht, H⟩
    · exact .inl h
    rcases getK_or H with h | ⟨i0, hi0, H⟩
    · exact .inl h
    rcases getK_or H with h | ⟨i1, hi1, H⟩
    · exact .inl h
    split at H
    · rename_i e hk0
      rcases getK_or H with h | ⟨ei, hei, H⟩
      · exact .inl h
      split at H
      · rename_i q1 q2 q3
        rcases evalK_sound H with h | ⟨a, ha, H⟩
        · exact .inl h
        rcases evalK_sound H with h | ⟨b, hb, H⟩
        · exact .inl h
        have fin : ∀ (m : List DV), (∀ k, i1.k ≠ .int k) → ((∀ e ∈ m, e.cells.length = ei.size) → ∀ (c : Cx) (v : Value), VR c b v → ∃ news : List Value, Src E.P ei.size c.w v m.length news ∧ (∀ (j : Nat) (y : DV) (v : Value), (flat m)[j]? = some y → news[j]? = some v → VD c.bad c.w y v)) →
            finK e ei h a m stop k → stop ∨ ∃ v h', k v h' ∧ OpOK E (.call { callee := .builtin .append, args := args, argTypes := tsA }) s h v h' := by
          intro m hk1 hsrc H
          have gen := fun {r h'} (hm : ∀ e ∈ m, e.cells.length = ei.size) hcase => ok_append (h := h) (r := r) (h' := h') hE hx ht hi0 hi1 hk0 hk1 hei (Nat.eq_of_beq_eq_true q1) (blt_pos q2) (Nat.le_of_ble_eq_true q3) hb hm (hsrc hm) ha hcase
          unfold finK at H
          split at H
          · obtain ⟨⟨h1, h2⟩, H⟩ := need_elim H
            rw [snocK_eq, Nat.zero_add] at H
            exact .inr ⟨_, _, H, gen h2 (.inr ⟨rfl, h1, rfl, rfl⟩)⟩
          · rcases getK_or H with h | ⟨bx, hbx, H⟩
            · exact .inl h
            split at H
            · split at H
              · rename_i p1 p2 p3
                have p1 := Nat.eq_of_beq_eq_true p1
                subst p1
                obtain ⟨⟨h1, h2⟩, H⟩ := need_elim H
                rw [setK_eq] at H
                exact .inr ⟨_, _, H, gen h2 (.inl ⟨_, _, _, _, rfl, hbx, Nat.eq_of_beq_eq_true p2, Nat.eq_of_beq_eq_true p3, h1, rfl, rfl⟩)⟩
              · exact .inl H
            · exact .inl H
          · exact .inl H
        split at H
        · rename_i e' m hk1
          exact fin m (fun k hk => by rw [hk1] at hk; cases hk) (fun hm c v hv => by cases hv with | d _ _ hv => exact src_sl (blt_pos q2) hm hv) H
        · rename_i z hk1
          split at H
          · refine fin (z.map byteD) (fun k hk => by rw [hk1] at hk; cases hk) (fun hm c v hv => ?_) H
            have hv' := vr_str hv
            subst hv'
            by_cases hz : z = []
            · subst hz
              exact ⟨[], ⟨fun _ => by simp [Builtin.lenOf, ByteArray.size], fun d => by simp [Builtin.firstCells], fun v hv => by simp at hv, by simp⟩, fun j y v hy => by simp [flat] at hy⟩
            · obtain ⟨b0, r, hr⟩ := List.exists_cons_of_ne_nil hz
              have h1 : 1 = ei.size := hm (byteD b0) (by rw [hr]; simp)
              rw [← h1]
              exact ⟨_, src_str.1, (src_str (P := E.P)).2⟩
          · exact .inl H
        · exact .inl H
      · exact .inl H
    · exact .inl H
  · rcases getK_or H with h | ⟨i, hi, H⟩
    · exact .inl h
    split at H
    · rename_i e hk
      rcases getK_or H with h | ⟨ei, hei, H⟩
      · exact .inl h
      split at H
      · rename_i q1 q2 q3 q4
        rcases evalK_sound H with h | ⟨a, ha, H⟩
        · exact .inl h
        split at H
        · rcases evalK_sound H with h | ⟨b, hb, H⟩
          · exact .inl h
          split at H
          · split at H
            · rename_i z hz1
              obtain ⟨⟨h1, h2, h3⟩, H⟩ := need_elim H
              rw [snocK_eq, Nat.zero_add] at H
              have hzs : z.scal = true := by rw [hz1] at q4; simpa using q4
              exact .inr ⟨_, _, H, ok_make hE hi hk hei (Nat.eq_of_beq_eq_true q1) (blt_pos q2) (Nat.le_of_ble_eq_true q3) (fun y hy => List.all_eq_true.1 q4 y hy) ha hb h1 h2 h3 (zd := z) (by rw [hz1]; cases z <;> first | rfl | cases hzs)⟩
            · obtain ⟨⟨h1, h2, h3⟩, H⟩ := need_elim H
              rw [snocK_eq, Nat.zero_add] at H
              exact .inr ⟨_, _, H, ok_make hE hi hk hei (Nat.eq_of_beq_eq_true q1) (blt_pos q2) (Nat.le_of_ble_eq_true q3) (fun y hy => List.all_eq_true.1 q4 y hy) ha hb h1 h2 h3 rfl⟩
          · exact .inl H
        · exact .inl H
      · exact .inl H
    · exact .inl H
  · exact .inl H

end
end Go.Eng
