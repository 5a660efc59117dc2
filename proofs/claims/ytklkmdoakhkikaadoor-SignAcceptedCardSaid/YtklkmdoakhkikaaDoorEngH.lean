/- The engine, part H: regions that draw their order: operations that read no memory float, and one variable is made at any time. No conditions. -/
import Derived.Test.YtklkmdoakhkikaaDoorEngE
namespace Go.Eng
open Go Go.RowKit

theorem boxStep_same {c c' : Cx} {i : Nat} {bx : Box} (h1 : c.heap[i]? = some bx) (h2 : c'.heap[i]? = c.heap[i]?) (h3 : c'.own i = c.own i) : BoxStep c c' i bx := by
  rw [h1] at h2
  cases bx with
  | cells cs => exact .inl ⟨cs, h2, h3, rfl⟩
  | arr g sz l => exact .inl ⟨g, l, h2, .inr ⟨rfl, rfl, h3⟩⟩
  | map es => exact .inl ⟨es, h2, h3⟩
  | gone => exact h2
theorem boxStep_congr {c1 c2 c1' c2' : Cx} {i : Nat} {bx : Box} (h1 : c1'.own i = c1.own i) (h2 : c2'.heap[i]? = c2.heap[i]?) (h3 : c2'.own i = c2.own i) (h : BoxStep c1 c2 i bx) : BoxStep c1' c2' i bx := by
  cases bx <;> simp only [BoxStep, h1, h2, h3] at h ⊢ <;> exact h
theorem BoxOk.gen {c c' : Cx} (hvr : ∀ x v, VR c x v → VR c' x v) (hvd : ∀ x v, VD c.bad c.w x v → VD c'.bad c'.w x v) {i : Nat} {bx : Box} (hb : BoxOk c i bx) (ho : c'.own i = c.own i) (hw : ∀ b n, c.own i = some (b, n) → c'.w.heap[b]? = c.w.heap[b]?) : BoxOk c' i bx := by
  cases bx with
  | cells cs =>
    obtain ⟨blk, cap, vs, ty, h1, h2, h3, h4⟩ := hb
    exact ⟨blk, cap, vs, ty, ho.trans h1, (hw blk cap h1).trans h2, h3, fun j x v hx hv => hvr x v (h4 j x v hx hv)⟩
  | arr g ts l =>
    obtain ⟨h0, h1, h2⟩ := hb
    refine ⟨h0, h1, ?_⟩
    rcases h2 with ⟨h2, h3⟩ | ⟨blk, cap, vs, h2, h3, h4, h5, h6, h7⟩
    · exact .inl ⟨ho.trans h2, h3⟩
    · refine .inr ⟨blk, cap, vs, ho.trans h2, (hw blk cap h2).trans h3, h4, h5, h6, fun i j e x he hx => ?_⟩
      obtain ⟨v, h8, h8', h9⟩ := h7 i j e x he hx
      exact ⟨v, h8, h8', hvd x v h9⟩
  | map es =>
    obtain ⟨blk, cap, en, ck, h1, h2, h3, h4⟩ := hb
    exact ⟨blk, cap, en, ck, ho.trans h1, (hw blk cap h1).trans h2, h3, fun j k x m hx hm => ⟨hvd _ _ (h4 j k x m hx hm).1, hvd _ _ (h4 j k x m hx hm).2⟩⟩
  | gone => exact ho.trans hb

/-- A block is made of which nothing is known. -/
def Cx.veil (c : Cx) (o : Obj) : Cx := ⟨c.own, c.heap, fun b => c.bar b ∨ b = c.w.heap.size, c.w.alloc o⟩
/-- It becomes a box. -/
def Cx.bare (c : Cx) (bx : Box) (blk : Nat) (bar : Nat → Prop) : Cx := ⟨fun i => if i = c.heap.length then some (blk, 0) else c.own i, c.heap ++ [bx], bar, c.w⟩

section
variable {G : List (Nat × DV)} {c : Cx} {o : Obj}
theorem veil_badOf (b : Nat) (hb : b < c.w.heap.size) (hn : ¬ c.bad b) : ¬ (c.veil o).bad b ∧ (c.veil o).w.heap[b]? = c.w.heap[b]? := by
  refine ⟨?_, Below.heap_alloc c.w o b hb⟩
  rintro ((h | h) | ⟨i, n, h⟩)
  · exact hn (.inl h)
  · omega
  · exact hn (.inr ⟨i, n, h⟩)
theorem veil_vr {x : AV} {v : Value} (hv : VR c x v) : VR (c.veil o) x v := vr_gen veil_badOf (fun _ _ hi => boxStep_same hi rfl rfl) hv
theorem veil_vd {x : DV} {v : Value} (hv : VD c.bad c.w x v) : VD (c.veil o).bad (c.veil o).w x v := hv.mono veil_badOf
theorem HOk.veil (ho : HOk G c) : HOk G (c.veil o) where
  barlt := fun b hb => by
    have hs : (c.veil o).w.heap.size = c.w.heap.size + 1 := by simp [Cx.veil]
    rcases hb with hb | hb
    · have := ho.barlt b hb; omega
    · omega
  ownlt := fun i b n hi => by
    have hs : (c.veil o).w.heap.size = c.w.heap.size + 1 := by simp [Cx.veil]
    have := ho.ownlt i b n hi
    exact ⟨by omega, this.2⟩
  inj := ho.inj
  sep := fun i b n hi hb => hb.elim (ho.sep i b n hi) (fun e => by have := (ho.ownlt i b n hi).1; omega)
  box := fun i bx hx => (ho.box i bx hx).gen (fun _ _ => veil_vr) (fun _ _ => veil_vd) rfl (fun b n hn => Below.heap_alloc c.w o b (ho.ownlt i b n hn).1)
  glob := fun g e hg => veil_vr (ho.glob g e hg)

variable {bx : Box} {blk : Nat} {bar : Nat → Prop}
theorem bare_bad (ho : HOk G c) (hbar : ∀ b, c.bar b ↔ bar b ∨ b = blk) (b : Nat) : (c.bare bx blk bar).bad b ↔ c.bad b := by
  constructor
  · rintro (h | ⟨i, n, h⟩)
    · exact .inl ((hbar b).2 (.inl h))
    · simp only [Cx.bare] at h
      split at h
      · cases h; exact .inl ((hbar _).2 (.inr rfl))
      · exact .inr ⟨i, n, h⟩
  · rintro (h | ⟨i, n, h⟩)
    · rcases (hbar b).1 h with h | rfl
      · exact .inl h
      · exact .inr ⟨c.heap.length, 0, by simp [Cx.bare]⟩
    · refine .inr ⟨i, n, ?_⟩
      have := (ho.ownlt i b n h).2
      simp only [Cx.bare]
      rw [if_neg (by omega)]
      exact h
theorem bare_badOf (ho : HOk G c) (hbar : ∀ b, c.bar b ↔ bar b ∨ b = blk) (b : Nat) (_ : b < c.w.heap.size) (hn : ¬ c.bad b) : ¬ (c.bare bx blk bar).bad b ∧ (c.bare bx blk bar).w.heap[b]? = c.w.heap[b]? :=
  ⟨fun h => hn ((bare_bad ho hbar b).1 h), rfl⟩
theorem bare_heap {i : Nat} {b : Box} (hi : c.heap[i]? = some b) : (c.bare bx blk bar).heap[i]? = c.heap[i]? := List.getElem?_append_left (lt_of_getElem? hi)
theorem bare_own {i : Nat} {b : Box} (hi : c.heap[i]? = some b) : (c.bare bx blk bar).own i = c.own i := by
  have := lt_of_getElem? hi
  simp only [Cx.bare]
  rw [if_neg (by omega)]
theorem bare_vr (ho : HOk G c) (hbar : ∀ b, c.bar b ↔ bar b ∨ b = blk) {x : AV} {v : Value} (hv : VR c x v) : VR (c.bare bx blk bar) x v := vr_gen (bare_badOf ho hbar) (fun _ _ hi => boxStep_same hi (bare_heap hi) (bare_own hi)) hv
theorem bare_vd (ho : HOk G c) (hbar : ∀ b, c.bar b ↔ bar b ∨ b = blk) {x : DV} {v : Value} (hv : VD c.bad c.w x v) : VD (c.bare bx blk bar).bad (c.bare bx blk bar).w x v := hv.mono (bare_badOf ho hbar)
theorem HOk.bare (ho : HOk G c) (hbar : ∀ b, c.bar b ↔ bar b ∨ b = blk) (hnb : ¬ bar blk) (hbx : BoxOk (c.bare bx blk bar) c.heap.length bx) : HOk G (c.bare bx blk bar) where
  barlt := fun b hb => ho.barlt b ((hbar b).2 (.inl hb))
  ownlt := fun i b n hi => by
    have hl : (c.bare bx blk bar).heap.length = c.heap.length + 1 := by simp [Cx.bare]
    simp only [Cx.bare] at hi
    split at hi
    · cases hi
      exact ⟨ho.barlt _ ((hbar _).2 (.inr rfl)), by omega⟩
    · have := ho.ownlt i b n hi
      exact ⟨this.1, by omega⟩
  inj := fun i j b n m hi hj => by
    simp only [Cx.bare] at hi hj
    split at hi <;> split at hj
    · omega
    · cases hi; exact absurd ((hbar _).2 (.inr rfl)) (ho.sep j _ m hj)
    · cases hj; exact absurd ((hbar _).2 (.inr rfl)) (ho.sep i _ n hi)
    · exact ho.inj i j b n m hi hj
  sep := fun i b n hi hb => by
    simp only [Cx.bare] at hi
    split at hi
    · cases hi; exact hnb hb
    · exact ho.sep i b n hi ((hbar b).2 (.inl hb))
  box := fun i b hx => by
    rcases Nat.lt_trichotomy i c.heap.length with hi | rfl | hi
    · have hx' : c.heap[i]? = some b := by
        have : (c.bare bx blk bar).heap[i]? = c.heap[i]? := List.getElem?_append_left hi
        rwa [this] at hx
      exact (ho.box i b hx').gen (fun _ _ => bare_vr ho hbar) (fun _ _ => bare_vd ho hbar) (bare_own hx') (fun _ _ _ => rfl)
    · have : b = bx := by simp [Cx.bare] at hx; exact hx.symm
      subst this
      exact hbx
    · rw [List.getElem?_eq_none (by simp [Cx.bare]; omega)] at hx
      cases hx
  glob := fun g e hg => bare_vr ho hbar (ho.glob g e hg)

theorem veil_step {c2 : Cx} {us : List Value} {ty : TypeId} {z : List AV} (ho : HOk G c) (hs : Step (c.veil (.cells us.toArray ty)) c2) (ho2 : HOk G c2) (hh : c2.heap = c.heap) (hz : VL (c2.bare (.cells z) c.w.heap.size c.bar) z us) :
    HOk G (c2.bare (.cells z) c.w.heap.size c.bar) ∧ Step c (c2.bare (.cells z) c.w.heap.size c.bar) ∧ (∀ x v, VR c2 x v → VR (c2.bare (.cells z) c.w.heap.size c.bar) x v) ∧ VR (c2.bare (.cells z) c.w.heap.size c.bar) (.ptr c.heap.length 0) (.pointer (some ⟨c.w.heap.size, 0, none⟩)) := by
  have hbar : ∀ b, c2.bar b ↔ c.bar b ∨ b = c.w.heap.size := fun b => by rw [hs.bar]; exact Iff.rfl
  have hnb : ¬ c.bar c.w.heap.size := fun h => by have := ho.barlt _ h; omega
  have hsz : (c.veil (.cells us.toArray ty)).w.heap.size = c.w.heap.size + 1 := by simp [Cx.veil]
  have hown : (c2.bare (.cells z) c.w.heap.size c.bar).own c.heap.length = some (c.w.heap.size, 0) := by simp [Cx.bare, hh]
  have hat : (c2.bare (.cells z) c.w.heap.size c.bar).heap[c.heap.length]? = some (.cells z) := by simp [Cx.bare, hh]
  have hblk : c2.w.heap[c.w.heap.size]? = some (.cells us.toArray ty (0, 0)) := by
    rw [hs.keep _ (by omega) (fun i n hi => by have := (ho.ownlt i _ n hi).1; omega)]
    exact heap_alloc_new _ _
  refine ⟨ho2.bare hbar hnb ?_, ?_, fun _ _ => bare_vr ho2 hbar, .ptr _ _ z _ 0 hat hown⟩
  · rw [hh]
    exact ⟨c.w.heap.size, 0, us.toArray, ty, hown, hblk, by simpa using hz.1.symm, fun j x v hx hu => hz.2 j x v hx (by simpa using hu)⟩
  · exact {
      bar := rfl
      barlt := ho.barlt
      os := hs.os
      tape := hs.tape
      output := hs.output
      size := by have := hs.size; show c.w.heap.size ≤ c2.w.heap.size; omega
      keep := fun b hb hn => by
        show c2.w.heap[b]? = _
        rw [hs.keep b (by omega) hn]
        exact Below.heap_alloc c.w _ b hb
      newown := fun i b n hi hb => by
        simp only [Cx.bare] at hi
        split at hi
        · cases hi; omega
        · exact hs.newown i b n hi (by omega)
      boxes := fun i b hi => by
        have := hs.boxes i b hi
        have hlt := lt_of_getElem? hi
        exact boxStep_congr (c1 := c.veil (.cells us.toArray ty)) rfl (List.getElem?_append_left (by rw [hh]; exact hlt)) (by simp only [Cx.bare]; rw [if_neg (by rw [hh]; omega)]) this }
end

section
variable {E : Env} {ops : Array Oper}

/-- What the slots are before an operation and behind it. -/
theorem slots_ok (hpair : ∀ i j oi oj, i < j → ops[i]? = some oi → ops[j]? = some oj → confB ops oi oj = true → DepT ops i j) {q : List (Oper × AV)} (hat : ∀ (k : Nat) (o : Oper) (v : AV), q[k]? = some (o, v) → ops[k]? = some o) {listed : Array Bool} (hd : DC ops listed) {i : Nat} (hi : i ∈ Region.ready .any ops listed)
    {o : Oper} {v : AV} (hov : q[i]? = some (o, v)) {s0 : List AV} {c : Cx} {a : Act} (h4 : VS c (cur q (Lst listed) 0 s0) a.tmps) :
    (∀ (c' : Cx) (u : Value), (∀ x v, VR c x v → VR c' x v) → VR c' v u → VS c' (cur q (Lst (listed.setIfInBounds i true)) 0 s0) (a.put o.dst u).tmps) ∧ VS c (maskS (keepOf ops o) 0 (cur q (fun k => decide (k < i)) 0 s0)) a.tmps := by
  obtain ⟨hli, hin⟩ := ready_lst hd hi
  have hoi := hat i o v hov
  have wr : ∀ k o' v', q[k]? = some (o', v') → (k < i → confB ops o' o = true → Lst listed k = true) ∧ (i < k → confB ops o o' = true → Lst listed k = false) := fun k o' v' hk => by
    have hok := hat k o' v' hk
    refine ⟨fun hlt hcf => hd.ready hi (hpair k i o' o hlt hok hoi hcf), fun hlt hcf => ?_⟩
    cases hl : Lst listed k with
    | false => rfl
    | true => have := hd.dep (hpair i k o o' hlt hoi hok hcf) hl; rw [hli] at this; cases this
  have hsz : i < listed.size := by rw [hd.1]; exact hin
  have hset := fun q => lst_set (i := q) hsz
  refine ⟨fun c' u k3 k4 => ?_, ?_⟩
  · refine ⟨by rw [cur_length]; have := h4.1; rw [cur_length] at this; cases hdst : o.dst <;> simp [Act.put, this], fun t x u' hx hu' => ?_⟩
    by_cases hdt : o.dst = some t
    · have e1 : (cur q (Lst (listed.setIfInBounds i true)) 0 s0)[t]? = (cur q (fun k => decide (k < 0 + i + 1)) 0 s0)[t]? := by
        refine cur_congr _ _ _ 0 s0 s0 rfl rfl (fun k o' v' hk' hd' => ?_)
        rw [Nat.zero_add, Nat.zero_add, hset]
        rcases Nat.lt_trichotomy k i with hlt | rfl | hgt
        · rw [(wr k o' v' hk').1 hlt (conf_left hd' (List.mem_append_left _ (by simp [hdt])))]; simp; omega
        · simp
        · rw [(wr k o' v' hk').2 hgt (conf_left hdt (List.mem_append_left _ (by simp [hd'])))]; simp; omega
      rw [e1, cur_next _ 0 i s0 o v hov, hdt] at hx
      have htl : t < (cur q (fun k => decide (k < 0 + i)) 0 s0).length := by
        have := lt_of_getElem? hx
        simpa [putS] using this
      rw [putS, List.getElem?_set_self htl] at hx
      cases hx
      have hta : t < a.tmps.size := by rw [← h4.1, cur_length]; rwa [cur_length] at htl
      have hu2 : (a.tmps.setIfInBounds t u)[t]? = some u' := by simpa [Act.put, hdt] using hu'
      rw [Array.getElem?_setIfInBounds_self_of_lt hta] at hu2
      cases hu2
      exact k4
    · have e1 : (cur q (Lst (listed.setIfInBounds i true)) 0 s0)[t]? = (cur q (Lst listed) 0 s0)[t]? := by
        refine cur_congr _ _ _ 0 s0 s0 rfl rfl (fun k o' v' hk' hd' => ?_)
        rw [Nat.zero_add, hset]
        have : k ≠ i := fun e => by
          subst e
          rw [hov] at hk'
          cases hk'
          exact hdt hd'
        simp [this]
      rw [e1] at hx
      refine k3 _ _ (h4.2 t x u' hx ?_)
      cases hdst : o.dst with
      | none => simpa [Act.put, hdst] using hu'
      | some d =>
        rw [hdst] at hdt
        have hne : d ≠ t := fun e => hdt (by rw [e])
        simpa [Act.put, hdst, Array.getElem?_setIfInBounds_ne hne] using hu'
  · refine ⟨by rw [maskS_length, cur_length]; have := h4.1; rwa [cur_length] at this, fun t x u hx hu => ?_⟩
    rcases maskS_get _ 0 t _ x hx with rfl | ⟨hk, hx⟩
    · exact .any u
    · rw [Nat.zero_add] at hk
      refine h4.2 t x u ?_ hu
      rw [← hx]
      refine cur_congr _ _ _ 0 s0 s0 rfl rfl (fun k o' v' hk' hd' => ?_)
      rw [Nat.zero_add]
      rcases Nat.lt_trichotomy k i with hlt | rfl | hgt
      · rw [(wr k o' v' hk').1 hlt (conf_left hd' (List.mem_append_right _ hk))]; simp [hlt]
      · rw [hli]; simp
      · rw [(wr k o' v' hk').2 hgt (conf_right hd' hk)]; simp; omega

structure ChkX (ops : Array Oper) (m M : Nat) : Prop where
  low : ∀ j o e, ops[j]? = some o → e ∈ o.after → Region.binds .any e = true → e.on < j
  pair : ∀ i j oi oj, i < j → ops[i]? = some oi → ops[j]? = some oj → confB ops oi oj = true → DepT ops i j
  suf : ∀ i j oi oj, i < j → M ≤ j → ops[i]? = some oi → ops[j]? = some oj → (i < m ∧ floatB oi = true) ∨ DepT ops i j
theorem ChkX.chk {m M : Nat} (h : ChkX ops m M) : Chk ops ops.size := ⟨h.low, h.pair, fun i j oi oj _ hj _ hoj => by
  have := (Array.getElem?_eq_some_iff.1 hoj).1; omega⟩

/-- A plan: values, boxes, and why. -/
structure XP (E : Env) (ops : Array Oper) (m M : Nat) (s0 : List AV) (h : List Box) (pl : List (Oper × AV)) (hp : Nat → List Box) : Prop where
  ofs : pl.map (·.1) = ops.toList
  flo : ∀ j o v, j < m → pl[j]? = some (o, v) → floatB o = true → ∀ h', OpFact E ops o (cur pl (fun k => decide (k < j)) 0 s0) h' v
  pre : ∀ j o v, j < m → pl[j]? = some (o, v) → floatB o = false → OpFact E ops o (cur pl (fun k => decide (k < j)) 0 s0) h v
  suf : ∀ j o v, M ≤ j → pl[j]? = some (o, v) → SFact E ops o (cur pl (fun k => decide (k < j)) 0 s0) (hp j) v (hp (j + 1))

theorem plan_at {pl : List (Oper × AV)} (hpl : pl.map (·.1) = ops.toList) : pl.length = ops.size ∧ ∀ (k : Nat) (o : Oper) (v : AV), pl[k]? = some (o, v) → ops[k]? = some o := by
  refine ⟨by have := congrArg List.length hpl; simpa using this, fun k o v hk => ?_⟩
  have := congrArg (·[k]?) hpl
  simp only [List.getElem?_map, hk, Option.map_some] at this
  simpa using this.symm

theorem cnt_zero {L : Nat → Bool} {n i : Nat} (h : cnt L n ≤ 0) (hi : i < n) : L i = true := by
  cases hl : L i with
  | true => rfl
  | false => have := cnt_pos hl n hi; omega

/-- All that is not floating of the first kind is done. -/
theorem phase2 {m M : Nat} (hc : ChkX ops m M) (hmM : m ≤ M) {s0 : List AV} {h : List Box} {pl : List (Oper × AV)} {hp : Nat → List Box} (hx : XP E ops m M s0 h pl hp)
    {Q : Exit → Act → World → Prop} {Kf : List AV → List Box → Prop} {c0 : Cx} (hfin : Kf (cur pl (fun k => decide (k < pl.length)) 0 s0) (hp ops.size))
    (hQ : ∀ (a : Act) (c : Cx) (s : List AV) (h : List Box), Kf s h → HOk E.G c → c.heap = h → a.defers = [] → VS c s a.tmps → Step c0 c → Q .normal a c.w) :
    ∀ (f : Nat) (listed : Array Bool) (a : Act) (c : Cx) (J : Nat), M ≤ J → J ≤ ops.size → HOk E.G c → c.heap = hp J → a.defers = [] → VS c (cur pl (Lst listed) 0 s0) a.tmps → Step c0 c → DC ops listed →
      (∀ i o, ops[i]? = some o → i < J → Lst listed i = true ∨ (i < m ∧ floatB o = true)) → (∀ i, J ≤ i → Lst listed i = false) → cnt (Lst listed) ops.size ≤ f → wpAny E.P .any ops Q f listed a c.w := by
  obtain ⟨hlen, hat⟩ := plan_at hx.ofs
  have done : ∀ (listed : Array Bool) (a : Act) (c : Cx) (J : Nat), J ≤ ops.size → HOk E.G c → c.heap = hp J → a.defers = [] → VS c (cur pl (Lst listed) 0 s0) a.tmps → Step c0 c → (∀ i, J ≤ i → Lst listed i = false) → (∀ i, i < ops.size → Lst listed i = true) → Q .normal a c.w := by
    intro listed a c J hJ h1 h2 h3 h4 h5 hn hall
    have hJs : J = ops.size := by
      rcases Nat.lt_or_ge J ops.size with h | h
      · have := hall J h; rw [hn J (Nat.le_refl _)] at this; cases this
      · omega
    subst hJs
    have e : cur pl (Lst listed) 0 s0 = cur pl (fun k => decide (k < pl.length)) 0 s0 := by
      congr 1
      funext i
      rcases Nat.lt_or_ge i ops.size with h | h
      · rw [hall i h]; simp [hlen, h]
      · rw [hn i h]; simp [hlen]; omega
    rw [e] at h4
    exact hQ a c _ _ hfin h1 h2 h3 h4 h5
  intro f
  induction f with
  | zero =>
    intro listed a c J hMJ hJ h1 h2 h3 h4 h5 hd hj1 hj2 hcnt
    have hall : ∀ i, i < ops.size → Lst listed i = true := fun i hi => cnt_zero hcnt hi
    refine ⟨?_, done listed a c J hJ h1 h2 h3 h4 h5 hj2 hall⟩
    apply List.eq_nil_iff_forall_not_mem.2
    intro i hi
    obtain ⟨k1, k2⟩ := ready_lst hd hi
    rw [hall i k2] at k1
    cases k1
  | succ f ih =>
    intro listed a c J hMJ hJ h1 h2 h3 h4 h5 hd hj1 hj2 hcnt
    refine ⟨fun hr => ?_, fun i hi => ?_⟩
    · refine done listed a c J hJ h1 h2 h3 h4 h5 hj2 (fun i hi => ?_)
      cases hl : Lst listed i with
      | true => rfl
      | false =>
        obtain ⟨k, -, hk⟩ := ready_some hc.chk hd hi hl
        rw [hr] at hk
        cases hk
    obtain ⟨hli, hin⟩ := ready_lst hd hi
    obtain ⟨⟨o, v⟩, hov⟩ : ∃ p, pl[i]? = some p := ⟨pl[i]'(by omega), by rw [List.getElem?_eq_getElem]⟩
    have hoi := hat i o v hov
    obtain ⟨hslots, hmask⟩ := slots_ok hc.pair hat hd hi hov h4
    have hsz : i < listed.size := by rw [hd.1]; exact hin
    have hset := fun q => lst_set (i := q) hsz
    have hcnt' : cnt (Lst (listed.setIfInBounds i true)) ops.size ≤ f := by
      have := (cnt_set (L := Lst listed) (L' := Lst (listed.setIfInBounds i true)) (j := i) (fun q hq => by rw [hset]; simp [hq]) hli (by rw [hset]; simp) ops.size).1 hin
      omega
    have hdef : ∀ u : Value, (a.put o.dst u).defers = [] := fun u => by cases hdst : o.dst <;> simp [Act.put, h3]
    rcases Nat.lt_or_ge i J with hlt | hge
    · rcases hj1 i o hoi hlt with hl | ⟨him, hfl⟩
      · rw [hli] at hl; cases hl
      · refine hx.flo i o v him hov hfl (hp J) c a h1 h2 h3 hmask i hoi _ _ (fun c' u k1 k2 k3 k4 => ?_)
        refine ih _ _ c' J hMJ hJ k1 k2 (hdef u) (hslots c' u (fun _ _ => k3.vr) k4) (h5.trans k3) (hd.set hi) (fun q o' hq hqJ => ?_) (fun q hq => by rw [hset, hj2 q hq]; simp; omega) hcnt'
        rcases hj1 q o' hq hqJ with hl | hl
        · rw [hset, hl]; simp
        · exact .inr hl
    · have hiJ : i = J := by
        rcases Nat.lt_or_ge J i with hlt | hle
        · obtain ⟨oJ, hoJ⟩ : ∃ oJ, ops[J]? = some oJ := ⟨ops[J]'(by omega), by simp⟩
          rcases hc.suf J i oJ o hlt (by omega) hoJ hoi with ⟨h, -⟩ | h
          · omega
          · have := hd.ready hi h
            rw [hj2 J (Nat.le_refl _)] at this
            cases this
        · omega
      subst hiJ
      refine hx.suf i o v hMJ hov c a h1 h2 h3 hmask i hoi _ _ (fun c' u k1 k2 k3 k4 => ?_)
      refine ih _ _ c' (i + 1) (by omega) (by omega) k1 k2 (hdef u) (hslots c' u (fun _ _ => k3.vr) k4) (h5.trans k3) (hd.set hi) (fun q o' hq hqJ => ?_) (fun q hq => by rw [hset, hj2 q (by omega)]; simp; omega) hcnt'
      by_cases hqi : q = i
      · subst hqi; left; rw [hset]; simp
      · rcases hj1 q o' hq (by omega) with hl | hl
        · left; rw [hset, hl]; simp
        · exact .inr hl

/-- What is known while a region runs that may make one variable: before it is made; behind that. -/
def Mid (G : List (Nat × DV)) (c0 : Cx) (d : Option Nat) (us : List Value) (ty : TypeId) (h : List Box) (done : Bool) (a : Act) (c : Cx) : Prop := match done with
  | false => Step c0 c
  | true => ∃ cA : Cx, HOk G cA ∧ cA.heap = h ∧ Step c0 cA ∧ Step (cA.veil (.cells us.toArray ty)) c ∧ ∀ t, d = some t → t < a.tmps.size → a.tmps[t]? = some (.pointer (some ⟨cA.w.heap.size, 0, none⟩))

/-- Where a plan leaves the new variable open. -/
def openAt (pl : List (Oper × AV)) (m : Nat) (ox : Oper) : List (Oper × AV) := pl.set m (ox, .any)

theorem cur_openAt {pl : List (Oper × AV)} {m i : Nat} {ox : Oper} (hi : i ≤ m) (s : List AV) : cur (openAt pl m ox) (fun k => decide (k < i)) 0 s = cur pl (fun k => decide (k < i)) 0 s := by
  have gen : ∀ (pl : List (Oper × AV)) (m j : Nat) (s : List AV), i ≤ j + m → cur (pl.set m (ox, .any)) (fun k => decide (k < i)) j s = cur pl (fun k => decide (k < i)) j s := by
    intro pl
    induction pl with
    | nil => intro m j s _; simp
    | cons p pl ih =>
      intro m j s hm
      cases m with
      | zero =>
        obtain ⟨o, v⟩ := p
        have e : decide (j < i) = false := decide_eq_false (by omega)
        simp only [List.set_cons_zero, cur, e, Bool.false_eq_true, if_false]
      | succ m =>
        obtain ⟨o, v⟩ := p
        simp only [List.set_cons_succ, cur]
        exact ih m (j + 1) _ (by omega)
  exact gen pl m 0 s (by omega)

theorem phase1 (hE : E.OK) {m : Nat} (hc : ChkX ops m (m + 1)) (hmn : m + 1 ≤ ops.size) {ox : Oper} (hox : ops[m]? = some ox) {ty : TypeId} (hop : ox.op = .alloc ty) (hgd : ox.guard = none) {ti : TInfo} (hti : E.T[ty]? = some ti) (hz : ti.zero.length = ti.size) (hpos : 0 < ti.size)
    {s0 : List AV} {h : List Box} {pl : List (Oper × AV)} {hp : Nat → List Box} (hx : XP E ops m (m + 1) s0 h pl hp) (hpm : pl[m]? = some (ox, .ptr h.length 0)) (hhp : hp (m + 1) = h ++ [.cells (ti.zero.map .d)])
    {Q : Exit → Act → World → Prop} {Kf : List AV → List Box → Prop} {c0 : Cx} (hfin : Kf (cur pl (fun k => decide (k < pl.length)) 0 s0) (hp ops.size))
    (hQ : ∀ (a : Act) (c : Cx) (s : List AV) (h : List Box), Kf s h → HOk E.G c → c.heap = h → a.defers = [] → VS c s a.tmps → Step c0 c → Q .normal a c.w) :
    ∃ us : List Value, ∀ (f : Nat) (listed : Array Bool) (a : Act) (c : Cx), HOk E.G c → c.heap = h → a.defers = [] → VS c (cur (openAt pl m ox) (Lst listed) 0 s0) a.tmps → Mid E.G c0 ox.dst us ty h (Lst listed m) a c → DC ops listed →
      (∀ i, m + 1 ≤ i → Lst listed i = false) → cnt (Lst listed) ops.size ≤ f → wpAny E.P .any ops Q f listed a c.w := by
  obtain ⟨z, hz1, hz2⟩ := run_zero (hE.types ty ti hti) hz hpos
  obtain ⟨us, hus, -⟩ := hz2 c0
  have hul : ∀ c : Cx, VL c (ti.zero.map .d) us := fun c => by
    obtain ⟨us', e, hv⟩ := hz2 c
    rw [hus] at e
    have : us = us' := by simpa using e
    rw [this]; exact hv
  refine ⟨us, ?_⟩
  obtain ⟨hlen, hat⟩ := plan_at hx.ofs
  have hgetm : (openAt pl m ox)[m]? = some (ox, .any) := List.getElem?_set_self (by omega)
  have hget : ∀ k, k ≠ m → (openAt pl m ox)[k]? = pl[k]? := fun k hk => List.getElem?_set_ne (Ne.symm hk)
  have hat1 : ∀ k o v, (openAt pl m ox)[k]? = some (o, v) → ops[k]? = some o := fun k o v hk => by
    by_cases hkm : k = m
    · subst hkm; rw [hgetm] at hk; cases hk; exact hox
    · rw [hget k hkm] at hk; exact hat k o v hk
  have fin : ∀ (f : Nat) (listed : Array Bool) (a : Act) (c : Cx), HOk E.G c → c.heap = h → a.defers = [] → VS c (cur (openAt pl m ox) (Lst listed) 0 s0) a.tmps → Mid E.G c0 ox.dst us ty h (Lst listed m) a c → DC ops listed → (∀ i o, ops[i]? = some o → i < m + 1 → Lst listed i = true ∨ (i < m ∧ floatB o = true)) → (∀ i, m + 1 ≤ i → Lst listed i = false) → cnt (Lst listed) ops.size ≤ f → wpAny E.P .any ops Q f listed a c.w := by
    intro f listed a c h1 h2 h3 h4 h5 hd hall hs hcnt
    have hm1 : Lst listed m = true := by
      rcases hall m ox hox (by omega) with hl | ⟨hl, -⟩
      · exact hl
      · omega
    rw [hm1] at h5
    obtain ⟨cA, k1, k2, k3, k4, k5⟩ := h5
    obtain ⟨q1, q2, q3, q4⟩ := veil_step (z := ti.zero.map .d) k1 k4 h1 (h2.trans k2.symm) (hul _)
    refine phase2 hc (by omega) hx hfin hQ f listed a (c.bare (.cells (ti.zero.map .d)) cA.w.heap.size cA.bar) (m + 1) (Nat.le_refl _) hmn q1 (by rw [hhp]; simp [Cx.bare, h2]) h3 ?_ (k3.trans q2) hd hall hs hcnt
    refine ⟨by have := h4.1; rw [cur_length] at this ⊢; exact this, fun t x v hxx hv => ?_⟩
    by_cases hdt : ox.dst = some t
    · have htl : t < a.tmps.size := (Array.getElem?_eq_some_iff.1 hv).1
      -- the last writer of this slot is the new variable, or a later one
      have hconf : ∀ k o' v', pl[k]? = some (o', v') → o'.dst = some t → k ≤ m → (k = m ∨ Lst listed k = true) := fun k o' v' hk hd' hkm => by
        rcases Nat.lt_or_ge k m with hlt | hge
        · exact .inr (hd.dep (hc.pair k m o' ox hlt (hat k o' v' hk) hox (conf_left hd' (List.mem_append_left _ (by simp [hdt])))) hm1)
        · exact .inl (by omega)
      have e1 : (cur pl (Lst listed) 0 s0)[t]? = (cur pl (fun k => decide (k < 0 + m + 1)) 0 s0)[t]? := by
        refine cur_congr _ _ _ 0 s0 s0 rfl rfl (fun k o' v' hk' hd' => ?_)
        rw [Nat.zero_add, Nat.zero_add]
        rcases Nat.lt_or_ge k (m + 1) with hlt | hge
        · rcases hconf k o' v' hk' hd' (by omega) with rfl | hl
          · rw [hm1]; simp
          · rw [hl]; simp [hlt]
        · rw [hs k hge]; simp; omega
      rw [e1, cur_next _ 0 m s0 ox _ hpm, hdt] at hxx
      have htl' : t < (cur pl (fun k => decide (k < 0 + m)) 0 s0).length := by
        have := lt_of_getElem? hxx
        simpa [putS] using this
      rw [putS, List.getElem?_set_self htl'] at hxx
      cases hxx
      rw [k5 t hdt htl] at hv
      cases hv
      rw [← k2]
      exact q4
    · refine q3 x v (h4.2 t x v ?_ hv)
      rw [← hxx]
      have gen : ∀ (q : List (Oper × AV)) (m' j : Nat) (s s' : List AV), s.length = s'.length → s[t]? = s'[t]? → (∀ o v, q[m']? = some (o, v) → o.dst ≠ some t) → (cur (q.set m' (ox, .any)) (Lst listed) j s)[t]? = (cur q (Lst listed) j s')[t]? := by
        intro q
        induction q with
        | nil => intro m' j s s' _ hs _; exact hs
        | cons p q ih =>
          intro m' j s s' hl hs hq
          obtain ⟨po, pv⟩ := p
          have hlen' : ∀ (b : Bool) (r : List AV) (o : Oper) (v : AV), (if b then putS r o.dst v else r).length = r.length := fun b r o v => by cases b <;> cases o.dst <;> simp [putS]
          cases m' with
          | zero =>
            simp only [List.set_cons_zero, cur]
            refine cur_congr _ _ _ _ _ _ (by rw [hlen', hlen', hl]) ?_ (fun _ _ _ _ _ => rfl)
            have := hq po pv rfl
            cases Lst listed j <;> simp [putS_other this, putS_other hdt, hs]
          | succ m' =>
            simp only [List.set_cons_succ, cur]
            refine ih m' (j + 1) _ _ (by rw [hlen', hlen', hl]) ?_ (fun o v ho => hq o v (by simpa using ho))
            cases Lst listed j
            · simpa using hs
            · simp only [if_true]; exact putS_get hl hs
      exact gen pl m 0 s0 s0 rfl rfl (fun o v ho => by rw [hpm] at ho; cases ho; exact hdt)
  intro f
  induction f with
  | zero =>
    intro listed a c h1 h2 h3 h4 h5 hd hs hcnt
    exact fin 0 listed a c h1 h2 h3 h4 h5 hd (fun i o ho _ => .inl (cnt_zero hcnt (Array.getElem?_eq_some_iff.1 ho).1)) hs hcnt
  | succ f ih =>
    intro listed a c h1 h2 h3 h4 h5 hd hs hcnt
    by_cases hall : ∀ i o, ops[i]? = some o → i < m + 1 → Lst listed i = true ∨ (i < m ∧ floatB o = true)
    · exact fin (f + 1) listed a c h1 h2 h3 h4 h5 hd hall hs hcnt
    · have : ∃ i o, ops[i]? = some o ∧ i < m + 1 ∧ Lst listed i = false ∧ ¬ (i < m ∧ floatB o = true) := by
        apply Classical.byContradiction
        intro hne
        apply hall
        intro i o ho hi
        cases hl : Lst listed i with
        | true => exact .inl rfl
        | false =>
          right
          apply Classical.byContradiction
          intro hf
          exact hne ⟨i, o, ho, hi, hl, hf⟩
      obtain ⟨i0, o0, ho0, hi0, hl0, hf0⟩ := this
      refine ⟨fun hr => ?_, fun i hi => ?_⟩
      · obtain ⟨i, -, hi⟩ := ready_some hc.chk hd (by omega) hl0
        rw [hr] at hi
        cases hi
      obtain ⟨hli, hin⟩ := ready_lst hd hi
      have him : i < m + 1 := by
        rcases Nat.lt_or_ge i (m + 1) with h | h
        · exact h
        · rcases hc.suf i0 i o0 ops[i] (by omega) h ho0 (by simp [hin]) with hf | hdp
          · exact absurd hf hf0
          · have := hd.ready hi hdp
            rw [hl0] at this
            cases this
      have hsz : i < listed.size := by rw [hd.1]; exact hin
      have hset := fun q => lst_set (i := q) hsz
      have hcnt' : cnt (Lst (listed.setIfInBounds i true)) ops.size ≤ f := by
        have := (cnt_set (L := Lst listed) (L' := Lst (listed.setIfInBounds i true)) (j := i) (fun q hq => by rw [hset]; simp [hq]) hli (by rw [hset]; simp) ops.size).1 hin
        omega
      have hs' : ∀ q, m + 1 ≤ q → Lst (listed.setIfInBounds i true) q = false := fun q hq => by rw [hset, hs q hq]; simp; omega
      rcases Nat.lt_or_ge i m with hlt | hge
      · obtain ⟨⟨o, v⟩, hov⟩ : ∃ p, pl[i]? = some p := ⟨pl[i]'(by omega), by rw [List.getElem?_eq_getElem]⟩
        have hoi := hat i o v hov
        have hov1 : (openAt pl m ox)[i]? = some (o, v) := by rw [hget i (by omega)]; exact hov
        obtain ⟨hslots, hmask⟩ := slots_ok hc.pair hat1 hd hi hov1 h4
        rw [cur_openAt (by omega)] at hmask
        have hdef : ∀ u : Value, (a.put o.dst u).defers = [] := fun u => by cases hdst : o.dst <;> simp [Act.put, h3]
        have hfact : OpFact E ops o (cur pl (fun k => decide (k < i)) 0 s0) h v := by
          cases hfl : floatB o with
          | true => exact hx.flo i o v hlt hov hfl h
          | false => exact hx.pre i o v hlt hov hfl
        refine hfact c a h1 h2 h3 hmask i hoi _ _ (fun c' u k1 k2 k3 k4 => ?_)
        refine ih _ _ c' k1 k2 (hdef u) (hslots c' u (fun _ _ => k3.vr) k4) ?_ (hd.set hi) hs' hcnt'
        have hm' : Lst (listed.setIfInBounds i true) m = Lst listed m := by rw [hset]; simp; omega
        rw [hm']
        cases hlm : Lst listed m with
        | false => rw [hlm] at h5; exact Step.trans h5 k3
        | true =>
          rw [hlm] at h5
          obtain ⟨cA, p1, p2, p3, p4, p5⟩ := h5
          refine ⟨cA, p1, p2, p3, p4.trans k3, fun t ht htl => ?_⟩
          have hne : o.dst ≠ some t := fun e => by
            have := hd.dep (hc.pair i m o ox hlt hoi hox (conf_left e (List.mem_append_left _ (by simp [ht])))) hlm
            rw [hli] at this
            cases this
          cases hdst : o.dst with
          | none => rw [hdst] at htl; simp only [Act.put] at htl ⊢; exact p5 t ht htl
          | some d =>
            have hne' : d ≠ t := fun e => hne (by rw [hdst, e])
            rw [hdst] at htl
            simp only [Act.put, Array.size_setIfInBounds] at htl
            simp only [Act.put, Array.getElem?_setIfInBounds_ne hne']
            exact p5 t ht htl
      · obtain rfl : i = m := by omega
        obtain ⟨hslots, -⟩ := slots_ok hc.pair hat1 hd hi hgetm h4
        rw [hli] at h5
        have h5 : Step c0 c := h5
        have hrun : (execOp a.eval ox).run E.P c.w = .ok (.value (.pointer (some ⟨c.w.heap.size, 0, none⟩))) (c.w.alloc (.cells us.toArray ty)) := by
          simp only [execOp, hop, Instr.alloc, newVar, newRow, newObj, Sem.run_bind, Sem.run, Result.andThen_ok, Sem.run_pure, hz1, hus]
          rfl
        unfold wpOp
        have hwant : Region.wanted ox (yielded ops a.tmps) = true := by simp [Region.wanted, hgd]
        simp only [hox, hwant, if_true]
        left
        unfold Oper.wp
        rw [hrun]
        refine ih _ _ (c.veil (.cells us.toArray ty)) h1.veil h2 (by cases hdst : ox.dst <;> simp [Act.put, h3]) (hslots _ _ (fun _ _ => veil_vr) (.any _)) ?_ (hd.set hi) hs' hcnt'
        have hm' : Lst (listed.setIfInBounds i true) i = true := by rw [hset]; simp
        rw [hm']
        refine ⟨c, h1, h2, h5, Step.refl _ h1.veil.barlt, fun t ht htl => ?_⟩
        rw [ht] at htl ⊢
        simp only [Act.put, Array.size_setIfInBounds] at htl
        simp only [Act.put]
        exact Array.getElem?_setIfInBounds_self_of_lt htl

/-- Without a new variable. -/
theorem phase0 {m : Nat} (hc : ChkX ops m m) (hmn : m ≤ ops.size) {s0 : List AV} {h : List Box} {pl : List (Oper × AV)} {hp : Nat → List Box} (hx : XP E ops m m s0 h pl hp) (hhp : hp m = h)
    {Q : Exit → Act → World → Prop} {Kf : List AV → List Box → Prop} {c0 : Cx} (hfin : Kf (cur pl (fun k => decide (k < pl.length)) 0 s0) (hp ops.size))
    (hQ : ∀ (a : Act) (c : Cx) (s : List AV) (h : List Box), Kf s h → HOk E.G c → c.heap = h → a.defers = [] → VS c s a.tmps → Step c0 c → Q .normal a c.w) :
    ∀ (f : Nat) (listed : Array Bool) (a : Act) (c : Cx), HOk E.G c → c.heap = h → a.defers = [] → VS c (cur pl (Lst listed) 0 s0) a.tmps → Step c0 c → DC ops listed →
      (∀ i, m ≤ i → Lst listed i = false) → cnt (Lst listed) ops.size ≤ f → wpAny E.P .any ops Q f listed a c.w := by
  obtain ⟨hlen, hat⟩ := plan_at hx.ofs
  have fin : ∀ (f : Nat) (listed : Array Bool) (a : Act) (c : Cx), HOk E.G c → c.heap = h → a.defers = [] → VS c (cur pl (Lst listed) 0 s0) a.tmps → Step c0 c → DC ops listed → (∀ i o, ops[i]? = some o → i < m → Lst listed i = true ∨ (i < m ∧ floatB o = true)) → (∀ i, m ≤ i → Lst listed i = false) → cnt (Lst listed) ops.size ≤ f → wpAny E.P .any ops Q f listed a c.w :=
    fun f listed a c h1 h2 h3 h4 h5 hd hall hs hcnt => phase2 hc (Nat.le_refl _) hx hfin hQ f listed a c m (Nat.le_refl _) hmn h1 (h2.trans hhp.symm) h3 h4 h5 hd hall hs hcnt
  intro f
  induction f with
  | zero =>
    intro listed a c h1 h2 h3 h4 h5 hd hs hcnt
    exact fin 0 listed a c h1 h2 h3 h4 h5 hd (fun i o ho _ => .inl (cnt_zero hcnt (Array.getElem?_eq_some_iff.1 ho).1)) hs hcnt
  | succ f ih =>
    intro listed a c h1 h2 h3 h4 h5 hd hs hcnt
    by_cases hall : ∀ i o, ops[i]? = some o → i < m → Lst listed i = true ∨ (i < m ∧ floatB o = true)
    · exact fin (f + 1) listed a c h1 h2 h3 h4 h5 hd hall hs hcnt
    · have : ∃ i o, ops[i]? = some o ∧ i < m ∧ Lst listed i = false ∧ ¬ (i < m ∧ floatB o = true) := by
        apply Classical.byContradiction
        intro hne
        apply hall
        intro i o ho hi
        cases hl : Lst listed i with
        | true => exact .inl rfl
        | false =>
          right
          apply Classical.byContradiction
          intro hf
          exact hne ⟨i, o, ho, hi, hl, hf⟩
      obtain ⟨i0, o0, ho0, hi0, hl0, hf0⟩ := this
      refine ⟨fun hr => ?_, fun i hi => ?_⟩
      · obtain ⟨i, -, hi⟩ := ready_some hc.chk hd (by omega) hl0
        rw [hr] at hi
        cases hi
      obtain ⟨hli, hin⟩ := ready_lst hd hi
      have hlt : i < m := by
        rcases Nat.lt_or_ge i m with h | h
        · exact h
        · rcases hc.suf i0 i o0 ops[i] (by omega) h ho0 (by simp [hin]) with hf | hdp
          · exact absurd hf hf0
          · have := hd.ready hi hdp
            rw [hl0] at this
            cases this
      have hsz : i < listed.size := by rw [hd.1]; exact hin
      have hset := fun q => lst_set (i := q) hsz
      have hcnt' : cnt (Lst (listed.setIfInBounds i true)) ops.size ≤ f := by
        have := (cnt_set (L := Lst listed) (L' := Lst (listed.setIfInBounds i true)) (j := i) (fun q hq => by rw [hset]; simp [hq]) hli (by rw [hset]; simp) ops.size).1 hin
        omega
      obtain ⟨⟨o, v⟩, hov⟩ : ∃ p, pl[i]? = some p := ⟨pl[i]'(by omega), by rw [List.getElem?_eq_getElem]⟩
      have hoi := hat i o v hov
      obtain ⟨hslots, hmask⟩ := slots_ok hc.pair hat hd hi hov h4
      have hfact : OpFact E ops o (cur pl (fun k => decide (k < i)) 0 s0) h v := by
        cases hfl : floatB o with
        | true => exact hx.flo i o v hlt hov hfl h
        | false => exact hx.pre i o v hlt hov hfl
      refine hfact c a h1 h2 h3 hmask i hoi _ _ (fun c' u k1 k2 k3 k4 => ?_)
      exact ih _ _ c' k1 k2 (by cases hdst : o.dst <;> simp [Act.put, h3]) (hslots c' u (fun _ _ => k3.vr) k4) (h5.trans k3) (hd.set hi) (fun q hq => by rw [hset, hs q hq]; simp; omega) hcnt'

end
end Go.Eng
