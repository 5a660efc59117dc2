/- The engine, part W: rows and iterators that no box tells of: own arrays taken out of them and put back; loops over maps. No conditions. -/
import Derived.Test.YtebielkakdhelaaGreatDoorZEngQ
import Derived.Maps.RangeRun
set_option linter.unusedVariables false
set_option linter.unusedSimpArgs false
namespace Go.Eng
open Go Go.RowKit
open Go.ChangeMaps (setBlock)

theorem relBox_ext {c0 c c' : Cx} {i : Nat} (hh : ∀ x, c.heap[i]? = some x → c'.heap[i]? = some x) (ho : ∀ x, c.heap[i]? = some x → c'.own i = c.own i) {bx : Box} (h : RelBox c0 c i bx) : RelBox c0 c' i bx := by
  cases bx with
  | cells cs =>
    rcases h with ⟨cs', h1, h2, h3⟩ | h1
    · exact .inl ⟨cs', hh _ h1, (ho _ h1).trans h2, h3⟩
    · exact .inr (hh _ h1)
  | arr g sz l =>
    rcases h with ⟨g', l', h1, h2⟩ | h1
    · refine .inl ⟨g', l', hh _ h1, ?_⟩
      rcases h2 with h2 | ⟨h2, h3, h4⟩
      · exact .inl h2
      · exact .inr ⟨h2, h3, (ho _ h1).trans h4⟩
    · exact .inr (hh _ h1)
  | map es =>
    rcases h with ⟨es', h1, h2⟩ | h1
    · exact .inl ⟨es', hh _ h1, (ho _ h1).trans h2⟩
    · exact .inr (hh _ h1)
  | gone => exact hh _ h

section
variable {G : List (Nat × DV)} {c : Cx} {bx : Box} {blk cap : Nat}

/-- A box's block is barred instead. -/
def Cx.bury (c : Cx) (b blk : Nat) : Cx := ⟨fun i => if i = b then none else c.own i, c.heap.set b .gone, fun x => c.bar x ∨ x = blk, c.w⟩
variable {b : Nat}
theorem bury_own {i : Nat} {p : Nat × Nat} (hi : (c.bury b blk).own i = some p) : i ≠ b ∧ c.own i = some p := by
  simp only [Cx.bury] at hi
  split at hi
  · cases hi
  · rename_i q; exact ⟨q, hi⟩
theorem bury_bad (hb : c.own b = some (blk, cap)) (x : Nat) : (c.bury b blk).bad x ↔ c.bad x := by
  constructor
  · rintro ((h | h) | ⟨i, n, h⟩)
    · exact .inl h
    · subst h; exact .inr ⟨b, cap, hb⟩
    · exact .inr ⟨i, n, (bury_own h).2⟩
  · rintro (h | ⟨i, n, h⟩)
    · exact .inl (.inl h)
    · by_cases e : i = b
      · subst e; rw [hb] at h; cases h; exact .inl (.inr rfl)
      · exact .inr ⟨i, n, by simp only [Cx.bury, if_neg e]; exact h⟩
theorem bury_badOf (hb : c.own b = some (blk, cap)) (x : Nat) (_ : x < c.w.heap.size) (hn : ¬ c.bad x) : ¬ (c.bury b blk).bad x ∧ (c.bury b blk).w.heap[x]? = c.w.heap[x]? := ⟨fun h => hn ((bury_bad hb x).1 h), rfl⟩
theorem bury_step {i : Nat} {y : Box} (hi : c.heap[i]? = some y) : BoxStep c (c.bury b blk) i y := by
  by_cases e : i = b
  · subst e
    have hg : (c.bury i blk).heap[i]? = some .gone := List.getElem?_set_self (lt_of_getElem? hi)
    cases y with
    | cells cs => exact .inr hg
    | arr g sz l => exact .inr hg
    | map es => exact .inr hg
    | gone => exact hg
  · exact boxStep_same hi (List.getElem?_set_ne (Ne.symm e)) (by simp only [Cx.bury, if_neg e])
theorem bury_vr (hb : c.own b = some (blk, cap)) {x : AV} {v : Value} (hv : VR c x v) : VR (c.bury b blk) x v := vr_gen (bury_badOf hb) (fun _ _ => bury_step) hv
theorem bury_vd (hb : c.own b = some (blk, cap)) {x : DV} {v : Value} (hv : VD c.bad c.w x v) : VD (c.bury b blk).bad (c.bury b blk).w x v := hv.mono (bury_badOf hb)
theorem HOk.bury (ho : HOk G c) (hb : c.own b = some (blk, cap)) : HOk G (c.bury b blk) where
  barlt := fun x h => h.elim (ho.barlt x) fun e => by subst e; exact (ho.ownlt b _ cap hb).1
  ownlt := fun i x n hi => by
    have := ho.ownlt i x n (bury_own hi).2
    refine ⟨this.1, ?_⟩
    show i < (c.heap.set b .gone).length
    rw [List.length_set]; exact this.2
  inj := fun i j x n m hi hj => ho.inj i j x n m (bury_own hi).2 (bury_own hj).2
  sep := fun i x n hi h => by
    obtain ⟨h1, h2⟩ := bury_own hi
    rcases h with h | h
    · exact ho.sep i x n h2 h
    · subst h; exact h1 (ho.inj i b x n cap h2 hb)
  box := fun i y hx => by
    by_cases e : i = b
    · subst e
      have hlt : i < c.heap.length := (ho.ownlt i _ cap hb).2
      have : (c.bury i blk).heap[i]? = some .gone := List.getElem?_set_self hlt
      rw [this] at hx
      cases hx
      show (c.bury i blk).own i = none
      simp [Cx.bury]
    · have hx' : c.heap[i]? = some y := by
        have : (c.bury b blk).heap[i]? = c.heap[i]? := List.getElem?_set_ne (Ne.symm e)
        rwa [this] at hx
      exact (ho.box i y hx').gen (fun _ _ => bury_vr hb) (fun _ _ => bury_vd hb) (by simp only [Cx.bury, if_neg e]) (fun _ _ _ => rfl)
  glob := fun g e hg => bury_vr hb (ho.glob g e hg)
theorem own_new {c0 : Cx} (hr : RelX c0 c) (hb : c.own b = some (blk, cap)) (hn : c0.heap.length ≤ b) : c0.w.heap.size ≤ blk := by
  rcases Nat.lt_or_ge blk c0.w.heap.size with h | h
  · obtain ⟨m, hm⟩ := hr.newown b blk cap hb h
    have := hr.own0 b _ hm
    omega
  · exact h
theorem RelX.bury {c0 : Cx} (hr : RelX c0 c) (hb : c.own b = some (blk, cap)) (hn : c0.heap.length ≤ b) : RelX c0 (c.bury b blk) where
  lim := hr.lim
  own0 := hr.own0
  bar := fun x h => .inl (hr.bar x h)
  barnew := fun x h => h.elim (hr.barnew x) fun e => .inr (by subst e; exact own_new hr hb hn)
  os := hr.os
  tape := hr.tape
  output := hr.output
  size := hr.size
  keep := hr.keep
  newown := fun i x n hi hlt => hr.newown i x n (bury_own hi).2 hlt
  boxes := fun i bx hi => by
    have hib : i ≠ b := fun e => by have := lt_of_getElem? hi; omega
    exact relBox_ext (fun x hx => (List.getElem?_set_ne (Ne.symm hib)).trans hx) (fun x hx => by simp only [Cx.bury, if_neg hib]) (hr.boxes i bx hi)
theorem RowsOK.bury {lim : Nat} {rows : List Ghost} (h : RowsOK lim c rows) (hb : c.own b = some (blk, cap)) : RowsOK lim (c.bury b blk) rows :=
  ⟨fun r hr => (h.each r hr).gen (fun x hx => ⟨.inl ((h.each r hr).bar x hx), rfl⟩) (fun _ _ => bury_vd hb) (fun _ _ => bury_vr hb), h.nodup⟩
theorem own_notin {lim : Nat} {rows : List Ghost} (h : RowsOK lim c rows) (ho : HOk G c) (hb : c.own b = some (blk, cap)) : blk ∉ rows.flatMap Ghost.blks := fun hm => by
  obtain ⟨r, hr, hx⟩ := List.mem_flatMap.1 hm
  exact ho.sep b blk cap hb ((h.each r hr).bar blk hx)
theorem nodup_mid {α : Type} {a b c : List α} (h : (a ++ b ++ c).Nodup) : (a ++ c).Nodup ∧ ∀ x ∈ b, x ∉ a ++ c := by
  have hp : (a ++ b ++ c).Perm (b ++ (a ++ c)) := by
    rw [List.append_assoc, ← List.append_assoc b a c]
    refine (List.Perm.trans ?_ (List.Perm.append_right c List.perm_append_comm))
    rw [List.append_assoc]
  have h2 := (hp.nodup_iff).1 h
  rw [List.nodup_append] at h2
  exact ⟨h2.2.1, fun x hx hx' => h2.2.2 x hx x hx' rfl⟩
theorem RowsOK.without {lim : Nat} {g1 g2 : List Ghost} {g : Ghost} (h : RowsOK lim c (g1 ++ g :: g2)) : RowsOK lim c (g1 ++ g2) ∧ GhostOK lim c g ∧ ∀ x ∈ g.blks, x ∉ (g1 ++ g2).flatMap Ghost.blks := by
  have hn := h.nodup
  rw [List.flatMap_append, List.flatMap_cons, ← List.append_assoc] at hn
  obtain ⟨h1, h2⟩ := nodup_mid hn
  rw [← List.flatMap_append] at h1 h2
  refine ⟨⟨fun r hr => h.each r ?_, h1⟩, h.each g (by simp), h2⟩
  rcases List.mem_append.1 hr with hr | hr
  · exact List.mem_append_left _ hr
  · exact List.mem_append_right _ (List.mem_cons_of_mem _ hr)
end

theorem RowsX.without {lim : Nat} {c : Cx} {g1 g2 L : List Ghost} {g : Ghost} (h : RowsX lim c (g1 ++ g :: g2) L) : RowsX lim c (g1 ++ g2) L ∧ GhostOK lim c g ∧ ∀ x ∈ g.blks, x ∉ ((g1 ++ g2) ++ L).flatMap Ghost.blks := by
  have h1 := h.all
  rw [List.append_assoc, List.cons_append] at h1
  obtain ⟨k1, k2, k3⟩ := h1.without
  rw [← List.append_assoc] at k1 k3
  refine ⟨⟨k1, fun x hx => h.flat x ?_⟩, k2, k3⟩
  rcases List.mem_append.1 hx with hx | hx
  · exact List.mem_append_left _ hx
  · exact List.mem_append_right _ (List.mem_cons_of_mem _ hx)
theorem vs_same {c : Cx} {s : List AV} {t : Array Value} (hv : VS c s t) {d : Nat} {x : AV} (hx : ∀ v, t[d]? = some v → VR c x v) : VS c (s.set d x) t := by
  refine ⟨by simpa using hv.1, fun i y u hy hu => ?_⟩
  by_cases hd : d = i
  · subst hd
    have hl : d < s.length := by have := lt_of_getElem? hy; simpa using this
    rw [List.getElem?_set_self hl] at hy
    cases hy
    exact hx u hu
  · rw [List.getElem?_set_ne hd] at hy
    exact hv.2 i y u hy hu

section
variable {E : Env} {fid : FuncId} {R : Post} {td : List AItem} {s : List AV} {h : List Box} {lits : List Nat}

/-- An own array is put away as a row. -/
theorem AWL.bury (d b : Nat) {g : Nat} {ts : Nat × Nat} {l : List DV} (hb : h[b]? = some (.arr g ts l)) (hnb : R.n ≤ b) (hd : s[d]? = some (.own b g))
    (H0 : l = [] → AWL E fid R lits td (s.set d (.d (.raw (.slice none 0 0)))) (h.set b .gone))
    (H : ∀ blk cap, AWL E fid ⟨R.n, R.Q, .row ⟨blk, cap, ts, l⟩ :: R.rows, R.fx⟩ lits td (s.set d (.d (.raw (.slice (some ⟨blk, 0, none⟩) l.length cap)))) (h.set b .gone)) : AWL E fid R lits td s h := by
  refine .of ?_
  unfold AW
  intro c0 c t ts' h0 h1 h2 h3 hr hrow h4 h5 cs
  subst h2
  obtain ⟨q0, q1, q2⟩ := h3.box b _ hb
  rcases q2 with ⟨q2, q3⟩ | ⟨blk, cap, vs, q2, q3, q4, q5, q6, q7⟩
  · subst q3
    have H := (H0 rfl).to
    -- a nil slice: the box is forgotten
    let c' : Cx := { c with own := fun i => if i = b then none else c.own i, heap := c.heap.set b .gone }
    have hgone : c'.heap[b]? = some .gone := List.getElem?_set_self (lt_of_getElem? hb)
    have hown : ∀ i, c'.own i = c.own i := fun i => by
      simp only [c']
      split
      · rename_i e; subst e; exact q2.symm
      · rfl
    have hbad : ∀ x, c'.bad x ↔ c.bad x := fun x => by
      constructor
      · rintro (h | ⟨i, n, h⟩)
        · exact .inl h
        · exact .inr ⟨i, n, (hown i) ▸ h⟩
      · rintro (h | ⟨i, n, h⟩)
        · exact .inl h
        · exact .inr ⟨i, n, (hown i).trans h⟩
    have hst : Step c c' := ⟨rfl, h3.barlt, rfl, rfl, rfl, Nat.le_refl _, fun _ _ _ => rfl, fun i x n hi _ => ⟨n, (hown i) ▸ hi⟩, fun i bx hi => by
      by_cases e : i = b
      · subst e
        rw [hb] at hi
        cases hi
        exact .inr hgone
      · exact boxStep_same hi (List.getElem?_set_ne (Ne.symm e)) (hown i)⟩
    have hok : HOk E.G c' := h3.next hst (fun i x n hi => by
        have := h3.ownlt i x n ((hown i) ▸ hi)
        refine ⟨this.1, ?_⟩
        show i < (c.heap.set b .gone).length
        rw [List.length_set]; exact this.2) (fun i j x n m hi hj => h3.inj i j x n m ((hown i) ▸ hi) ((hown j) ▸ hj)) (fun i bx hi => by
      by_cases e : i = b
      · subst e
        rw [hgone] at hi
        cases hi
        right
        show c'.own i = none
        simp [c']
      · have : c'.heap[i]? = c.heap[i]? := List.getElem?_set_ne (Ne.symm e)
        rw [this] at hi
        exact .inl ⟨hi, hown i, fun _ _ _ => rfl⟩)
    unfold AW at H
    refine H c0 c' t ts' h0 h1 rfl hok (hr.step hst) (hrow.step h3 hst) (vs_same (hst.vs h4) fun v hv => ?_) (hst.cr h5) cs
    have hv' := h4.2 d _ v hd hv
    rcases vr_own hb hv' with ⟨blk, cap, r1, rfl⟩ | ⟨-, rfl, -⟩
    · rw [q2] at r1; cases r1
    · exact .d _ _ (.raw _ rfl)
  · have H := (H blk cap).to
    unfold AW at H
    have hnew := own_new hr q2 (by omega)
    have hok := h3.bury q2
    refine H c0 (c.bury b blk) t ts' h0 h1 rfl hok (hr.bury q2 (by omega)) ⟨⟨fun r hmr => ?_, ?_⟩, fun g hg => (List.mem_cons.1 hg).elim (fun e => by subst e; trivial) (hrow.flat g)⟩ (vs_same ⟨h4.1, fun i x v hx hv => bury_vr q2 (h4.2 i x v hx hv)⟩ fun v hv => ?_) (cr_gen (fun _ _ => bury_vr q2) h5) cs
    · rcases List.mem_cons.1 hmr with rfl | hmr
      · show RowOK c0.w.heap.size (c.bury b blk) ⟨blk, cap, ts, l⟩
        exact ⟨Or.inr rfl, hnew, q0, q1, vs, q3, q4, q5, q6, fun i j e x he hx => by
          obtain ⟨v, k1, k2, k3⟩ := q7 i j e x he hx
          exact ⟨v, k1, k2, bury_vd q2 k3⟩⟩
      · exact (hrow.all.bury q2).each r hmr
    · rw [List.cons_append, List.flatMap_cons]
      refine List.nodup_append.2 ⟨by simp [Ghost.blks], hrow.all.nodup, fun x hx y hy e => ?_⟩
      simp [Ghost.blks] at hx
      subst hx; subst e
      exact own_notin hrow.all h3 q2 hy
    · have hv' := h4.2 d _ v hd hv
      rcases vr_own hb hv' with ⟨blk', cap', r1, rfl⟩ | ⟨rfl, rfl, r1⟩
      · rw [q2] at r1; cases r1
        exact .d _ _ (.raw _ rfl)
      · rw [q2] at r1; cases r1

end
end Go.Eng
