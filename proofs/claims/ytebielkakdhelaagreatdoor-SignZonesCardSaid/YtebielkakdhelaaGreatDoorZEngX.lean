/- The engine, part X: loops over maps, as rules. No conditions. -/
import Derived.Test.YtebielkakdhelaaGreatDoorZEngW
set_option linter.unusedVariables false
set_option linter.unusedSimpArgs false
namespace Go.Eng
open Go Go.RowKit
open Go.ChangeMaps (setBlock)

section
variable {G : List (Nat × DV)} {c : Cx} {r : Nat} {w' : World}

/-- A world that differs at one barred block alone. -/
structure Touch (c : Cx) (r : Nat) (w' : World) : Prop where
  bar : c.bar r
  os : w'.os = c.w.os
  tape : w'.tape = c.w.tape
  output : w'.output = c.w.output
  size : w'.heap.size = c.w.heap.size
  other : ∀ b, b ≠ r → w'.heap[b]? = c.w.heap[b]?
theorem Touch.badOf (h : Touch c r w') (b : Nat) (_ : b < c.w.heap.size) (hn : ¬ c.bad b) : ¬ (c.inW w').bad b ∧ (c.inW w').w.heap[b]? = c.w.heap[b]? :=
  ⟨hn, h.other b (fun e => by subst e; exact hn (.inl h.bar))⟩
theorem Touch.vr (h : Touch c r w') {x : AV} {v : Value} (hv : VR c x v) : VR (c.inW w') x v := vr_gen h.badOf (fun _ _ hi => boxStep_same hi rfl rfl) hv
theorem Touch.vd (h : Touch c r w') {x : DV} {v : Value} (hv : VD c.bad c.w x v) : VD (c.inW w').bad (c.inW w').w x v := hv.mono h.badOf
theorem Touch.hok (h : Touch c r w') (ho : HOk G c) : HOk G (c.inW w') where
  barlt := fun b hb => by show b < w'.heap.size; rw [h.size]; exact ho.barlt b hb
  ownlt := fun i b n hi => by show b < w'.heap.size ∧ _; rw [h.size]; exact ho.ownlt i b n hi
  inj := ho.inj
  sep := ho.sep
  box := fun i bx hi => (ho.box i bx hi).gen (fun _ _ => h.vr) (fun _ _ => h.vd) rfl (fun b n hn => h.other b (fun e => by subst e; exact ho.sep i _ n hn h.bar))
  glob := fun g e hg => h.vr (ho.glob g e hg)
theorem Touch.rel (h : Touch c r w') {c0 : Cx} (hr : RelX c0 c) (hl : c0.w.heap.size ≤ r) : RelX c0 (c.inW w') where
  lim := hr.lim
  own0 := hr.own0
  bar := hr.bar
  barnew := hr.barnew
  os := h.os.trans hr.os
  tape := h.tape.trans hr.tape
  output := h.output.trans hr.output
  size := by show _ ≤ w'.heap.size; rw [h.size]; exact hr.size
  keep := fun b hb hn => (h.other b (by omega)).trans (hr.keep b hb hn)
  newown := hr.newown
  boxes := fun i bx hi => relBox_ext (fun _ hx => hx) (fun _ _ => rfl) (hr.boxes i bx hi)
theorem Touch.rows (h : Touch c r w') {lim : Nat} {rows : List Ghost} (hr : RowsOK lim c rows) (hn : r ∉ rows.flatMap Ghost.blks) : RowsOK lim (c.inW w') rows :=
  ⟨fun g hg => (hr.each g hg).gen (fun b hb => ⟨(hr.each g hg).bar b hb, h.other b (fun e => hn (List.mem_flatMap.2 ⟨g, hg, e ▸ hb⟩))⟩) (fun _ _ => h.vd) (fun _ _ => h.vr), hr.nodup⟩

variable {o : Obj}
theorem RelX.veil {c0 : Cx} (hr : RelX c0 c) : RelX c0 (c.veil o) where
  lim := hr.lim
  own0 := hr.own0
  bar := fun b h => .inl (hr.bar b h)
  barnew := fun b h => h.elim (hr.barnew b) fun e => .inr (by rw [e]; exact hr.size)
  os := hr.os
  tape := hr.tape
  output := hr.output
  size := by have := hr.size; show _ ≤ (c.w.alloc o).heap.size; simp; omega
  keep := fun b hb hn => by
    show (c.w.alloc o).heap[b]? = _
    rw [Below.heap_alloc c.w o b (by have := hr.size; omega)]
    exact hr.keep b hb hn
  newown := hr.newown
  boxes := fun i bx hi => relBox_ext (fun _ hx => hx) (fun _ _ => rfl) (hr.boxes i bx hi)
theorem RowsOK.veil {lim : Nat} {rows : List Ghost} (hr : RowsOK lim c rows) (ho : HOk G c) : RowsOK lim (c.veil o) rows :=
  ⟨fun g hg => (hr.each g hg).gen (fun b hb => ⟨.inl ((hr.each g hg).bar b hb), Below.heap_alloc c.w o b (ho.barlt _ ((hr.each g hg).bar b hb))⟩) (fun _ _ => veil_vd) (fun _ _ => veil_vr), hr.nodup⟩
end

theorem bornOf {en : Array MapEntry} {j : Nat} (h : j < en.size) : ((en[j]?).map (·.born)).getD 0 = en[j].born := by simp [h]
theorem born_inj {en : Array MapEntry} (hn : (en.toList.map (·.born)).Nodup) {i j : Nat} (hi : i < en.size) (hj : j < en.size) (h : en[i].born = en[j].born) : i = j := by
  have h1 : (en.toList.map (·.born))[i]? = some en[i].born := by simp [hi]
  have h2 : (en.toList.map (·.born))[j]? = some en[i].born := by simp [hj, h]
  exact nodup_inj hn h1 h2
/-- What is left, by places. -/
theorem left_iff {en : Array MapEntry} (hn : (en.toList.map (·.born)).Nodup) {seen : List Nat} (hlt : ∀ j ∈ seen, j < en.size) {j : Nat} (hj : j < en.size) :
    en[j] ∈ (leftOf en ((seen.map fun j => ((en[j]?).map (·.born)).getD 0).toArray)).toList ↔ j ∉ seen := by
  simp only [leftOf, Array.toList_filter, List.mem_filter, List.contains_toArray, Bool.not_eq_true', List.contains_eq_mem, decide_eq_false_iff_not, List.mem_map, not_exists, not_and]
  constructor
  · rintro ⟨-, h⟩ hm
    exact h j hm (bornOf hj)
  · intro h
    refine ⟨by simp, fun k hk e => ?_⟩
    rw [bornOf (hlt k hk)] at e
    exact h (born_inj hn (hlt k hk) hj e ▸ hk)

section
variable {E : Env} {fid : FuncId} {R : Post} {s : List AV} {h : List Box} {lits : List Nat} {ops : Array Oper} {o : Oper} {l : List Oper} {k : List AItem}

/-- A loop over a map begins. -/
theorem AWL.range (hE : E.OK) {t kt e b : Nat} {m : Operand} {es : List (DV × DV)} {ti : TInfo} (hg : o.guard = none) (hop : o.op = .range t m) (hti : E.T[t]? = some ti) (hk : ti.k = .map kt e) (hm : EvOK E.G s m (.map b)) (hb : h[b]? = some (.map es)) (hnb : R.n ≤ b)
    (H : ∀ i : Iter, i.seen = [] → i.es = es → i.since ≤ i.ck → AWL E fid ⟨R.n, R.Q, .iter i :: R.rows, R.fx⟩ lits (.reg ops l :: k) (putS s o.dst (.d (.raw (.pointer (some ⟨i.r, 0, none⟩))))) (h.set b .gone)) : AWL E fid R lits (.reg ops (o :: l) :: k) s h := by
  refine .of ?_
  unfold AW
  intro c0 c t' ts' h0 h1 h2 h3 hr hrow h4 h5 cs
  subst h2
  obtain ⟨i, hi, hcn, hok⟩ := reg_at (h1 _ (List.mem_cons_self ..))
  obtain ⟨tyi, d, g1, g2, g3, -⟩ := tinfo_inv (hE.types t ti hti)
  have hd : d = .map kt e := by rw [hk] at g3; cases d <;> first | (cases g3; rfl) | cases g3
  subst hd
  have hmv := hm c ⟨t', marks R.fx.dfs⟩ h3 h4
  obtain ⟨blk, cap, en, ck, q1, q2, q3, qe, q4⟩ := map_box h3 hb hmv
  -- the map is barred, the iterator is laid
  have hk1 := h3.bury q2
  have hr1 := hr.bury q2 (by omega)
  have hw1 : (c.bury b blk).w = c.w := rfl
  let it : Obj := .mapIter (some blk) ck #[] ck
  have hk2 : HOk E.G ((c.bury b blk).veil it) := hk1.veil
  have hr2 : RelX c0 ((c.bury b blk).veil it) := hr1.veil
  have hblk : blk < c.w.heap.size := (h3.ownlt b blk cap q2).1
  let gi : Iter := ⟨blk, c.w.heap.size, en, ck, ck, [], es⟩
  have hgi : IterOK c0.w.heap.size ((c.bury b blk).veil it) gi := by
    refine ⟨.inl (.inr rfl), .inr rfl, hr.size, ?_, ⟨ck, Nat.le_refl _, ?_⟩, qe.born, qe, fun j kk x mm h1 h2 => ?_, fun j hj => by simp [gi] at hj⟩
    · show (c.w.alloc it).heap[blk]? = _
      rw [Below.heap_alloc c.w it blk hblk]; exact q3
    · show (c.w.alloc it).heap[c.w.heap.size]? = _
      exact heap_alloc_new _ _
    · have := q4.2 j kk x mm h1 (by simpa using h2)
      exact ⟨veil_vd (bury_vd q2 this.1), veil_vd (bury_vd q2 this.2)⟩
  have hrows : RowsX c0.w.heap.size ((c.bury b blk).veil it) (.iter gi :: R.rows) R.fx.loops := by
    have hold := (hrow.all.bury (b := b) (blk := blk) q2).veil (o := it) hk1
    refine ⟨⟨fun g hg => ?_, ?_⟩, fun g hg => (List.mem_cons.1 hg).elim (fun e => by subst e; trivial) (hrow.flat g)⟩
    · rcases List.mem_cons.1 hg with rfl | hg
      · exact hgi
      · exact hold.each g hg
    · rw [List.cons_append, List.flatMap_cons]
      refine List.nodup_append.2 ⟨by simp [Ghost.blks, gi]; omega, hrow.all.nodup, fun x hx y hy e => ?_⟩
      subst e
      simp [Ghost.blks, gi] at hx
      rcases hx with rfl | rfl
      · exact own_notin hrow.all h3 q2 hy
      · obtain ⟨g, hg, hx⟩ := List.mem_flatMap.1 hy
        have := h3.barlt _ ((hrow.all.each g hg).bar _ hx)
        omega
  have hrun : (execOp (⟨t', marks R.fx.dfs⟩ : Act).eval o).run E.P c.w = .ok (.value (.pointer (some ⟨c.w.heap.size, 0, none⟩))) (c.w.alloc it) := by
    simp only [execOp, hop, q1, Instr.range, newObj, Sem.run_bind, run_underlying g2, Result.andThen_ok, gotMap q3, Sem.run_pure, Sem.run]
    rfl
  have hvs : VS ((c.bury b blk).veil it) (putS s o.dst (.d (.raw (.pointer (some ⟨c.w.heap.size, 0, none⟩))))) ((⟨t', marks R.fx.dfs⟩ : Act).put o.dst (.pointer (some ⟨c.w.heap.size, 0, none⟩))).tmps :=
    VS.putS (a := ⟨t', marks R.fx.dfs⟩) ⟨h4.1, fun i x v hx hv => veil_vr (bury_vr q2 (h4.2 i x v hx hv))⟩ o.dst (.d _ _ (.raw _ rfl))
  have H := (H gi rfl rfl (Nat.le_refl _)).to
  unfold AW at H
  obtain ⟨c2, fr, rr, u, e1, e2, e3, e4, e5, e6⟩ := H c0 _ _ ts' h0 (ok_cons hok (ok_tail h1)) rfl hk2 hr2 hrows hvs (cr_gen (fun _ _ hv => veil_vr (bury_vr q2 hv)) h5) cs
  refine ⟨c2, fr, rr, u, e1, e2, e3, e4, .head ?_ e5, e6⟩
  simp only [AFrame.conc, List.map_cons, hcn]
  rw [step_op hi (wanted_none hg c t' h4) (.inl hrun), put_defers]
  rfl

/-- The next entry of a map: any that is left. -/
theorem AWL.next {x : Operand} {it : Iter} {g1 g2 : List Ghost} (hg : o.guard = none) (hop : o.op = .next x false) (hck : it.since ≤ it.ck) (hrows : R.rows = g1 ++ .iter it :: g2) (hx : EvOK E.G s x (.d (.raw (.pointer (some ⟨it.r, 0, none⟩)))))
    (H0 : (∀ j, j < it.es.length → j ∈ it.seen) → AWL E fid R lits (.reg ops l :: k) (putS s o.dst (.d (.tup [.bool false]))) h)
    (H1 : ∀ j kk y, it.es[j]? = some (kk, y) → j ∉ it.seen → AWL E fid ⟨R.n, R.Q, g1 ++ .iter { it with seen := it.seen ++ [j] } :: g2, R.fx⟩ lits (.reg ops l :: k) (putS s o.dst (.d (.tup [.bool true, kk, y]))) h) : AWL E fid R lits (.reg ops (o :: l) :: k) s h := by
  refine .of ?_
  unfold AW
  intro c0 c t' ts' h0 h1 h2 h3 hr hrow h4 h5 cs
  subst h2
  obtain ⟨i, hi, hcn, hok⟩ := reg_at (h1 _ (List.mem_cons_self ..))
  have hxv : (⟨t', marks R.fx.dfs⟩ : Act).eval x = .pointer (some ⟨it.r, 0, none⟩) := by
    have := hx c ⟨t', marks R.fx.dfs⟩ h3 h4
    generalize (⟨t', marks R.fx.dfs⟩ : Act).eval x = u at this
    cases this with
    | d _ _ hq => cases hq; rfl
  have hrow' := hrow
  rw [hrows] at hrow'
  obtain ⟨r1, r2, r3⟩ := hrow'.without
  have r2 : IterOK c0.w.heap.size c it := r2
  obtain ⟨z0, z1, z2⟩ := r2.iter
  have hsz : it.en.size = it.es.length := r2.ent.size
  rcases run_next_at (P := E.P) c.w o.type it.r it.bm it.since z0 _ it.en it.ck z2 r2.map r2.old z1 with ⟨n1, n2⟩ | ⟨ent, n1, w1, n2, n3⟩
  · have H := (H0 fun j hj => by
      apply Classical.byContradiction
      intro hm
      have hje : j < it.en.size := by omega
      have := (left_iff r2.ent.nodup r2.lt hje).2 hm
      have hl : (leftOf it.en ((it.seen.map fun j => ((it.en[j]?).map (·.born)).getD 0).toArray)).toList.length = 0 := by simpa using n1
      rw [List.eq_nil_of_length_eq_zero hl] at this
      cases this).to
    unfold AW at H
    have hrun : (execOp (⟨t', marks R.fx.dfs⟩ : Act).eval o).run E.P c.w = .ok (.value (.tuple #[.bool false])) c.w := by
      simp only [execOp, hop, hxv, Sem.run_bind, n2, Result.andThen_ok, Sem.run_pure]
    have hvs : VS c (putS s o.dst (.d (.tup [.bool false]))) ((⟨t', marks R.fx.dfs⟩ : Act).put o.dst (.tuple #[.bool false])).tmps :=
      VS.putS (a := ⟨t', marks R.fx.dfs⟩) h4 o.dst (.d _ _ (.tup _ _ rfl fun j y v hy hv => by
        match j with
        | 0 => simp at hy hv; subst hy; subst hv; exact .bool _
        | j + 1 => simp at hy))
    obtain ⟨c2, fr, rr, u, e1, e2, e3, e4, e5, e6⟩ := H c0 c _ ts' h0 (ok_cons hok (ok_tail h1)) rfl h3 hr hrow hvs h5 cs
    refine ⟨c2, fr, rr, u, e1, e2, e3, e4, .head ?_ e5, e6⟩
    simp only [AFrame.conc, List.map_cons, hcn]
    rw [step_op hi (wanted_none hg c t' h4) (.inl hrun), put_defers]
    rfl
  · have hmem : ent ∈ it.en.toList := by
      simp only [leftOf, Array.toList_filter, List.mem_filter] at n1
      exact n1.1
    obtain ⟨j, hj, rfl⟩ := List.getElem_of_mem hmem
    have hje : j < it.en.size := by simpa using hj
    have hent : it.en.toList[j] = it.en[j] := by simp
    rw [hent] at n1 n3
    have hns := (left_iff r2.ent.nodup r2.lt hje).1 n1
    obtain ⟨⟨kk, y⟩, hky⟩ : ∃ p, it.es[j]? = some p := ⟨it.es[j]'(by omega), by rw [List.getElem?_eq_getElem]⟩
    have H := (H1 j kk y hky hns).to
    unfold AW at H
    have hrb := h3.barlt _ r2.barr
    have hw1 : w1.os = c.w.os ∧ w1.tape = c.w.tape ∧ w1.output = c.w.output ∧ w1.heap = c.w.heap := by rcases n2 with rfl | rfl <;> exact ⟨rfl, rfl, rfl, rfl⟩
    obtain ⟨a1, a2, a3, a4⟩ := hw1
    generalize hw' : setBlock w1 it.r (.mapIter (some it.bm) it.since (((it.seen.map fun j => ((it.en[j]?).map (·.born)).getD 0).toArray).push it.en[j].born) it.ck) = w' at n3
    have hto : Touch c it.r w' := by
      subst hw'
      refine ⟨r2.barr, a1, a2, a3, by simp [setBlock, a4], fun b hb => ?_⟩
      simp only [setBlock, a4]
      rw [Array.getElem?_setIfInBounds_ne (Ne.symm hb)]
    have hnr : it.r ∉ ((g1 ++ g2) ++ R.fx.loops).flatMap Ghost.blks := r3 _ (by simp [Ghost.blks])
    have hnd : it.bm ≠ it.r := by
      have := hrow'.all.nodup
      rw [List.append_assoc, List.cons_append, List.flatMap_append, List.nodup_append] at this
      have h6 := this.2.1
      rw [List.flatMap_cons, List.nodup_append] at h6
      have h7 := h6.1
      simp [Ghost.blks] at h7
      exact h7
    have hgi : IterOK c0.w.heap.size (c.inW w') { it with seen := it.seen ++ [j] } := by
      refine ⟨r2.barm, r2.barr, r2.newr, (hto.other _ hnd).trans r2.map, ⟨it.ck, ?_, ?_⟩, r2.old, r2.ent, fun p kk x mm h1 h2 => ?_, fun p hp => ?_⟩
      · exact hck
      · show w'.heap[it.r]? = _
        subst hw'
        simp only [setBlock, a4]
        rw [Array.getElem?_setIfInBounds_self_of_lt hrb]
        simp [bornOf hje]
      · have := r2.val p kk x mm h1 h2
        exact ⟨hto.vd this.1, hto.vd this.2⟩
      · rcases List.mem_append.1 hp with hp | hp
        · exact r2.lt p hp
        · simp at hp; subst hp; exact hje
    have hrows' : RowsX c0.w.heap.size (c.inW w') (g1 ++ .iter { it with seen := it.seen ++ [j] } :: g2) R.fx.loops := by
      have hold := hto.rows r1.all hnr
      refine ⟨⟨fun g hg => ?_, ?_⟩, fun g hg => ?_⟩
      · rcases List.mem_append.1 hg with hg | hg
        · rcases List.mem_append.1 hg with hg | hg
          · exact hold.each g (List.mem_append_left _ (List.mem_append_left _ hg))
          · rcases List.mem_cons.1 hg with rfl | hg
            · exact hgi
            · exact hold.each g (List.mem_append_left _ (List.mem_append_right _ hg))
        · exact hold.each g (List.mem_append_right _ hg)
      · have := hrow'.all.nodup
        rw [List.append_assoc, List.cons_append, List.flatMap_append, List.flatMap_cons] at this ⊢
        exact this
      · rcases List.mem_append.1 hg with hg | hg
        · exact r1.flat g (List.mem_append_left _ hg)
        · rcases List.mem_cons.1 hg with rfl | hg
          · trivial
          · exact r1.flat g (List.mem_append_right _ hg)
    have hval := r2.val j kk y it.en[j] hky (by simp [hje])
    have hrun : (execOp (⟨t', marks R.fx.dfs⟩ : Act).eval o).run E.P c.w = .ok (.value (.tuple #[.bool true, it.en[j].key, it.en[j].val])) w' := by
      simp only [execOp, hop, hxv, Sem.run_bind, n3, Result.andThen_ok, Sem.run_pure]
    have hvs : VS (c.inW w') (putS s o.dst (.d (.tup [.bool true, kk, y]))) ((⟨t', marks R.fx.dfs⟩ : Act).put o.dst (.tuple #[.bool true, it.en[j].key, it.en[j].val])).tmps :=
      VS.putS (a := ⟨t', marks R.fx.dfs⟩) ⟨h4.1, fun i x v hx hv => hto.vr (h4.2 i x v hx hv)⟩ o.dst (.d _ _ (.tup _ _ rfl fun p z v hz hv => by
        match p with
        | 0 => simp at hz hv; subst hz; subst hv; exact .bool _
        | 1 => simp at hz hv; subst hz; subst hv; exact hto.vd hval.1
        | 2 => simp at hz hv; subst hz; subst hv; exact hto.vd hval.2
        | p + 3 => simp at hz))
    obtain ⟨c2, fr, rr, u, e1, e2, e3, e4, e5, e6⟩ := H c0 (c.inW w') _ ts' h0 (ok_cons hok (ok_tail h1)) rfl (hto.hok h3) (hto.rel hr r2.newr) hrows' hvs (cr_gen (fun _ _ => hto.vr) h5) cs
    refine ⟨c2, fr, rr, u, e1, e2, e3, e4, .head ?_ e5, e6⟩
    simp only [AFrame.conc, List.map_cons, hcn]
    rw [step_op hi (wanted_none hg c t' h4) (.inl hrun), put_defers]
    rfl

end
end Go.Eng
