/- The engine, part 5: variables: made, read, written. No conditions. -/
import Derived.Test.YtklkmdoakhkikaaDoorEng4
namespace Go.Eng
open Go Go.RowKit

section
variable {E : Env} {s : List AV} {h : List Box} {c : Cx} {G : List (Nat × DV)}

theorem setCells_os (b : Nat) : ∀ (vs : List Value) (o : Nat) (w : World), (w.setCells b o vs).os = w.os ∧ (w.setCells b o vs).tape = w.tape ∧ (w.setCells b o vs).output = w.output ∧ (w.setCells b o vs).heap.size = w.heap.size
  | [], _, _ => ⟨rfl, rfl, rfl, rfl⟩
  | v :: r, o, w => by
    obtain ⟨h1, h2, h3, h4⟩ := setCells_os b r (o + 1) (w.setCell ⟨b, o, none⟩ v)
    exact ⟨h1, h2, h3, h4.trans (by simp)⟩
theorem setCells_other (b : Nat) : ∀ (vs : List Value) (o : Nat) (w : World) (k : Nat), k ≠ b → (w.setCells b o vs).heap[k]? = w.heap[k]?
  | [], _, _, _, _ => rfl
  | v :: r, o, w, k, hk => by
    have := setCells_other b r (o + 1) (w.setCell ⟨b, o, none⟩ v) k hk
    exact this.trans (Below.heap_setCell w _ v k hk)
theorem setCells_at (b : Nat) (ty : TypeId) (fr : Nat × Nat) : ∀ (vs : List Value) (o : Nat) (w : World) (cur : Array Value), w.heap[b]? = some (.cells cur ty fr) →
    (w.setCells b o vs).heap[b]? = some (.cells (spl cur.toList o vs).toArray ty fr)
  | [], _, _, cur, hb => by simpa [spl, World.setCells] using hb
  | v :: r, o, w, cur, hb => by
    have h1 : (w.setCell ⟨b, o, none⟩ v).heap[b]? = some (.cells (cur.setIfInBounds o v) ty fr) := by
      simp only [World.setCell, Array.getElem?_modify, if_true, hb, Option.map_some]
      rfl
    have := setCells_at b ty fr r (o + 1) (w.setCell ⟨b, o, none⟩ v) _ h1
    simpa [spl, World.setCells] using this

theorem spl_length {β : Type} : ∀ (vs : List β) (o : Nat) (l : List β), (spl l o vs).length = l.length
  | [], _, _ => rfl
  | v :: r, o, l => by simp [spl, spl_length r]

theorem row_of_block {w : World} {b : Nat} {vs : Array Value} {ty : TypeId} {fr : Nat × Nat} (h : w.heap[b]? = some (.cells vs ty fr)) : RowAt w b 0 vs.toList := fun j v hv => by
  simp only [World.cell?, h, Nat.zero_add]
  simpa using hv

/-- A variable's block. -/
theorem HOk.cells (ho : HOk G c) {b : Nat} {cs : List AV} (hb : c.heap[b]? = some (.cells cs)) : ∃ (blk cap : Nat) (vs : Array Value) (ty : TypeId), c.own b = some (blk, cap) ∧ c.w.heap[blk]? = some (.cells vs ty (0, 0)) ∧ VL c cs vs.toList := by
  obtain ⟨blk, cap, vs, ty, h1, h2, h3, h4⟩ := ho.box b _ hb
  exact ⟨blk, cap, vs, ty, h1, h2, by simpa using h3.symm, fun j x v hx hv => h4 j x v hx (by simpa using hv)⟩

theorem ok_load (hE : E.OK) {t : Nat} {x : Operand} {i : TInfo} (hi : E.T[t]? = some i) {a : AV} (ha : EvOK E.G s x a) {stop : Prop} {k : AV → Prop} (H : loadK i h a stop k) : stop ∨ ∃ v, k v ∧ OpOK E (.load t x) s h v h := by
  have ht := hE.types t i hi
  have run : ∀ (o : Oper) (ac : Act) (w : World) (v : Value), o.op = .load t x → (Instr.loadAt t (ac.eval x)).run E.P w = .ok v w → (execOp ac.eval o).run E.P w = .ok (.value v) w := fun o ac w v h1 h2 => by
    simp only [execOp, h1, Sem.run_bind, h2, Result.andThen_ok, Sem.run_pure]
  unfold loadK at H
  split at H
  · rename_i b off
    rcases getK_or H with h1 | ⟨bx, hb, H⟩
    · exact .inl h1
    split at H
    · rename_i cs
      rcases partK_sound H with h1 | ⟨v, hk, hp⟩
      · exact .inl h1
      refine .inr ⟨v, hk, .quiet fun o c ac h1 h2 h3 h4 => ?_⟩
      subst h2
      obtain ⟨blk, cap, vs, ty, g1, g2, g3⟩ := h3.cells hb
      have hv := ha c ac h3 h4
      obtain ⟨u, hu, hvu⟩ := hp E.P t c blk 0 vs.toList ht g3 (row_of_block g2)
      refine ⟨u, run o ac c.w u h1 ?_, hvu⟩
      generalize ac.eval x = p at hv
      cases hv with
      | ptr b off cs' blk' cap' hb' ho' =>
        rw [g1] at ho'; cases ho'
        rwa [Nat.zero_add] at hu
      | ptrgone b off v' hb' _ => rw [hb] at hb'; cases hb'
    · exact .inl H
  · rename_i e off
    have key : ∀ l : List AV, l = e.cells.map .d → partK i l off stop k → stop ∨ ∃ v, k v ∧ OpOK E (.load t x) s h v h := fun l hl H => by
      rcases partK_sound H with h1 | ⟨v, hk, hp⟩
      · exact .inl h1
      refine .inr ⟨v, hk, .quiet fun o c ac h1 h2 h3 h4 => ?_⟩
      have hv := ha c ac h3 h4
      generalize hp' : ac.eval x = p at hv
      cases hv with
      | eptr _ _ blk o' f hbad hne hcell hval =>
        obtain ⟨u, hu, hvu⟩ := hp E.P t c blk o' ((List.range e.cells.length).map f) ht (by
            rw [hl]
            refine .mapD (by simp) (fun j y v hy hv => ?_)
            have hj : j < e.cells.length := by
              rcases Nat.lt_or_ge j e.cells.length with h | h
              · exact h
              · rw [List.getElem?_eq_none h] at hy; cases hy
            simp [hj] at hv
            subst hv
            exact hval j y hy) (fun j v hv => by
            rcases Nat.lt_or_ge j e.cells.length with hj | hj
            · simp [hj] at hv
              subst hv
              exact hcell j e.cells[j] (by simp [hj])
            · rw [List.getElem?_eq_none (by simpa using hj)] at hv; cases hv)
        exact ⟨u, run o ac c.w u h1 (by rw [hp']; exact hu), hvu⟩
    split at H
    · rename_i l
      rw [mapK_eq] at H
      exact key _ rfl H
    · rename_i hna
      exact key _ (by cases e <;> first | rfl | exact absurd rfl (hna _)) H
  · exact .inl H

theorem run_storeAt {P : Program} {t : Nat} {i : TInfo} (ht : tinfo P t = some i) {w : World} {b o : Nat} {v : Value} {vs : List Value} (hv : v.cells = vs.toArray) (hs : vs.length = i.size) {cur : Array Value} {ty : TypeId} (hb : w.heap[b]? = some (.cells cur ty (0, 0)))
    (hfit : o + vs.length ≤ cur.size) (h1 : ∀ u ∈ vs, u.oneCell' = true) : (Instr.storeAt t (.pointer (some ⟨b, o, none⟩)) v).run P w = .ok () (w.setCells b o vs) := by
  have hst := run_storeCells_cells (P := P) b o vs 0 w (fun j hj => by
      simp only [World.cell?, hb]
      simp; omega) (fun j hj => by simp [World.frozen?, hb]) h1
  simp only [Instr.storeAt, Instr.sureAddr, storeVar, Sem.run_bind, Sem.run_pure, Result.andThen_ok, run_sizeOf ht, hv]
  simp only [List.size_toArray, hs, ne_eq, not_true_eq_false, if_false]
  simpa using hst

/-- A box of cells is written over. -/
theorem HOk.write (ho : HOk G c) {b blk cap : Nat} {cs cs' : List AV} {vs : Array Value} {ty : TypeId} (hb : c.heap[b]? = some (.cells cs)) (hown : c.own b = some (blk, cap)) (hblk : c.w.heap[blk]? = some (.cells vs ty (0, 0)))
    {us : List Value} {off : Nat} (hl : cs'.length = cs.length) (hv : VL c cs' (spl vs.toList off us)) :
    let c' : Cx := { c with heap := c.heap.set b (.cells cs'), w := c.w.setCells blk off us }
    HOk G c' ∧ Step c c' := by
  intro c'
  obtain ⟨e1, e2, e3, e4⟩ := setCells_os blk us off c.w
  have hbl : b < c.heap.length := (ho.ownlt b blk cap hown).2
  have hs : Step c c' := {
    bar := rfl
    barlt := ho.barlt
    os := e1
    tape := e2
    output := e3
    size := Nat.le_of_eq e4.symm
    keep := fun x _ hn => setCells_other blk us off c.w x (fun e => hn b cap (by rw [e]; exact hown))
    newown := fun i x n hi _ => ⟨i, n, hi⟩
    boxes := fun i bx hi => by
      by_cases hib : i = b
      · subst hib
        rw [hb] at hi
        cases hi
        exact .inl ⟨cs', by show (c.heap.set i _)[i]? = _; rw [List.getElem?_set_self hbl], rfl, hl⟩
      · have h' : c'.heap[i]? = some bx := by show (c.heap.set b _)[i]? = _; rw [List.getElem?_set_ne (Ne.symm hib)]; exact hi
        cases bx with
        | cells cs => exact .inl ⟨cs, h', rfl, rfl⟩
        | arr g sz l => exact .inl ⟨g, l, h', .inr ⟨rfl, rfl, rfl⟩⟩
        | map es => exact .inl ⟨es, h', rfl⟩
        | gone => exact h' }
  refine ⟨ho.next hs (fun i x n hi => ⟨by show x < (c.w.setCells blk off us).heap.size; rw [e4]; exact (ho.ownlt i x n hi).1, by show i < (c.heap.set b _).length; rw [List.length_set]; exact (ho.ownlt i x n hi).2⟩) ho.inj (fun i bx hi => ?_), hs⟩
  by_cases hib : i = b
  · subst hib
    have hi' : (c.heap.set i (.cells cs'))[i]? = some bx := hi
    rw [List.getElem?_set_self hbl] at hi'
    cases hi'
    right
    have hv' := hs.vl hv
    exact ⟨blk, cap, (spl vs.toList off us).toArray, ty, hown, setCells_at blk ty (0, 0) us off c.w vs hblk, by simpa using hv'.1.symm, fun j x v hx hu => hv'.2 j x v hx (by simpa using hu)⟩
  · left
    have hi' : (c.heap.set b (.cells cs'))[i]? = some bx := hi
    rw [List.getElem?_set_ne (Ne.symm hib)] at hi'
    exact ⟨hi', rfl, fun x n hn => setCells_other blk us off c.w x (fun e => hib (ho.inj i b blk n cap (by rw [← e]; exact hn) hown))⟩

theorem ok_store (hE : E.OK) {t : Nat} {x y : Operand} {i : TInfo} (hi : E.T[t]? = some i) {a v : AV} (ha : EvOK E.G s x a) (hv : EvOK E.G s y v) {stop : Prop} {k : List Box → Prop} (H : storeK i h a v stop k) : stop ∨ ∃ h', k h' ∧ OpOK E (.store t x y) s h (.d .undef) h' := by
  have ht := hE.types t i hi
  unfold storeK at H
  split at H
  · rename_i b off
    rcases getK_or H with h1 | ⟨bx, hb, H⟩
    · exact .inl h1
    split at H
    · rename_i cs
      rcases cellsK_sound H with h1 | ⟨l, hl, H⟩
      · exact .inl h1
      split at H
      · rename_i q1 q2 q3
        rw [splK_eq, setK_eq] at H
        refine .inr ⟨_, H, fun o c ac h1 h2 h3 h4 => ?_⟩
        subst h2
        have hp := ha c ac h3 h4
        have hu := hv c ac h3 h4
        obtain ⟨blk, cap, vs, ty, g1, g2, g3⟩ := h3.cells hb
        obtain ⟨us, hus, hul⟩ := hl c _ hu
        have q1 := Nat.eq_of_beq_eq_true q1
        have q2 := Nat.le_of_ble_eq_true q2
        have hfit : off + us.length ≤ vs.size := by
          rw [← hul.1]; have := g3.1; simp at this; omega
        have hone : ∀ u ∈ us, u.oneCell' = true := fun u hu => by
          obtain ⟨j, hj, rfl⟩ := List.getElem_of_mem hu
          have hjl : j < l.length := by rw [hul.1]; exact hj
          exact vr_one (hul.2 j l[j] us[j] (by simp [hjl]) (by simp [hj])) (List.all_eq_true.1 q3 _ (List.getElem_mem hjl))
        have hrun : (Instr.storeAt t (ac.eval x) (ac.eval y)).run E.P c.w = .ok () (c.w.setCells blk off us) := by
          generalize ac.eval x = p at hp
          cases hp with
          | ptr b off cs' blk' cap' hb' ho' =>
            rw [g1] at ho'; cases ho'
            exact run_storeAt ht hus (by rw [← hul.1]; exact q1) g2 hfit hone
          | ptrgone b off v' hb' _ => rw [hb] at hb'; cases hb'
        obtain ⟨w1, w2⟩ := h3.write (cs' := spl cs off l) (us := us) (off := off) hb g1 g2 (spl_length _ _ _) (VL.spl g3 off hul)
        refine ⟨_, Go.undef, .inr ⟨?_, rfl⟩, rfl, w1, .d _ _ .undef, w2⟩
        simp only [execOp, h1, Sem.run_bind, hrun, Result.andThen_ok, Sem.run_pure]
      · exact .inl H
    · exact .inl H
  · exact .inl H

/-- A new box. -/
def Cx.add (c : Cx) (bx : Box) (cap : Nat) (o : Obj) : Cx := { c with own := fun i => if i = c.heap.length then some (c.w.heap.size, cap) else c.own i, heap := c.heap ++ [bx], w := c.w.alloc o }

theorem HOk.add (ho : HOk G c) (bx : Box) (cap : Nat) (o : Obj) : Step c (c.add bx cap o) ∧ (BoxOk (c.add bx cap o) c.heap.length bx → HOk G (c.add bx cap o)) := by
  have hno : ∀ i b n, c.own i = some (b, n) → i ≠ c.heap.length := fun i b n hi e => by have := (ho.ownlt i b n hi).2; omega
  have hs : Step c (c.add bx cap o) := {
    bar := rfl
    barlt := ho.barlt
    os := rfl
    tape := rfl
    output := rfl
    size := by simp [Cx.add]
    keep := fun x hx _ => Below.heap_alloc c.w o x hx
    newown := fun i x n hi hx => by
      simp only [Cx.add] at hi
      split at hi
      · cases hi; omega
      · exact ⟨i, n, hi⟩
    boxes := fun i b hi => by
      have hlt : i < c.heap.length := by
        rcases Nat.lt_or_ge i c.heap.length with h | h
        · exact h
        · rw [List.getElem?_eq_none h] at hi; cases hi
      have h' : (c.add bx cap o).heap[i]? = some b := by simp only [Cx.add]; rw [List.getElem?_append_left hlt]; exact hi
      have h'' : (c.add bx cap o).own i = c.own i := by simp only [Cx.add]; rw [if_neg (by omega)]
      cases b with
      | cells cs => exact .inl ⟨cs, h', h'', rfl⟩
      | arr g sz l => exact .inl ⟨g, l, h', .inr ⟨rfl, rfl, h''⟩⟩
      | map es => exact .inl ⟨es, h', h''⟩
      | gone => exact h' }
  refine ⟨hs, fun hbx => ho.next hs ?_ ?_ ?_⟩
  · intro i b n hi
    simp only [Cx.add] at hi ⊢
    split at hi
    · cases hi; simp; omega
    · have := ho.ownlt i b n hi; simp; omega
  · intro i j b n m hi hj
    simp only [Cx.add] at hi hj
    split at hi <;> split at hj
    · omega
    · cases hi; have := (ho.ownlt j _ _ hj).1; omega
    · cases hj; have := (ho.ownlt i _ _ hi).1; omega
    · exact ho.inj i j b n m hi hj
  · intro i b hi
    by_cases hil : i = c.heap.length
    · subst hil
      right
      have : b = bx := by simp [Cx.add] at hi; exact hi.symm
      subst this
      exact hbx
    · left
      have hlt : i < c.heap.length := by
        rcases Nat.lt_or_ge i c.heap.length with h | h
        · exact h
        · rw [List.getElem?_eq_none (by simp [Cx.add]; omega)] at hi; cases hi
      refine ⟨?_, by simp only [Cx.add]; rw [if_neg hil], fun x n hn => Below.heap_alloc c.w o x (ho.ownlt i x n hn).1⟩
      simp only [Cx.add] at hi
      rwa [List.getElem?_append_left hlt] at hi

theorem HOk.addCells (ho : HOk G c) {cs : List AV} {vs : List Value} (hv : VL c cs vs) (ty : TypeId) :
    let c' := c.add (.cells cs) 0 (.cells vs.toArray ty)
    HOk G c' ∧ Step c c' ∧ VR c' (.ptr c.heap.length 0) (.pointer (some ⟨c.w.heap.size, 0, none⟩)) := by
  intro c'
  obtain ⟨h1, h2⟩ := ho.add (.cells cs) 0 (.cells vs.toArray ty)
  have e1 : c'.own c.heap.length = some (c.w.heap.size, 0) := by simp [c', Cx.add]
  have hv' := h1.vl hv
  refine ⟨h2 ⟨c.w.heap.size, 0, vs.toArray, ty, e1, heap_alloc_new _ _, by simpa using hv.1.symm, fun j x v hx hu => hv'.2 j x v hx (by simpa using hu)⟩, h1, .ptr _ _ cs _ 0 ?_ e1⟩
  simp [c', Cx.add]

theorem ok_box {t : Nat} {x : Operand} {v : AV} (hv : EvOK E.G s x v) {l : List AV} (hl : CellsOK v l) : OpOK E (.box t x) s h (.ptr h.length 0) (h ++ [.cells l]) := fun o c a h1 h2 h3 h4 => by
  subst h2
  obtain ⟨us, hus, hul⟩ := hl c _ (hv c a h3 h4)
  obtain ⟨w1, w2, w3⟩ := h3.addCells hul t
  refine ⟨_, _, .inl ?_, rfl, w1, w3, w2⟩
  simp only [execOp, h1, Instr.box, newVar, newRow, newObj, Sem.run_bind, Sem.run, Result.andThen_ok, Sem.run_pure, hus]
  rfl

theorem allSome_spec : ∀ {vs : List Value} {l : List DV}, allSome (vs.map ofV) = some l → l.length = vs.length ∧ ∀ (j : Nat) (x : DV) (v : Value), l[j]? = some x → vs[j]? = some v → ofV v = some x
  | [], l, h => by cases h; exact ⟨rfl, fun j x v h => by simp at h⟩
  | v :: vs, l, h => by
    simp only [List.map_cons] at h
    cases hv : ofV v with
    | none => rw [hv] at h; cases h
    | some x =>
      rw [hv] at h
      simp only [allSome, Option.map_eq_some_iff] at h
      obtain ⟨l', h1, rfl⟩ := h
      obtain ⟨h2, h3⟩ := allSome_spec h1
      refine ⟨by simp [h2], fun j y u hy hu => ?_⟩
      cases j with
      | zero => simp at hy hu; subst hy; subst hu; exact hv
      | succ j => exact h3 j y u (by simpa using hy) (by simpa using hu)

/-- The zero value of a type. -/
theorem run_zero {P : Program} {t : Nat} {i : TInfo} (ht : tinfo P t = some i) (hz : i.zero.length = i.size) (hpos : 0 < i.size) : ∃ z : Value, (∀ w, (zeroValue t).run P w = .ok z w) ∧ ∀ c : Cx, ∃ vs : List Value, z.cells = vs.toArray ∧ VL c (i.zero.map .d) vs := by
  obtain ⟨ti, d, h1, h2, h3, h4, h5, h6⟩ := tinfo_inv ht
  cases hzz : ti.zero with
  | none => rw [h6, hzz] at hz; simp [zeroD] at hz; omega
  | some z =>
    rw [h6, hzz] at hz
    simp only [zeroD, Option.bind_some] at hz
    cases ha : allSome (z.cells.toList.map ofV) with
    | none => rw [ha] at hz; simp at hz; omega
    | some l =>
      refine ⟨z, fun w => by simp only [zeroValue, typeInfo, bind, Sem.bind, program, h1, pure, Sem.run, hzz], fun c => ⟨z.cells.toList, by simp, ?_⟩⟩
      have : i.zero = l := by rw [h6, hzz]; simp [zeroD, ha]
      rw [this]
      obtain ⟨g1, g2⟩ := allSome_spec ha
      exact .mapD g1 (fun j x v hx hu => ofV_vd (g2 j x v hx hu))

theorem ok_alloc (hE : E.OK) {t : Nat} {i : TInfo} (hi : E.T[t]? = some i) (hz : i.zero.length = i.size) (hpos : 0 < i.size) : OpOK E (.alloc t) s h (.ptr h.length 0) (h ++ [.cells (i.zero.map .d)]) := fun o c a h1 h2 h3 h4 => by
  subst h2
  obtain ⟨z, hz1, hz2⟩ := run_zero (hE.types t i hi) hz hpos
  obtain ⟨us, hus, hul⟩ := hz2 c
  obtain ⟨w1, w2, w3⟩ := h3.addCells hul t
  refine ⟨_, _, .inl ?_, rfl, w1, w3, w2⟩
  simp only [execOp, h1, Instr.alloc, newVar, newRow, newObj, Sem.run_bind, Sem.run, Result.andThen_ok, Sem.run_pure, hz1, hus]
  rfl

end
end Go.Eng
