/- The engine, part U: slices compared with nil; a slice without elements written out. No conditions. -/
import Derived.Test.YtklkmdoakhkikaaGreatDoorZEngV
import Derived.Lib.BufferMore
import Derived.Lib.LazyBuf
set_option linter.unusedVariables false
set_option linter.unusedSimpArgs false
namespace Go.Eng
open Go Go.RowKit

section
variable {E : Env} {fid : FuncId} {R : Post} {s : List AV} {h : List Box} {lits : List Nat} {ops : Array Oper} {o : Oper} {l : List Oper} {k : List AItem}

theorem eqGuard_slice (op : BinOp) (t : TypeId) (x y : Operand) (p q : Option Addr) (a b c d : Nat) : eqGuard op t x y (.slice p a b) (.slice q c d) = pure () := by
  unfold eqGuard; cases op <;> rfl
/-- Whether a slice is nil: told by its length, if it has elements. -/
theorem AWL.nilTest (hE : E.OK) {t e : Nat} {x : Operand} {yt : Nat} {m : List DV} {ti : TInfo} (hg : o.guard = none) (hop : o.op = .binOp .eql t x (.const (.slice none 0 0)) yt) (hti : E.T[t]? = some ti) (hk : ti.k = .slice e) (hx : EvOK E.G s x (.d (.sl m)))
    (H : ∀ b, (b = true → m = []) → AWL E fid R lits (.reg ops l :: k) (putS s o.dst (.d (.bool b))) h) : AWL E fid R lits (.reg ops (o :: l) :: k) s h := by
  refine .of ?_
  unfold AW
  intro c0 c t' ts' h0 h1 h2 h3 hr hrow h4 h5 cs
  subst h2
  have hts : concs [] ts' = [] := by cases ts' <;> rfl
  rw [hts]
  obtain ⟨i, hi, hcn, hok⟩ := reg_at (h1 _ (List.mem_cons_self ..))
  obtain ⟨tyi, d, g1, g2, g3, -⟩ := tinfo_inv (hE.types t ti hti)
  obtain rfl := tk_slice (hk.symm.trans g3)
  have hv := hx c ⟨t', []⟩ h3 h4
  have fin : ∀ (p : Option Addr) (n cp : Nat) (b : Bool), (⟨t', []⟩ : Act).eval x = .slice p n cp → (binOp .eql t (.slice p n cp) (.slice none 0 0)).run E.P c.w = .ok (.bool b) c.w → (execOp (⟨t', []⟩ : Act).eval o).run E.P c.w = .ok (.value (.bool b)) c.w := fun p n cp b e1 e2 => by
    have hnil : (⟨t', []⟩ : Act).eval (.const (.slice none 0 0)) = .slice none 0 0 := rfl
    simp only [execOp, hop, e1, hnil, eqGuard_slice, Sem.run_bind, Sem.run_pure, Result.andThen_ok, e2]
  have key : ∃ b, (b = true → m = []) ∧ (execOp (⟨t', []⟩ : Act).eval o).run E.P c.w = .ok (.value (.bool b)) c.w := by
    generalize hu : (⟨t', []⟩ : Act).eval x = u at hv
    cases hv with
    | d _ _ hv => cases hv with
      | slnil => exact ⟨true, fun _ => rfl, fin _ _ _ _ hu (Lib.run_eql_slice_nil_nil c.w 0 0 g2)⟩
      | slz a => exact ⟨false, fun _ => rfl, fin _ _ _ _ hu (Lib.run_eql_slice_some_nil c.w a 0 0 g2)⟩
      | sl _ blk off cap sz f => exact ⟨false, fun q => (by cases q), fin _ _ _ _ hu (Lib.run_eql_slice_some_nil c.w _ _ _ g2)⟩
  obtain ⟨b, hb, hrun⟩ := key
  have H := (H b hb).to
  unfold AW at H
  have hvs : VS c (putS s o.dst (.d (.bool b))) ((⟨t', []⟩ : Act).put o.dst (.bool b)).tmps := VS.putS (a := ⟨t', []⟩) h4 o.dst (.d _ _ (.bool b))
  obtain ⟨c2, fr, rr, u, e1, e2, e3, e4, e5, e6⟩ := H c0 c _ [] h0 (ok_cons hok (ok_tail h1)) rfl h3 hr hrow hvs trivial cs
  refine ⟨c2, fr, rr, u, e1, e2, e3, e4, .head ?_ e5, e6⟩
  simp only [AFrame.conc, List.map_cons, hcn]
  rw [step_op hi (wanted_none hg c t' h4) (.inl hrun), put_defers]
  rfl

/-- A slice without elements, written out. -/
theorem AWL.emptyOwn (hE : E.OK) {t e : Nat} {i ei : TInfo} (hg : o.guard = none) (hop : o.op = .buildSlice t 0 #[]) (hi : E.T[t]? = some i) (hk : i.k = .slice e) (hei : E.T[e]? = some ei) (hpos : 0 < ei.size)
    (H : AWL E fid R lits (.reg ops l :: k) (putS s o.dst (.own h.length 0)) (h ++ [.arr 0 (e, ei.size) []])) : AWL E fid R lits (.reg ops (o :: l) :: k) s h := by
  refine .of (.op (wanted_none hg) (v := .own h.length 0) (h' := h ++ [.arr 0 (e, ei.size) []]) ?_ H.to)
  intro o' c a e1 e2 e3 e4
  subst e2
  rw [hop] at e1
  obtain ⟨ti', d, q1, q2, q3, -⟩ := tinfo_inv (hE.types t i hi)
  obtain rfl := tk_slice (hk.symm.trans q3)
  obtain ⟨tie, de, p1, p2, p3, p4⟩ := tinfo_inv (hE.types e ei hei)
  obtain ⟨k1, k2⟩ := e3.add (.arr 0 (e, ei.size) []) 0 (.cells #[] e)
  have hown : (c.add (.arr 0 (e, ei.size) []) 0 (.cells #[] e)).own c.heap.length = some (c.w.heap.size, 0) := by simp [Cx.add]
  have hheap : (c.add (.arr 0 (e, ei.size) []) 0 (.cells #[] e)).heap[c.heap.length]? = some (.arr 0 (e, ei.size) []) := by simp [Cx.add]
  have hbox : BoxOk (c.add (.arr 0 (e, ei.size) []) 0 (.cells #[] e)) c.heap.length (.arr 0 (e, ei.size) []) :=
    ⟨hpos, fun j x hx => by simp at hx, .inr ⟨c.w.heap.size, 0, #[], hown, heap_alloc_new _ _, by simp, by simp, by unfold maxLen; omega, fun i j e x he => by simp at he⟩⟩
  refine ⟨_, .slice (some ⟨c.w.heap.size, 0, none⟩) 0 0, .inl ?_, rfl, k2 hbox, ?_, k1⟩
  · have hrun : (Instr.buildSlice t 0 #[]).run E.P c.w = .ok (.slice (some ⟨c.w.heap.size, 0, none⟩) 0 0) (c.w.alloc (.cells #[] e)) := by
      simp [Instr.buildSlice, run_underlying q2, sizeOf, typeInfo, p1, newRow, Instr.fill]
      rw [Array.eq_empty_of_size_eq_zero (show (Array.map (fun _ => (default : Value)) (Array.range 0)).size = 0 by simp)]
    have hrun' := hrun
    simp only [execOp, e1, Array.map_empty, Sem.run_bind, hrun', Result.andThen_ok, Sem.run_pure]
    rfl
  · exact VR.own (c := c.add (.arr 0 (e, ei.size) []) 0 (.cells #[] e)) c.heap.length 0 (e, ei.size) [] c.w.heap.size 0 hheap hown

theorem AWL.emptyK (hE : E.OK) {t : Nat} (hg : o.guard = none) (hop : o.op = .buildSlice t 0 #[])
    (H : getK E.T t False fun i => match i.k with
      | .slice e => getK E.T e False fun ei => match Nat.blt 0 ei.size with
        | true => snocK h (.arr 0 (e, ei.size) []) 0 fun h' n => putK s o.dst (.own n 0) fun s' => AWL E fid R lits (.reg ops l :: k) s' h'
        | false => False
      | _ => False) : AWL E fid R lits (.reg ops (o :: l) :: k) s h := by
  rcases getK_or H with H | ⟨i, hi, H⟩
  · exact H.elim
  split at H
  · rename_i e hk
    rcases getK_or H with H | ⟨ei, hei, H⟩
    · exact H.elim
    split at H
    · rename_i q
      rw [snocK_eq, putK_eq, Nat.zero_add] at H
      exact .emptyOwn hE hg hop hi hk hei (blt_lt q) H
    · exact H.elim
  · exact H.elim

end
end Go.Eng
