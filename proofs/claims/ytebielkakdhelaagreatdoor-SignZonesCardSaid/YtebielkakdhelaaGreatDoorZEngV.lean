/- The engine, part V: a call with own arrays lent, inside a region that draws its order. No conditions. -/
import Derived.Test.YtebielkakdhelaaGreatDoorZEngX
set_option linter.unusedVariables false
set_option linter.unusedSimpArgs false
namespace Go.Eng
open Go Go.RowKit
section
variable {E : Env} {fid : FuncId} {R : Post} {td : List AItem} {s : List AV} {h : List Box}
/-- A nil slice in a variable is an own array without elements. -/
theorem AWL.adoptCell {lits : List Nat} (b off : Nat) (ts : Nat × Nat) (hts : 0 < ts.2) {cs : List AV} (hb : h[b]? = some (.cells cs)) (hd : cs[off]? = some (.d .nilsl))
    (H : AWL E fid R lits td s (h.set b (.cells (cs.set off (.own h.length 0))) ++ [.arr 0 ts []])) : AWL E fid R lits td s h := by
  replace H := H.to
  refine .of (.of_leads (fun c t ts' h1 h2 h3 h4 h5 => ?_) H)
  subst h2
  have hbl := lt_of_getElem? hb
  let c' : Cx := { c with heap := c.heap.set b (.cells (cs.set off (.own c.heap.length 0))) ++ [.arr 0 ts []] }
  have hno : c.own c.heap.length = none := by
    cases ho : c.own c.heap.length with
    | none => rfl
    | some p => have := (h3.ownlt _ p.1 p.2 ho).2; omega
  have hnew : c'.heap[c.heap.length]? = some (.arr 0 ts []) := by show (c.heap.set b _ ++ _)[_]? = _; rw [List.getElem?_append_right (by simp)]; simp
  have hatb : c'.heap[b]? = some (.cells (cs.set off (.own c.heap.length 0))) := by
    show (c.heap.set b _ ++ _)[b]? = _
    rw [List.getElem?_append_left (by simp; omega), List.getElem?_set_self hbl]
  have hoth : ∀ i, i ≠ b → i < c.heap.length → c'.heap[i]? = c.heap[i]? := fun i hi hl => by
    show (c.heap.set b _ ++ _)[i]? = _
    rw [List.getElem?_append_left (by simp; omega), List.getElem?_set_ne (Ne.symm hi)]
  have hst : Step c c' := ⟨rfl, h3.barlt, rfl, rfl, rfl, Nat.le_refl _, fun _ _ _ => rfl, fun i x n hi _ => ⟨n, hi⟩, fun i bx hi => by
    by_cases hib : i = b
    · subst hib
      rw [hb] at hi
      cases hi
      exact .inl ⟨_, hatb, rfl, by simp⟩
    · exact boxStep_same hi (hoth i hib (lt_of_getElem? hi)) rfl⟩
  have hok : HOk E.G c' := h3.next hst (fun i x n hi => by
      have := h3.ownlt i x n hi
      refine ⟨this.1, ?_⟩
      show i < (c.heap.set b _ ++ _).length
      simp; omega) h3.inj (fun i bx hi => by
    by_cases hil : i = c.heap.length
    · subst hil
      rw [hnew] at hi
      cases hi
      exact .inr ⟨hts, fun i e he => by simp at he, .inl ⟨hno, rfl⟩⟩
    · have hlt : i < c.heap.length := by
        have h1 := lt_of_getElem? hi
        have h2 : c'.heap.length = c.heap.length + 1 := by show (c.heap.set b _ ++ _).length = _; simp
        omega
      by_cases hib : i = b
      · subst hib
        rw [hatb] at hi
        cases hi
        right
        obtain ⟨blk, cap, vs, ty, g1, g2, g3, g4⟩ := h3.box i _ hb
        refine ⟨blk, cap, vs, ty, g1, g2, by simpa using g3, fun j x v hx hv => ?_⟩
        by_cases hj : j = off
        · subst hj
          rw [List.getElem?_set_self (lt_of_getElem? hd)] at hx
          cases hx
          have := g4 j _ v hd hv
          cases this with
          | d _ _ hq => cases hq; exact .ownnil _ _ ts hnew hno
        · rw [List.getElem?_set_ne (Ne.symm hj)] at hx
          exact hst.vr (g4 j x v hx hv)
      · rw [hoth i hib hlt] at hi
        exact .inl ⟨hi, rfl, fun _ _ _ => rfl⟩)
  exact ⟨c', t, ts', h1, rfl, hok, hst.vs h4, hst.cr h5, hst, fun _ => .refl _ _⟩
end
end Go.Eng
