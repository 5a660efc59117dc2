/- The engine, part U: slices compared with nil; a slice without elements written out. No conditions. -/
import Derived.Test.YtebielkakdhelaaGreatDoorZEngV
import Derived.Lib.BufferMore
import Derived.Lib.LazyBuf
set_option linter.unusedVariables false
set_option linter.unusedSimpArgs false
namespace Go.Eng
open Go Go.RowKit

section
variable {E : Env} {fid : FuncId} {R : Post} {s : List AV} {h : List Box} {lits : List Nat} {ops : Array Oper} {o : Oper} {l : List Oper} {k : List AItem}

theorem eqGuard_slice (op : BinOp) (t : TypeId) (x y : Operand) (p q : Option Addr) (a b c d : Nat) : eqGuard op t x y (.slice p a b) (.slice q c d) = pure () := by
  unfold eqGuard; cases op <;> rfl
/-- Whether a slice is nil: told by its length, if it has elements. -/
theorem AWL.nilTest (hE : E.OK) {t e : Nat} {x : Operand} {yt : Nat} {m : List DV} {ti : TInfo} (hg : o.guard = none) (hop : o.op = .binOp .eql t x (.const (.slice none 0 0)) yt) (hti : E.T[t]? = some ti) (hk : ti.k = .slice e) (hx : EvOK E.G s x (.d (.sl m)))
    (H : ∀ b, (b = true → m = []) → AWL E fid R lits (.reg ops l :: k) (putS s o.dst (.d (.bool b))) h) : AWL E fid R lits (.reg ops (o :: l) :: k) s h := by
  refine .of ?_
  unfold AW
  intro c0 c t' ts' h0 h1 h2 h3 hr hrow h4 h5 cs
  subst h2
  obtain ⟨i, hi, hcn, hok⟩ := reg_at (h1 _ (List.mem_cons_self ..))
  obtain ⟨tyi, d, g1, g2, g3, -⟩ := tinfo_inv (hE.types t ti hti)
  obtain rfl := tk_slice (hk.symm.trans g3)
  have hv := hx c ⟨t', marks R.fx.dfs⟩ h3 h4
  have fin : ∀ (p : Option Addr) (n cp : Nat) (b : Bool), (⟨t', marks R.fx.dfs⟩ : Act).eval x = .slice p n cp → (binOp .eql t (.slice p n cp) (.slice none 0 0)).run E.P c.w = .ok (.bool b) c.w → (execOp (⟨t', marks R.fx.dfs⟩ : Act).eval o).run E.P c.w = .ok (.value (.bool b)) c.w := fun p n cp b e1 e2 => by
    have hnil : (⟨t', marks R.fx.dfs⟩ : Act).eval (.const (.slice none 0 0)) = .slice none 0 0 := rfl
    simp only [execOp, hop, e1, hnil, eqGuard_slice, Sem.run_bind, Sem.run_pure, Result.andThen_ok, e2]
  have key : ∃ b, (b = true → m = []) ∧ (execOp (⟨t', marks R.fx.dfs⟩ : Act).eval o).run E.P c.w = .ok (.value (.bool b)) c.w := by
    generalize hu : (⟨t', marks R.fx.dfs⟩ : Act).eval x = u at hv
    cases hv with
    | d _ _ hv => cases hv with
      | slnil => exact ⟨true, fun _ => rfl, fin _ _ _ _ hu (Lib.run_eql_slice_nil_nil c.w 0 0 g2)⟩
      | slz a => exact ⟨false, fun _ => rfl, fin _ _ _ _ hu (Lib.run_eql_slice_some_nil c.w a 0 0 g2)⟩
      | sl _ blk off cap sz f => exact ⟨false, fun q => (by cases q), fin _ _ _ _ hu (Lib.run_eql_slice_some_nil c.w _ _ _ g2)⟩
  obtain ⟨b, hb, hrun⟩ := key
  have H := (H b hb).to
  unfold AW at H
  have hvs : VS c (putS s o.dst (.d (.bool b))) ((⟨t', marks R.fx.dfs⟩ : Act).put o.dst (.bool b)).tmps := VS.putS (a := ⟨t', marks R.fx.dfs⟩) h4 o.dst (.d _ _ (.bool b))
  obtain ⟨c2, fr, rr, u, e1, e2, e3, e4, e5, e6⟩ := H c0 c _ ts' h0 (ok_cons hok (ok_tail h1)) rfl h3 hr hrow hvs h5 cs
  refine ⟨c2, fr, rr, u, e1, e2, e3, e4, .head ?_ e5, e6⟩
  simp only [AFrame.conc, List.map_cons, hcn]
  rw [step_op hi (wanted_none hg c t' h4) (.inl hrun), put_defers]
  rfl

end
end Go.Eng
