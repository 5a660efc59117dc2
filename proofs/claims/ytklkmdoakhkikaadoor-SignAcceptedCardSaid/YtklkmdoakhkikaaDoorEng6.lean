/- The engine, part 6: the other operations, and all of them together. No conditions. -/
import Derived.Test.YtklkmdoakhkikaaDoorEng5
namespace Go.Eng
open Go Go.RowKit

section
variable {E : Env} {s : List AV} {h : List Box} {c : Cx} {G : List (Nat × DV)}

theorem ok_pickT {x a b : Operand} {v : AV} (hx : EvOK E.G s x (.d (.bool true))) (ha : EvOK E.G s a v) : OpOK E (.pick x a b) s h v h :=
  .quiet fun o c ac h1 _ h3 h4 => ⟨_, by simp only [execOp, h1, vr_bool (hx c ac h3 h4), asBool, Sem.run_bind, Sem.run_pure, Result.andThen_ok, if_true], ha c ac h3 h4⟩
theorem ok_pickF {x a b : Operand} {v : AV} (hx : EvOK E.G s x (.d (.bool false))) (hb : EvOK E.G s b v) : OpOK E (.pick x a b) s h v h :=
  .quiet fun o c ac h1 _ h3 h4 => ⟨_, by simp only [execOp, h1, vr_bool (hx c ac h3 h4), asBool, Sem.run_bind, Sem.run_pure, Result.andThen_ok]; rfl, hb c ac h3 h4⟩

theorem eqGuard_int (op : BinOp) (t : TypeId) (x y : Operand) (j j' : IntKind) (a b : Int) : eqGuard op t x y (.int j a) (.int j' b) = pure () := by
  unfold eqGuard; cases op <;> rfl
theorem eqGuard_str (op : BinOp) (t : TypeId) (x y : Operand) (a b : ByteArray) : eqGuard op t x y (.string a) (.string b) = pure () := by
  unfold eqGuard; cases op <;> rfl
theorem eqGuard_bool (op : BinOp) (t : TypeId) (x y : Operand) (a b : Bool) : eqGuard op t x y (.bool a) (.bool b) = pure () := by
  unfold eqGuard; cases op <;> rfl

theorem same_eq {j j' : IntKind} (h : IntKind.same j j' = true) : j = j' := by
  cases j <;> cases j' <;> first | rfl | cases h

theorem run_binOp {P : Program} {o : Oper} {ac : Act} {w : World} {op : BinOp} {t t' : TypeId} {x y : Operand} {u : Value} (h1 : o.op = .binOp op t x y t') (hg : eqGuard op t x y (ac.eval x) (ac.eval y) = pure ())
    (h : (binOp op t (ac.eval x) (ac.eval y)).run P w = .ok u w) : (execOp ac.eval o).run P w = .ok (.value u) w := by
  simp only [execOp, h1, hg, Sem.run_bind, Sem.run_pure, Result.andThen_ok, h]

theorem ok_int {op : BinOp} {t t' : TypeId} {x y : Operand} {j : IntKind} {a b : Int} (hx : EvOK E.G s x (.d (.int j a))) (hy : EvOK E.G s y (.d (.int j b))) {stop : Prop} {k : AV → Prop} (H : intK op j a b stop k) :
    stop ∨ ∃ v, k v ∧ OpOK E (.binOp op t x y t') s h v h := by
  unfold intK at H
  split at H
  all_goals first
    | exact .inl H
    | refine .inr ⟨_, H, .quiet fun o c ac h1 _ h3 h4 => ?_⟩
      have e1 := vr_int (hx c ac h3 h4)
      have e2 := vr_int (hy c ac h3 h4)
      refine ⟨_, run_binOp h1 (by rw [e1, e2]; exact eqGuard_int ..) (u := ?_) (by
        rw [e1, e2]
        simp only [binOp, ne_eq, not_true_eq_false, if_false, Op.intArith, Op.intCmp]
        rfl), .d _ _ (by constructor)⟩

theorem ok_strop {op : BinOp} {t t' : TypeId} {x y : Operand} {a b : List UInt8} (hx : EvOK E.G s x (.d (.str a))) (hy : EvOK E.G s y (.d (.str b))) {stop : Prop} {k : AV → Prop} (H : strK op a b stop k) :
    stop ∨ ∃ v, k v ∧ OpOK E (.binOp op t x y t') s h v h := by
  have tl : ∀ l : List UInt8, (ByteArray.mk l.toArray).toList = l := fun l => by simp
  unfold strK at H
  split at H
  all_goals first
    | exact .inl H
    | refine .inr ⟨_, H, .quiet fun o c ac h1 _ h3 h4 => ?_⟩
      have e1 := vr_str (hx c ac h3 h4)
      have e2 := vr_str (hy c ac h3 h4)
      refine ⟨_, run_binOp h1 (by rw [e1, e2]; exact eqGuard_str ..) (u := ?_) (by
        rw [e1, e2]
        simp only [binOp, Op.stringOp, tl]
        rfl), .d _ _ (by constructor)⟩

theorem ok_boolop {op : BinOp} {t t' : TypeId} {x y : Operand} {i : TInfo} (ht : tinfo E.P t = some i) {a b : Bool} (hx : EvOK E.G s x (.d (.bool a))) (hy : EvOK E.G s y (.d (.bool b))) (hk : i.k = .bool) (v : Bool)
    (hop : op = .eql ∧ v = (a == b) ∨ op = .neq ∧ v = !(a == b)) : OpOK E (.binOp op t x y t') s h (.d (.bool v)) h :=
  .quiet fun o c ac h1 _ h3 h4 => by
    have e1 := vr_bool (hx c ac h3 h4)
    have e2 := vr_bool (hy c ac h3 h4)
    obtain ⟨ti, d, g1, g2, g3, -⟩ := tinfo_inv ht
    have hd : d = .bool := by rw [hk] at g3; cases d <;> first | rfl | cases g3
    subst hd
    have heq : ∀ w, (Op.equal t (.bool a) (.bool b)).run E.P w = .ok (a == b) w := fun w => by
      have : ∀ n, (Op.equalIn (n + 1) t (.bool a) (.bool b)).run E.P w = .ok (a == b) w := fun n => by
        rw [Op.equalIn]
        simp only [Sem.run_bind, run_underlying g2, Result.andThen_ok, Sem.run_pure]
      exact this 9999
    refine ⟨_, run_binOp h1 (by rw [e1, e2]; exact eqGuard_bool ..) (u := .bool v) ?_, .d _ _ (.bool v)⟩
    rw [e1, e2]
    rcases hop with ⟨rfl, rfl⟩ | ⟨rfl, rfl⟩ <;> simp only [binOp, Sem.run_bind, heq, Result.andThen_ok, Sem.run_pure]

theorem ok_div {op : BinOp} {t t' : TypeId} {x y : Operand} {j : IntKind} {a : Int} (hop : op = .quo ∨ op = .rem) (hx : EvOK E.G s x (.d (.int j a))) {stop : Prop} {k : AV → Prop} (H : divK op j a y stop k) :
    stop ∨ ∃ v, k v ∧ OpOK E (.binOp op t x y t') s h v h := by
  unfold divK at H
  split at H
  · rename_i j' m
    have hne : ¬ (Int.ofNat (m + 1) = 0) := by intro h; cases h
    rcases hop with rfl | rfl
    · dsimp only at H
      split at H
      · rename_i hs
        obtain rfl := same_eq hs
        refine .inr ⟨_, H, .quiet fun o c ac h1 _ h3 h4 => ⟨_, run_binOp h1 (by rw [vr_int (hx c ac h3 h4)]; exact eqGuard_int ..) (u := .int j (j.wrap (a.tdiv (.ofNat (m + 1))))) ?_, .d _ _ (.int _ _)⟩⟩
        rw [vr_int (hx c ac h3 h4)]
        simp only [Act.eval, binOp, ne_eq, not_true_eq_false, if_false, Op.intDiv, hne, Sem.run_pure]
      · exact .inl H
    · dsimp only at H
      split at H
      · rename_i hs
        obtain rfl := same_eq hs
        refine .inr ⟨_, H, .quiet fun o c ac h1 _ h3 h4 => ⟨_, run_binOp h1 (by rw [vr_int (hx c ac h3 h4)]; exact eqGuard_int ..) (u := .int j (a.tmod (.ofNat (m + 1)))) ?_, .d _ _ (.int _ _)⟩⟩
        rw [vr_int (hx c ac h3 h4)]
        simp only [Act.eval, binOp, ne_eq, not_true_eq_false, if_false, Op.intDiv, hne, Sem.run_pure]
      · exact .inl H
  · exact .inl H

theorem ok_bin {op : BinOp} (hop : op ≠ .quo ∧ op ≠ .rem) {t t' : TypeId} {x y : Operand} {i : TInfo} (ht : tinfo E.P t = some i) {a b : AV} (hx : EvOK E.G s x a) (hy : EvOK E.G s y b) {stop : Prop} {k : AV → Prop} (H : binK i op a b stop k) :
    stop ∨ ∃ v, k v ∧ OpOK E (.binOp op t x y t') s h v h := by
  unfold binK at H
  split at H
  · split at H
    · rename_i hs
      obtain rfl := same_eq hs
      exact ok_int hx hy H
    · exact .inl H
  · exact ok_strop hx hy H
  · split at H
    · rename_i hk
      exact .inr ⟨_, H, ok_boolop ht hx hy hk _ (.inl ⟨rfl, rfl⟩)⟩
    · rename_i hk
      exact .inr ⟨_, H, ok_boolop ht hx hy hk _ (.inr ⟨rfl, rfl⟩)⟩
    · exact .inl H
  · exact .inl H

theorem ok_not {t : TypeId} {x : Operand} {b : Bool} (hx : EvOK E.G s x (.d (.bool b))) : OpOK E (.unOp .not t x) s h (.d (.bool !b)) h :=
  .quiet fun o c ac h1 _ h3 h4 => ⟨.bool !b, by simp only [execOp, h1, vr_bool (hx c ac h3 h4), Op.unary, Sem.run_bind, Sem.run_pure, Result.andThen_ok], .d _ _ (.bool _)⟩
theorem ok_neg {t : TypeId} {x : Operand} {j : IntKind} {n : Int} (hx : EvOK E.G s x (.d (.int j n))) : OpOK E (.unOp .neg t x) s h (.d (.int j (j.wrap (0 - n)))) h :=
  .quiet fun o c ac h1 _ h3 h4 => ⟨.int j (j.wrap (0 - n)), by simp only [execOp, h1, vr_int (hx c ac h3 h4), Op.unary, Op.intArith, Sem.run_bind, Sem.run_pure, Result.andThen_ok], .d _ _ (.int _ _)⟩

theorem ok_extract {x : Operand} {n : Nat} {l : List AV} (hx : EvOK E.G s x (.tup l)) {v : AV} (hv : l[n]? = some v) : OpOK E (.extract x n) s h v h :=
  .quiet fun o c ac h1 _ h3 h4 => by
    have := hx c ac h3 h4
    generalize he : ac.eval x = u at this
    cases this with
    | tup _ vs hl hval =>
      have hn : n < vs.size := by
        rw [← hl]
        rcases Nat.lt_or_ge n l.length with h | h
        · exact h
        · rw [List.getElem?_eq_none h] at hv; cases hv
      exact ⟨vs[n], by simp only [execOp, h1, he, Instr.extract, Sem.run_bind, Sem.run_pure, Result.andThen_ok, Array.getElem?_eq_getElem hn], hval n v vs[n] hv (by simp [hn])⟩
theorem ok_extractD {x : Operand} {n : Nat} {l : List DV} (hx : EvOK E.G s x (.d (.tup l))) {v : DV} (hv : l[n]? = some v) : OpOK E (.extract x n) s h (.d v) h :=
  .quiet fun o c ac h1 _ h3 h4 => by
    have := hx c ac h3 h4
    generalize he : ac.eval x = u at this
    cases this with
    | d _ _ hd => cases hd with
      | tup _ vs hl hval =>
        have hn : n < vs.size := by
          rw [← hl]
          rcases Nat.lt_or_ge n l.length with h | h
          · exact h
          · rw [List.getElem?_eq_none h] at hv; cases hv
        exact ⟨vs[n], by simp only [execOp, h1, he, Instr.extract, Sem.run_bind, Sem.run_pure, Result.andThen_ok, Array.getElem?_eq_getElem hn], .d _ _ (hval n v vs[n] hv (by simp [hn]))⟩

theorem tk_int {d : TypeDesc} {j : IntKind} (h : TK.int j = tk d) : d = .int j := by cases d <;> first | cases h <;> rfl | cases h
theorem tk_string {d : TypeDesc} (h : TK.string = tk d) : d = .string := by cases d <;> first | rfl | cases h
theorem tk_slice {d : TypeDesc} {e : Nat} (h : TK.slice e = tk d) : d = .slice e := by cases d <;> first | cases h <;> rfl | cases h
theorem tk_array {d : TypeDesc} {n e : Nat} (h : TK.array n e = tk d) : d = .array n e := by cases d <;> first | cases h <;> rfl | cases h
theorem tk_struct {d : TypeDesc} {fs : List (Nat × Nat)} (h : TK.struct fs = tk d) : ∃ fl, d = .struct fl ∧ fs = fl.toList.map fun f => (f.offset, f.type) := by
  cases d with
  | struct fl => exact ⟨fl, rfl, by injection h⟩
  | _ => cases h

theorem ok_convInt {t0 t : TypeId} {x : Operand} {i i0 : TInfo} (ht : tinfo E.P t = some i) (ht0 : tinfo E.P t0 = some i0) {j j' : IntKind} {n : Int} (hk : i.k = .int j) (hx : EvOK E.G s x (.d (.int j' n))) : OpOK E (.convert t0 t x) s h (.d (.int j (j.wrap n))) h :=
  .quiet fun o c ac h1 _ h3 h4 => by
    obtain ⟨ti, d, g1, g2, g3, -⟩ := tinfo_inv ht
    obtain ⟨ti0, d0, k1, k2, -⟩ := tinfo_inv ht0
    obtain rfl := tk_int (hk.symm.trans g3)
    refine ⟨.int j (j.wrap n), ?_, .d _ _ (.int _ _)⟩
    simp only [execOp, h1, vr_int (hx c ac h3 h4), convert, Sem.run_bind, run_underlying k2, run_underlying g2, Result.andThen_ok, Conv.intToInt, Sem.run_pure]
theorem ok_convStr {t0 t : TypeId} {x : Operand} {i i0 : TInfo} (ht : tinfo E.P t = some i) (ht0 : tinfo E.P t0 = some i0) {l : List UInt8} (hk : i.k = .string) (hx : EvOK E.G s x (.d (.str l))) : OpOK E (.convert t0 t x) s h (.d (.str l)) h :=
  .quiet fun o c ac h1 _ h3 h4 => by
    obtain ⟨ti, d, g1, g2, g3, -⟩ := tinfo_inv ht
    obtain ⟨ti0, d0, k1, k2, -⟩ := tinfo_inv ht0
    obtain rfl := tk_string (hk.symm.trans g3)
    refine ⟨.string ⟨l.toArray⟩, ?_, .d _ _ (.str _)⟩
    simp only [execOp, h1, vr_str (hx c ac h3 h4), convert, Sem.run_bind, run_underlying k2, run_underlying g2, Result.andThen_ok, Sem.run_pure]

/-- What a pointer is. -/
theorem vr_ptr {a : AV} {p : Value} (hv : VR c a p) (ha : (∃ b off cs, a = .ptr b off ∧ c.heap[b]? = some (.cells cs)) ∨ (∃ e off, a = .eptr e off)) : ∃ blk off, p = .pointer (some ⟨blk, off, none⟩) := by
  rcases ha with ⟨b, off, cs, rfl, hb⟩ | ⟨e, off, rfl⟩
  · cases hv with
    | ptr _ _ _ blk cap h1 h2 => exact ⟨_, _, rfl⟩
    | ptrgone _ _ _ h1 _ => rw [hb] at h1; cases h1
  · cases hv with
    | eptr _ _ blk o f _ _ _ _ => exact ⟨_, _, rfl⟩

end
end Go.Eng
