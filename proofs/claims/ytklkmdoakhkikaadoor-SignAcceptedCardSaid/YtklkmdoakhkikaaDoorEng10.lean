/- The engine, part 10: calls, returns, cases, runs. No conditions. -/
import Derived.Test.YtklkmdoakhkikaaDoorEng9
namespace Go.Eng
open Go Go.RowKit

/-- Pure values, one by one. -/
def VLD (bad : Nat → Prop) (w : World) (l : List DV) (vs : List Value) : Prop := l.length = vs.length ∧ ∀ (j : Nat) (x : DV) (v : Value), l[j]? = some x → vs[j]? = some v → VD bad w x v

/-- The package-level tables hold what they should. -/
def GlobOK (G : List (Nat × DV)) (bar : Nat → Prop) (w : World) : Prop := ∀ g e, (g, e) ∈ G → VR ⟨fun _ => none, [], bar, w⟩ (.eptr e 0) (.pointer (some ⟨g, 0, none⟩))

/-- A function with a Go body. -/
def HasBody (P : Program) (f : FuncId) : Prop := ∃ fn, P.funcs[f]? = some fn ∧ fn.body.isNone = false ∧ (fn.name == "runtime.NumGoroutine") = false

/-- A function, called with pure values, returns a pure value of which R holds; nothing that was there changes. -/
@[irreducible] def PCalls (E : Env) (f : FuncId) (args : List DV) (R : DV → Prop) : Prop :=
  HasBody E.P f ∧ ∀ (bar : Nat → Prop) (w : World) (vs : List Value), (∀ b, bar b → b < w.heap.size) → GlobOK E.G bar w → VLD bar w args vs →
    Calls E.P f vs.toArray w fun e w' => ∃ v r, e = .returned v ∧ R r ∧ VD bar w' r v ∧ Proofs.YtklkmdoakhkikaaDoor.Ext w w'

theorem bad_none {bar : Nat → Prop} {w : World} {h : List Box} {b : Nat} : (⟨fun _ => none, h, bar, w⟩ : Cx).bad b ↔ bar b :=
  ⟨fun hb => hb.elim id (fun ⟨_, _, h⟩ => (by cases h)), .inl⟩

theorem vd_none {bar : Nat → Prop} {w : World} {h : List Box} {x : DV} {v : Value} (hv : VD bar w x v) : VD (⟨fun _ => none, h, bar, w⟩ : Cx).bad w x v :=
  hv.mono fun _ _ hn => ⟨fun hb => hn (bad_none.1 hb), rfl⟩

theorem PCalls.mono {E : Env} {f : FuncId} {args : List DV} {R R' : DV → Prop} (H : PCalls E f args R) (hr : ∀ r, R r → R' r) : PCalls E f args R' := by
  unfold PCalls at H ⊢
  exact ⟨H.1, fun bar w vs h1 h2 h3 => (H.2 bar w vs h1 h2 h3).mono fun e w' ⟨v, r, k1, k2, k3, k4⟩ => ⟨v, r, k1, hr r k2, k3, k4⟩⟩

/-- Slots at the start. -/
def enterS (args : List AV) (n : Nat) : List AV := args ++ List.replicate (n - args.length) (.d .undef)

theorem vs_enter {c : Cx} {args : List AV} {vs : List Value} (n : Nat) (hv : VL c args vs) : VS c (enterS args n) (vs.toArray ++ Array.replicate (n - vs.toArray.size) undef) := by
  have hl := hv.1
  refine ⟨by simp [enterS, hl], fun i x v hx hu => ?_⟩
  simp only [enterS] at hx
  rcases Nat.lt_or_ge i args.length with hi | hi
  · rw [List.getElem?_append_left hi] at hx
    rw [Array.getElem?_append_left (by simp; omega)] at hu
    exact hv.2 i x v hx (by simpa using hu)
  · rw [List.getElem?_append_right hi, List.getElem?_replicate] at hx
    rw [Array.getElem?_append_right (by simp; omega)] at hu
    split at hx
    · cases hx
      simp [Array.getElem?_replicate] at hu
      obtain ⟨-, rfl⟩ := hu
      exact .d _ _ .undef
    · cases hx

section
variable {E : Env} {f0 fid : FuncId} {k : List AItem} {s : List AV} {cls : List AFrame} {h : List Box} {R : Post}

theorem Rel.ext {c0 c : Cx} (h : Rel c0 c) (hn : ∀ i, c0.own i = none) : Proofs.YtklkmdoakhkikaaDoor.Ext c0.w c.w := ⟨h.os, h.tape, h.output, h.size, fun b hb => h.keep b hb (fun i n hi => by rw [hn i] at hi; cases hi)⟩

/-- A function, called with values that may refer to boxes: what it returns, and what the boxes are then. -/
@[irreducible] def ACalls (E : Env) (f : FuncId) (h : List Box) (args : List AV) (Q : AV → List Box → Prop) : Prop :=
  HasBody E.P f ∧ Fresh h ∧ ∀ (c : Cx) (vs : List Value), c.heap = h → HOk E.G c → VL c args vs →
    Calls E.P f vs.toArray c.w fun e w' => ∃ (c' : Cx) (r : AV) (v : Value), e = .returned v ∧ c'.w = w' ∧ Q r c'.heap ∧ VR c' r v ∧ HOk E.G c' ∧ Rel c c'

theorem ACalls.mono {E : Env} {f : FuncId} {h : List Box} {args : List AV} {Q Q' : AV → List Box → Prop} (H : ACalls E f h args Q) (hq : ∀ r h, Q r h → Q' r h) : ACalls E f h args Q' := by
  unfold ACalls at H ⊢
  exact ⟨H.1, H.2.1, fun c vs h1 h2 h3 => (H.2.2 c vs h1 h2 h3).mono fun e w' ⟨c', r, v, k1, k2, k3, k4⟩ => ⟨c', r, v, k1, k2, hq _ _ k3, k4⟩⟩

theorem ACalls.of_AW {f : FuncId} {fn : Func} {body : Code} {args : List AV} {Q : AV → List Box → Prop} (hf : E.P.funcs[f]? = some fn) (hb : fn.body = some body) (hn : (fn.name == "runtime.NumGoroutine") = false) (hfr : Fresh h)
    (H : AW E f ⟨f, [.code body], enterS args fn.ntmps⟩ [] h ⟨h.length, Q⟩) : ACalls E f h args Q := by
  unfold AW at H
  unfold ACalls
  refine ⟨⟨fn, hf, by rw [hb]; rfl, hn⟩, hfr, fun c vs h1 h2 h3 => ?_⟩
  intro cs
  obtain ⟨c', fr, r, v, e1, e2, e3, e4, e5, e6, e7⟩ := H c c _ [] (by rw [h1]) (fun i hi => by simp at hi; subst hi; trivial) h1 h2 (.refl c (by rw [h1]; exact hfr)) (vs_enter fn.ntmps h3) trivial cs
  refine ⟨.returned v, c'.w, fr, ⟨c', r, v, rfl, rfl, e1, e2, e3, e4⟩, ?_, e6, e7⟩
  have henter : Frame.enter E.P f vs.toArray .normal = (⟨f, [.code body], enterS args fn.ntmps⟩ : AFrame).conc (vs.toArray ++ Array.replicate (fn.ntmps - vs.toArray.size) undef) := by
    simp [Frame.enter, AFrame.conc, Frame.at, hf, hb, bf, AItem.conc]
  show Steps E.P _ _
  rw [henter]
  exact e5

/-- What a call comes to. -/
theorem run_call {P : Program} {o : Oper} {a : Act} {w : World} {fx : Operand} {args : Array Operand} {ts : Array TypeId} {f : FuncId} {v1 v2 : Array Value} (h1 : o.op = .call { callee := .value fx, args := args, argTypes := ts }) (hf : a.eval fx = .func (.func f) v1 v2) (hb : HasBody P f) :
    (execOp a.eval o).run P w = .ok (.enter f (v1 ++ args.map a.eval ++ v2)) w := by
  obtain ⟨fn, g1, g2, g3⟩ := hb
  simp only [execOp, h1, resolve, hf, Deferred.ofValue, invoke, callFunc, Sem.run_bind, Sem.run_pure, Result.andThen_ok, program, Sem.run, g1, g3, g2, Bool.false_eq_true, if_false]

theorem step_enter {P : Program} {b : Frame} {a : Act} {k : List Item} {cs : List Frame} {w : World} {ops : Array Oper} {i : Nat} {rest : List Nat} {o : Oper} {f : FuncId} {args : Array Value} (ho : ops[i]? = some o) (hw : Region.wanted o (yielded ops a.tmps) = true)
    (hr : (execOp a.eval o).run P w = .ok (.enter f args) w) :
    step P (lone (b.at a (.inRegion ops (i :: rest) :: k)) cs w) = .next (lone (Frame.enter P f args .normal) (b.at a (.inRegion ops (i :: rest) :: k) :: cs) w) := by
  have hg := stepG_op (P := P) (b := b) (k := k) (cs := cs) (w := w) (rest := rest) ho hw
  exact step_lone_go (by rw [hg]; simp [stepG.apply, hr, Frame.at])

theorem vr_fn {c : Cx} {f : Fn} {a1 a2 : List AV} {v : Value} (hv : VR c (.fn f a1 a2) v) : ∃ v1 v2 : List Value, v = .func f v1.toArray v2.toArray ∧ VL c a1 v1 ∧ VL c a2 v2 := by
  cases hv with
  | fn _ _ _ v1 v2 h1 h2 h3 h4 => exact ⟨v1.toList, v2.toList, by simp, ⟨by simpa using h1, fun j x v hx hu => h3 j x v hx (by simpa using hu)⟩, ⟨by simpa using h2, fun j x v hx hu => h4 j x v hx (by simpa using hu)⟩⟩

theorem VL.append {c : Cx} {a1 a2 : List AV} {v1 v2 : List Value} (h1 : VL c a1 v1) (h2 : VL c a2 v2) : VL c (a1 ++ a2) (v1 ++ v2) := by
  refine ⟨by simp [h1.1, h2.1], fun j x v hx hv => ?_⟩
  rcases Nat.lt_or_ge j a1.length with hj | hj
  · rw [List.getElem?_append_left hj] at hx
    rw [List.getElem?_append_left (by rw [← h1.1]; exact hj)] at hv
    exact h1.2 j x v hx hv
  · rw [List.getElem?_append_right hj] at hx
    rw [List.getElem?_append_right (by rw [← h1.1]; exact hj), ← h1.1] at hv
    exact h2.2 _ x v hx hv

theorem AW.call {ops : Array Oper} {o : Oper} {l : List Oper} {fx : Operand} {args : Array Operand} {ts : Array TypeId} {f : FuncId} {a1 a2 av : List AV} {ds : List DV} {R1 : DV → Prop} (hw : Wanted ops o s true) (ho : o.op = .call { callee := .value fx, args := args, argTypes := ts })
    (hf : EvOK E.G s fx (.fn (.func f) a1 a2)) (ha : EvsOK E.G s args.toList av) (hd : a1 ++ av ++ a2 = ds.map .d) (hc : PCalls E f ds R1)
    (H : ∀ r, R1 r → AW E f0 ⟨fid, .reg ops l :: k, putS s o.dst (.d r)⟩ cls h R) : AW E f0 ⟨fid, .reg ops (o :: l) :: k, s⟩ cls h R := by
  unfold AW at H ⊢
  unfold PCalls at hc
  intro c0 c t ts h0 h1 h2 h3 hr h4 h5 cs
  obtain ⟨i, hi, hcn, hok⟩ := reg_at (h1 _ (List.mem_cons_self ..))
  obtain ⟨v1, v2, e1, e2, e3⟩ := vr_fn (hf c ⟨t, []⟩ h3 h4)
  have e4 := ha c ⟨t, []⟩ h3 h4
  have e5 := (e2.append e4).append e3
  rw [hd] at e5
  have hbar : ∀ b, c.bad b → b < c.w.heap.size := fun b hb => hb.elim (h3.barlt b) fun ⟨j, n, hj⟩ => (h3.ownlt j b n hj).1
  have hglob : GlobOK E.G c.bad c.w := fun g e hg => by
    have hp : ∀ p, VR c (.eptr e 0) p → VR ⟨fun _ => none, [], c.bad, c.w⟩ (.eptr e 0) p := fun p hp => by
      cases hp with
      | eptr _ _ blk o' fv k1 k2 k3 k4 => exact .eptr _ _ blk o' fv (fun hb => k1 (bad_none.1 hb)) k2 k3 (fun j x hx => vd_none (k4 j x hx))
    exact hp _ (h3.glob g e hg)
  obtain ⟨e, w', fr, ⟨v, r, rfl, hR, hv, hx⟩, hcomes, hfn, hleave⟩ := hc.2 c.bad c.w _ hbar hglob ⟨by simpa using e5.1, e5.ofMapD⟩ ((bf fid).at ⟨t, []⟩ (.inRegion ops (i :: (List.range ops.size).drop (ops.size - l.length)) :: k.map AItem.conc) :: (concs cls ts ++ cs))
  obtain ⟨k1, k2⟩ := h3.grow hx
  have hput : VS (c.inW w') (putS s o.dst (.d r)) ((⟨t, []⟩ : Act).put o.dst v).tmps := VS.putS (a := ⟨t, []⟩) (k2.vs h4) o.dst (.d _ _ hv)
  obtain ⟨c2, fr2, r2, u2, q1, q2, q3, q3', q4, q5, q6⟩ := H r hR c0 (c.inW w') _ ts h0 (ok_cons hok (ok_tail h1)) h2 k1 (hr.step k2) hput (k2.cr h5) cs
  refine ⟨c2, fr2, r2, u2, q1, q2, q3, q3', ?_, q5, q6⟩
  have hrun := run_call (P := E.P) (w := c.w) (a := ⟨t, []⟩) ho e1 hc.1
  have hargs : (v1.toArray ++ args.map (⟨t, []⟩ : Act).eval ++ v2.toArray) = (v1 ++ args.toList.map (⟨t, []⟩ : Act).eval ++ v2).toArray := by
    apply Array.ext'
    simp
  rw [hargs] at hrun
  have s1 := step_enter (P := E.P) (b := bf fid) (k := k.map AItem.conc) (cs := concs cls ts ++ cs) (rest := (List.range ops.size).drop (ops.size - l.length)) hi (hw c t h4) hrun
  have s2 := step_leave_returned (c := (bf fid).at ⟨t, []⟩ (.inRegion ops (i :: (List.range ops.size).drop (ops.size - l.length)) :: k.map AItem.conc)) (cs := concs cls ts ++ cs) hleave
  rw [Frame.finish_at, hi] at s2
  have hcur : (⟨fid, .reg ops (o :: l) :: k, s⟩ : AFrame).conc t = (bf fid).at ⟨t, []⟩ (.inRegion ops (i :: (List.range ops.size).drop (ops.size - l.length)) :: k.map AItem.conc) := by
    simp only [AFrame.conc, List.map_cons, hcn]
  rw [hcur]
  refine .head s1 (Steps.trans hcomes (.head s2 ?_))
  have hnext : (bf fid).at ((⟨t, []⟩ : Act).put ((some o).bind (·.dst)) v) (.inRegion ops ((List.range ops.size).drop (ops.size - l.length)) :: k.map AItem.conc) = (⟨fid, .reg ops l :: k, putS s o.dst (.d r)⟩ : AFrame).conc ((⟨t, []⟩ : Act).put o.dst v).tmps := by
    simp only [AFrame.conc, List.map_cons, AItem.conc, Option.bind_some]
    rw [put_defers]
  rw [hnext]
  exact q4

end
end Go.Eng
