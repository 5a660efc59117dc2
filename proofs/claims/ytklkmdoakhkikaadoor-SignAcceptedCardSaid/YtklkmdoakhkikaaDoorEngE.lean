/- The engine, part E: regions that draw their order, computed. No conditions. -/
import Derived.Test.YtklkmdoakhkikaaDoorEngD
namespace Go.Eng
open Go Go.RowKit

section
variable {E : Env} {fid : FuncId} {R : Post} {ops : Array Oper} {s : List AV} {h : List Box}

theorem AW.draw {id m : Nat} {k : List AItem} (hm : E.P.follows .mixedOrders = true) (hchk : chk ops m = true) (hmn : m ≤ ops.size)
    (H : DPlan E ops h (fun s' => SPlan E ops (fun s2 h2 => AW E fid ⟨fid, k, s2⟩ [] h2 R) (ops.toList.drop m) s' h) (ops.toList.take m) s) : AW E fid ⟨fid, .code (.region id ops true) :: k, s⟩ [] h R := by
  unfold AW
  intro c0 c t ts h0 h1 h2 h3 hr h4 h5 cs
  have hts : concs [] ts = [] := by cases ts <;> rfl
  rw [hts]
  obtain ⟨pl, p1, p2, p3⟩ := DPlan.lay H
  let Q : Exit → Act → World → Prop := fun e a w => e = .normal ∧ ∃ (c' : Cx) (s' : List AV) (h' : List Box), AW E fid ⟨fid, k, s'⟩ [] h' R ∧ HOk E.G c' ∧ c'.heap = h' ∧ a.defers = [] ∧ VS c' s' a.tmps ∧ Step c c' ∧ w = c'.w
  have hx : Proofs.YtklkmdoakhkikaaDoor.Ext c.w { c.w with drawn := c.w.drawn + 1 } := ⟨rfl, rfl, rfl, Nat.le_refl _, fun _ _ => rfl⟩
  obtain ⟨g1, g2⟩ := h3.grow hx
  have hwp : (Code.region id ops true).wp E.P Q ⟨t, []⟩ c.w := by
    refine wp_region_any hm ?_
    refine prefix_ok (E := E) (chk_spec hchk) hmn (c0 := c) (s0 := s) (h := h) (Kf := fun s2 h2 => AW E fid ⟨fid, k, s2⟩ [] h2 R) (fun a c' s' h' hK r1 r2 r3 r4 r5 => ⟨rfl, c', s', h', hK, r1, r2, r3, r4, r5, rfl⟩) pl p1 p2 (fun j o v hj => (p3 j o v hj).1) ops.size (Array.replicate ops.size false) ⟨t, []⟩ (c.inW { c.w with drawn := c.w.drawn + 1 }) g1 h2 rfl ?_ g2 ?_ ?_ ?_
    · have : cur pl (Lst (Array.replicate ops.size false)) 0 s = s := cur_none pl 0 s _ (fun i _ => by unfold Lst; simp [Array.getElem?_replicate]; split <;> rfl)
      rw [this]
      exact g2.vs h4
    · exact ⟨by simp, fun j o e _ hl => by unfold Lst at hl; simp [Array.getElem?_replicate] at hl; split at hl <;> cases hl⟩
    · intro i _
      unfold Lst
      simp [Array.getElem?_replicate]
      split <;> rfl
    · have : ∀ n, cnt (Lst (Array.replicate ops.size false)) n ≤ n := by
        intro n
        induction n with
        | zero => exact Nat.le_refl _
        | succ n ih => simp only [cnt]; split <;> omega
      exact this _
  obtain ⟨e, a', w', ⟨rfl, c', s', h', hA, r1, r2, r3, r4, r5, rfl⟩, harr⟩ := hwp (bf fid) (k.map AItem.conc) cs
  unfold AW at hA
  obtain ⟨c2, fr, r, v, q1, q2, q3, q3', q4, q5, q6⟩ := hA c0 c' a'.tmps [] h0 (ok_tail h1) r2 r1 (hr.step r5) r4 trivial cs
  refine ⟨c2, fr, r, v, q1, q2, q3, q3', ?_, q5, q6⟩
  have ha' : a' = ⟨a'.tmps, []⟩ := by cases a'; simp only at r3; subst r3; rfl
  have : Steps E.P (lone ((bf fid).at ⟨t, []⟩ (.code (.region id ops true) :: k.map AItem.conc)) cs c.w) (lone ((bf fid).at a' (k.map AItem.conc)) cs c'.w) := harr
  rw [ha'] at this
  exact this.trans q4

/-- An operation that is carried out. -/
theorem OpFact.of {o : Oper} {v : AV} (hw : Wanted ops o (maskS (keepOf ops o) 0 s) true) (ho : OpOK E o.op (maskS (keepOf ops o) 0 s) h v h) : OpFact E ops o s h v := fun c a h1 h2 _ h4 j hj K Q hK => by
  obtain ⟨c', u, k1, k2, k3, k4, k5⟩ := ho o c a rfl h2 h1 h4
  unfold wpOp
  simp only [hj, hw c a.tmps h4, if_true]
  left
  have := hK c' u k3 k2 k5 k4
  unfold Oper.wp
  rcases k1 with k1 | ⟨k1, rfl⟩
  · rw [k1]; exact this
  · rw [k1]; exact this
theorem OpFact.skip {o : Oper} (hw : Wanted ops o (maskS (keepOf ops o) 0 s) false) : OpFact E ops o s h (.d .undef) := fun c a h1 h2 _ h4 j hj K Q hK => by
  unfold wpOp
  simp only [hj, hw c a.tmps h4, Bool.false_eq_true, if_false]
  exact hK c Go.undef h1 h2 (Step.refl c h1.barlt) (.d _ _ .undef)
theorem SFact.of {o : Oper} {v : AV} {h' : List Box} (hw : Wanted ops o (maskS (keepOf ops o) 0 s) true) (ho : OpOK E o.op (maskS (keepOf ops o) 0 s) h v h') : SFact E ops o s h v h' := fun c a h1 h2 _ h4 j hj K Q hK => by
  obtain ⟨c', u, k1, k2, k3, k4, k5⟩ := ho o c a rfl h2 h1 h4
  unfold wpOp
  simp only [hj, hw c a.tmps h4, if_true]
  left
  have := hK c' u k3 k2 k5 k4
  unfold Oper.wp
  rcases k1 with k1 | ⟨k1, rfl⟩
  · rw [k1]; exact this
  · rw [k1]; exact this
theorem SFact.skip {o : Oper} (hw : Wanted ops o (maskS (keepOf ops o) 0 s) false) : SFact E ops o s h (.d .undef) h := fun c a h1 h2 _ h4 j hj K Q hK => by
  unfold wpOp
  simp only [hj, hw c a.tmps h4, Bool.false_eq_true, if_false]
  exact hK c Go.undef h1 h2 (Step.refl c h1.barlt) (.d _ _ .undef)

/-- A call, wherever it stands. -/
theorem call_wp {s : List AV} {o : Oper} {fx : Operand} {args : Array Operand} {ts : Array TypeId} {f : FuncId} {a1 a2 av : List AV} {ds : List DV} {r : DV} (ho : o.op = .call { callee := .value fx, args := args, argTypes := ts })
    (hf : EvOK E.G s fx (.fn (.func f) a1 a2)) (ha : EvsOK E.G s args.toList av) (hd : a1 ++ av ++ a2 = ds.map .d) (hc : PCalls E f ds (· = r)) {c : Cx} {a : Act} (h1 : HOk E.G c) (h4 : VS c s a.tmps) {K : Act → World → Prop} {Q : Exit → Act → World → Prop}
    (hK : ∀ (c' : Cx) (u : Value), HOk E.G c' → c'.heap = c.heap → Step c c' → VR c' (.d r) u → K (a.put o.dst u) c'.w) : o.wp E.P a c.w K Q := by
  unfold PCalls at hc
  obtain ⟨v1, v2, e1, e2, e3⟩ := vr_fn (hf c a h1 h4)
  have e4 := ha c a h1 h4
  have e5 := (e2.append e4).append e3
  rw [hd] at e5
  have hbar : ∀ b, c.bad b → b < c.w.heap.size := fun b hb => hb.elim (h1.barlt b) fun ⟨j, n, hj⟩ => (h1.ownlt j b n hj).1
  have hglob : GlobOK E.G c.bad c.w := fun g e hg => by
    have hp : ∀ p, VR c (.eptr e 0) p → VR ⟨fun _ => none, [], c.bad, c.w⟩ (.eptr e 0) p := fun p hp => by
      cases hp with
      | eptr _ _ blk o' fv k1 k2 k3 k4 => exact .eptr _ _ blk o' fv (fun hb => k1 (bad_none.1 hb)) k2 k3 (fun j x hx => vd_none (k4 j x hx))
    exact hp _ (h1.glob g e hg)
  have hcall := hc.2 c.bad c.w _ hbar hglob ⟨by simpa using e5.1, e5.ofMapD⟩
  have hrun := run_call (P := E.P) (w := c.w) (a := a) ho e1 hc.1
  have hargs : (v1.toArray ++ args.map a.eval ++ v2.toArray) = (v1 ++ args.toList.map a.eval ++ v2).toArray := by
    apply Array.ext'
    simp
  rw [hargs] at hrun
  unfold Oper.wp
  rw [hrun, Oper.upon_enter]
  refine hcall.mono fun e w' he => ?_
  obtain ⟨v, r', rfl, rfl, hv, hx⟩ := he
  obtain ⟨k1, k2⟩ := h1.grow hx
  exact hK (c.inW w') v k1 rfl k2 (.d _ _ hv)

theorem OpFact.call {o : Oper} {fx : Operand} {args : Array Operand} {ts : Array TypeId} {f : FuncId} {a1 a2 av : List AV} {ds : List DV} {r : DV} (hw : Wanted ops o (maskS (keepOf ops o) 0 s) true) (ho : o.op = .call { callee := .value fx, args := args, argTypes := ts })
    (hf : EvOK E.G (maskS (keepOf ops o) 0 s) fx (.fn (.func f) a1 a2)) (ha : EvsOK E.G (maskS (keepOf ops o) 0 s) args.toList av) (hd : a1 ++ av ++ a2 = ds.map .d) (hc : PCalls E f ds (· = r)) : OpFact E ops o s h (.d r) := fun c a h1 h2 _ h4 j hj K Q hK => by
  unfold wpOp
  simp only [hj, hw c a.tmps h4, if_true]
  left
  exact call_wp ho hf ha hd hc h1 h4 fun c' u k1 k2 k3 k4 => hK c' u k1 (k2.trans h2) k3 k4
theorem SFact.call {o : Oper} {fx : Operand} {args : Array Operand} {ts : Array TypeId} {f : FuncId} {a1 a2 av : List AV} {ds : List DV} {r : DV} (hw : Wanted ops o (maskS (keepOf ops o) 0 s) true) (ho : o.op = .call { callee := .value fx, args := args, argTypes := ts })
    (hf : EvOK E.G (maskS (keepOf ops o) 0 s) fx (.fn (.func f) a1 a2)) (ha : EvsOK E.G (maskS (keepOf ops o) 0 s) args.toList av) (hd : a1 ++ av ++ a2 = ds.map .d) (hc : PCalls E f ds (· = r)) : SFact E ops o s h (.d r) h := fun c a h1 h2 _ h4 j hj K Q hK => by
  unfold wpOp
  simp only [hj, hw c a.tmps h4, if_true]
  left
  exact call_wp ho hf ha hd hc h1 h4 fun c' u k1 k2 k3 k4 => hK c' u k1 (k2.trans h2) k3 k4
theorem SFact.acall {o : Oper} {fx : Operand} {args : Array Operand} {ts : Array TypeId} {f : FuncId} {a1 a2 av : List AV} {sel : List Nat} {r : AV} {h1 : List Box} (hw : Wanted ops o (maskS (keepOf ops o) 0 s) true) (ho : o.op = .call { callee := .value fx, args := args, argTypes := ts })
    (hf : EvOK E.G (maskS (keepOf ops o) 0 s) fx (.fn (.func f) a1 a2)) (ha : EvsOK E.G (maskS (keepOf ops o) 0 s) args.toList av) (hc : ACalls E f (unH sel h) ((a1 ++ av ++ a2).map (unV sel h)) (fun a b => a = r ∧ b = h1)) (hn : sel.Nodup) (hlt : ∀ j ∈ sel, j < h.length) : SFact E ops o s h (reV sel h r) (reH sel h h1) := fun c a k1 h2 _ h4 j hj K Q hK => by
  unfold wpOp
  simp only [hj, hw c a.tmps h4, if_true]
  left
  obtain ⟨v1, v2, e1, e2, e3⟩ := vr_fn (hf c a k1 h4)
  have e4 := ha c a k1 h4
  have e5 := (e2.append e4).append e3
  have hb : HasBody E.P f := by unfold ACalls at hc; exact hc.1
  have hcall := hc.at (c := c) hn hlt h2 k1 e5
  have hrun := run_call (P := E.P) (w := c.w) (a := a) ho e1 hb
  have hargs : (v1.toArray ++ args.map a.eval ++ v2.toArray) = (v1 ++ args.toList.map a.eval ++ v2).toArray := by
    apply Array.ext'
    simp
  rw [hargs] at hrun
  unfold Oper.wp
  rw [hrun, Oper.upon_enter]
  refine hcall.mono fun e w' he => ?_
  obtain ⟨c', r', h1', v, rfl, rfl, ⟨rfl, rfl⟩, q1, q2, q3, q4⟩ := he
  exact hK c' v q3 q1 q4 q2

end

/-- A call with one result. -/
@[irreducible] def callP1 (E : Env) (f : FuncId) (ds : List DV) (K : DV → Prop) : Prop := ∃ r, PCalls E f ds (· = r) ∧ K r
theorem callP1_eq {E : Env} {f : FuncId} {ds : List DV} {K : DV → Prop} {r : DV} (h : PCalls E f ds (· = r)) (hk : K r) : callP1 E f ds K := by unfold callP1; exact ⟨r, h, hk⟩

/-- A call with boxes, and one result. -/
@[irreducible] def callS1 (E : Env) (f : FuncId) (h0 : List Box) (args : List AV) (K : AV → List Box → Prop) : Prop := ∃ r h1, ACalls E f h0 args (fun a b => a = r ∧ b = h1) ∧ K r h1
theorem callS1_eq {E : Env} {f : FuncId} {h0 : List Box} {args : List AV} {K : AV → List Box → Prop} {r : AV} {h1 : List Box} (H : ACalls E f h0 args (fun a b => a = r ∧ b = h1)) (hk : K r h1) : callS1 E f h0 args K := by unfold callS1; exact ⟨r, h1, H, hk⟩
def callB1K (E : Env) (f : FuncId) (avs : List AV) (h : List Box) (stop : Prop) (k : AV → List Box → Prop) : Prop :=
  seesV h avs [] fun sel0 => closeK h 20 0 sel0 fun sel => lenK h 0 fun n => match okSel n sel with
    | true => unHK sel h fun h0 => mapsK (unVK sel h) avs fun args0 => callS1 E f h0 args0 fun r h1 => reVK sel h r fun v => reHK sel h h1 fun h' => k v h'
    | false => stop
theorem callB1K_sound {E : Env} {f : FuncId} {avs : List AV} {h : List Box} {stop : Prop} {k : AV → List Box → Prop} (H : callB1K E f avs h stop k) : stop ∨ ∃ (sel : List Nat) (r : AV) (h1 : List Box),
    ACalls E f (unH sel h) (avs.map (unV sel h)) (fun a b => a = r ∧ b = h1) ∧ sel.Nodup ∧ (∀ j ∈ sel, j < h.length) ∧ k (reV sel h r) (reH sel h h1) := by
  unfold callB1K at H
  obtain ⟨s0, H⟩ := seesV_some H
  obtain ⟨sel, H⟩ := closeK_some H
  rw [lenK_eq, Nat.zero_add] at H
  split at H
  · rename_i q
    obtain ⟨h1, h2⟩ := okSel_spec q
    rw [unHK_eq, mapsK_eq (unVK_eq sel h)] at H
    unfold callS1 at H
    obtain ⟨r, hp, h3, h4⟩ := H
    rw [reVK_eq, reHK_eq] at h4
    exact .inr ⟨sel, r, hp, h3, h1, h2, h4⟩
  · exact .inl H

/-- Operations that leave the boxes alone. -/
def stillOp : Op → Bool
  | .box .. => false
  | .alloc .. => false
  | .store .. => false
  | .makeSlice .. => false
  | .call { callee := .builtin .append, .. } => false
  | _ => true

def maskK {α : Sort _} (keep : List Nat) : Nat → List AV → (List AV → α) → α
  | _, [], k => k []
  | i, x :: s, k => match memB i keep with
    | true => maskK keep (i + 1) s fun s' => k (x :: s')
    | false => maskK keep (i + 1) s fun s' => k (.any :: s')
theorem maskK_eq {α : Sort _} (keep : List Nat) : ∀ (i : Nat) (s : List AV) (k : List AV → α), maskK keep i s k = k (maskS keep i s)
  | _, [], _ => rfl
  | i, x :: s, k => by
    simp only [maskK, maskS]
    split <;> rename_i q <;> rw [maskK_eq keep (i + 1)] <;> simp only [q]

/-- The configuration inside a region that draws its order: operations in any order, operations in order. -/
@[irreducible] def DWL (E : Env) (fid : FuncId) (R : Post) (ops : Array Oper) (k : List AItem) (_lits : List Nat) (pre suf : List Oper) (s : List AV) (h : List Box) : Prop :=
  DPlan E ops h (fun s' => SPlan E ops (fun s2 h2 => AWL E fid R [] k s2 h2) suf s' h) pre s
@[irreducible] def SWL (E : Env) (fid : FuncId) (R : Post) (ops : Array Oper) (k : List AItem) (_lits : List Nat) (suf : List Oper) (s : List AV) (h : List Box) : Prop :=
  SPlan E ops (fun s2 h2 => AWL E fid R [] k s2 h2) suf s h

def drunK (E : Env) (fid : FuncId) (R : Post) (ops : Array Oper) (k : List AItem) : Nat → List Nat → List Oper → List Oper → List AV → List Box → Prop
  | 0, lits, pre, suf, s, h => DWL E fid R ops k lits pre suf s h
  | n + 1, lits, pre, suf, s, h =>
    match pre with
    | [] => SWL E fid R ops k lits suf s h
    | o :: l => maskK (keepOf ops o) 0 s fun so =>
      let go : Prop := match stillOp o.op with
        | true => opK E.T E.G o.op so h (plainSK E o.op so (sideMK E o.op so h (callK E.G so o (DWL E fid R ops k lits pre suf s h) fun f avs => allDK avs (DWL E fid R ops k lits pre suf s h) fun ds => callP1 E f ds fun v => putK s o.dst (.d v) fun s' => DWL E fid R ops k lits l suf s' h)
            fun v _ => putK s o.dst v fun s' => DWL E fid R ops k lits l suf s' h)
            fun v => putK s o.dst v fun s' => drunK E fid R ops k n lits l suf s' h)
          fun v _ => putK s o.dst v fun s' => drunK E fid R ops k n lits l suf s' h
        | false => DWL E fid R ops k lits pre suf s h
      guardK ops o.guard go (DWL E fid R ops k lits pre suf s h) fun d b => getK so d (DWL E fid R ops k lits pre suf s h) fun
        | .d (.bool t) => match memB d lits with
          | false => caseB t (setK s d (.d (.bool true)) fun s' => DWL E fid R ops k (d :: lits) pre suf s' h) (setK s d (.d (.bool false)) fun s' => DWL E fid R ops k (d :: lits) pre suf s' h)
          | true => match sameB t b with
            | true => go
            | false => putK s o.dst (.d .undef) fun s' => drunK E fid R ops k n lits l suf s' h
        | .d .undef => putK s o.dst (.d .undef) fun s' => drunK E fid R ops k n lits l suf s' h
        | _ => DWL E fid R ops k lits pre suf s h

theorem opK_still {T : List TInfo} {G : List (Nat × DV)} {o : Op} {s : List AV} {h : List Box} {stop : Prop} {K : AV → Prop} (ho : stillOp o = true) (H : opK T G o s h stop (fun v _ => K v)) : opK T G o s h stop (fun v h' => h' = h ∧ K v) := by
  cases o
  case box => cases ho
  case alloc => cases ho
  case store => cases ho
  case unOp op t x => cases op <;> simpa only [opK, true_and] using H
  case call c =>
    obtain ⟨callee, args, ts⟩ := c
    cases callee with
    | builtin b => cases b <;> simpa only [opK, true_and] using H
    | _ => simpa only [opK] using H
  all_goals simpa only [opK, true_and] using H

theorem sideK_still {T : List TInfo} {G : List (Nat × DV)} {o : Op} {s : List AV} {h : List Box} {stop : Prop} {K : AV → Prop} (ho : stillOp o = true) (H : sideK T G o s h stop (fun v _ => K v)) : sideK T G o s h stop (fun v h' => h' = h ∧ K v) := by
  cases o
  case store => cases ho
  case makeSlice => cases ho
  case slice t x lo hi mx => cases mx <;> simpa only [sideK, appK, true_and] using H
  case call c =>
    obtain ⟨callee, args, ts⟩ := c
    cases callee with
    | builtin b => cases b <;> first | (simpa only [sideK, appK] using H) | (simp [stillOp] at ho)
    | _ => simpa only [sideK, appK] using H
  all_goals simpa only [sideK, appK, true_and] using H

theorem sideMK_still {E : Env} {o : Op} {s : List AV} {h : List Box} {stop : Prop} {K : AV → Prop} (ho : stillOp o = true) (H : sideMK E o s h stop (fun v _ => K v)) : sideMK E o s h stop (fun v h' => h' = h ∧ K v) := by
  unfold sideMK at H ⊢
  have := sideK_still ho H
  have e : (fun v => h = h ∧ K v) = K := by funext v; simp
  rw [e]
  exact this
theorem SWL.is {E : Env} {fid : FuncId} {R : Post} {ops : Array Oper} {k : List AItem} {lits : List Nat} {suf : List Oper} {s : List AV} {h : List Box} (H : SWL E fid R ops k lits suf s h) : SWL E fid R ops k lits suf s h := H
theorem DWL.is {E : Env} {fid : FuncId} {R : Post} {ops : Array Oper} {k : List AItem} {lits : List Nat} {pre suf : List Oper} {s : List AV} {h : List Box} (H : DWL E fid R ops k lits pre suf s h) : DWL E fid R ops k lits pre suf s h := H
theorem SWL.to {E : Env} {fid : FuncId} {R : Post} {ops : Array Oper} {k : List AItem} {lits : List Nat} {suf : List Oper} {s : List AV} {h : List Box} (H : SWL E fid R ops k lits suf s h) : SPlan E ops (fun s2 h2 => AWL E fid R [] k s2 h2) suf s h := by unfold SWL at H; exact H
theorem DWL.to {E : Env} {fid : FuncId} {R : Post} {ops : Array Oper} {k : List AItem} {lits : List Nat} {pre suf : List Oper} {s : List AV} {h : List Box} (H : DWL E fid R ops k lits pre suf s h) : DPlan E ops h (fun s' => SPlan E ops (fun s2 h2 => AWL E fid R [] k s2 h2) suf s' h) pre s := by unfold DWL at H; exact H

theorem float_sound {E : Env} {o : Oper} {so : List AV} {h : List Box} {A stop : Prop} {K : AV → Prop} {B : AV → List Box → Prop} {C : (f : FuncId) → List AV → Prop} {D : AV → Prop} (hF : floatB o = true)
    (H : match stillOp o.op with
        | true => opK E.T E.G o.op so h (plainSK E o.op so (sideMK E o.op so h (callK E.G so o stop C) B) D) fun v _ => K v
        | false => A) (hA : A → stop) : stop ∨ ∃ v, K v ∧ ∀ h', OpOK E o.op so h' v h' := by
  obtain ⟨dst, op, type, pos, after, guard⟩ := o
  cases op <;> first | (cases guard <;> cases hF; done) | skip
  case extract x i =>
    simp only [stillOp, opK, plainSK, sideMK, sideK, appK, stillK, callK] at H
    rcases evalK_sound H with H | ⟨v, hv, H⟩
    · exact .inl H
    split at H
    · rename_i l
      rcases getK_or H with H | ⟨u, hu, H⟩
      · exact .inl H
      · exact .inr ⟨_, H, fun h' => ok_extract hv hu⟩
    · rename_i l
      rcases getK_or H with H | ⟨u, hu, H⟩
      · exact .inl H
      · exact .inr ⟨_, H, fun h' => ok_extractD hv hu⟩
    · exact .inl H
  case move x =>
    simp only [stillOp, opK, plainSK, sideMK, sideK, appK, stillK, callK] at H
    rcases evalK_sound H with H | ⟨v, hv, H⟩
    · exact .inl H
    · exact .inr ⟨_, H, fun h' => ok_move hv⟩
  case assign x =>
    simp only [stillOp, opK, plainSK, sideMK, sideK, appK, stillK, callK] at H
    rcases evalK_sound H with H | ⟨v, hv, H⟩
    · exact .inl H
    · exact .inr ⟨_, H, fun h' => ok_assign hv⟩

theorem drunK_sound {E : Env} (hE : E.OK) {fid : FuncId} {R : Post} {ops : Array Oper} {k : List AItem} : ∀ (n : Nat) (lits : List Nat) (pre suf : List Oper) (s : List AV) (h : List Box),
    drunK E fid R ops k n lits pre suf s h → DPlan E ops h (fun s' => SPlan E ops (fun s2 h2 => AWL E fid R [] k s2 h2) suf s' h) pre s := by
  intro n
  induction n with
  | zero => intro lits pre suf s h H; exact DWL.to H
  | succ n ih =>
    intro lits pre suf s h H
    unfold drunK at H
    split at H
    · exact SWL.to H
    rename_i o l
    rw [maskK_eq] at H
    have hso : ∀ (d : Nat) (x : AV), (maskS (keepOf ops o) 0 s)[d]? = some x → x ≠ .any → s[d]? = some x := fun d x hx hne => by
      rcases maskS_get _ 0 d s x hx with h | ⟨-, h⟩
      · exact absurd h hne
      · exact h
    have go : Wanted ops o (maskS (keepOf ops o) 0 s) true → (match stillOp o.op with
        | true => opK E.T E.G o.op (maskS (keepOf ops o) 0 s) h (plainSK E o.op (maskS (keepOf ops o) 0 s) (sideMK E o.op (maskS (keepOf ops o) 0 s) h (callK E.G (maskS (keepOf ops o) 0 s) o (DWL E fid R ops k lits (o :: l) suf s h) fun f avs => allDK avs (DWL E fid R ops k lits (o :: l) suf s h) fun ds => callP1 E f ds fun v => putK s o.dst (.d v) fun s' => DWL E fid R ops k lits l suf s' h)
            fun v _ => putK s o.dst v fun s' => DWL E fid R ops k lits l suf s' h)
            fun v => putK s o.dst v fun s' => drunK E fid R ops k n lits l suf s' h)
          fun v _ => putK s o.dst v fun s' => drunK E fid R ops k n lits l suf s' h
        | false => DWL E fid R ops k lits (o :: l) suf s h) → DPlan E ops h (fun s' => SPlan E ops (fun s2 h2 => AWL E fid R [] k s2 h2) suf s' h) (o :: l) s := by
      intro hw H
      by_cases hF : floatB o = true
      · rcases float_sound hF H id with H | ⟨v, H, ho⟩
        · exact DWL.to H
        · rw [putK_eq] at H
          exact ⟨v, OpFact.of hw (ho h), fun _ h' => OpFact.of hw (ho h'), ih _ _ _ _ _ H⟩
      have noF : ∀ {v : AV}, floatB o = true → ∀ h', OpFact E ops o s h' v := fun e => absurd e hF
      split at H
      · rename_i hst
        rcases opK_sound hE (opK_still (K := fun v => putK s o.dst v fun s' => drunK E fid R ops k n lits l suf s' h) hst H) with H | ⟨v, h', ⟨rfl, H⟩, ho⟩
        · rcases plainSK_sound hE H with H | ⟨v, H, ho⟩
          case inr =>
            rw [putK_eq] at H
            exact ⟨v, OpFact.of hw (ho h), fun _ h' => OpFact.of hw (ho h'), ih _ _ _ _ _ H⟩
          rcases sideMK_sound hE (sideMK_still (K := fun v => putK s o.dst v fun s' => DWL E fid R ops k lits l suf s' h) hst H) with H | ⟨v, h', ⟨rfl, H⟩, ho⟩
          · rcases callK_sound H with H | ⟨fx, args, ts, f, a1, av, a2, hop, hv, hav, H⟩
            · exact DWL.to H
            rcases allDK_cases (a1 ++ av ++ a2) (DWL E fid R ops k lits (o :: l) suf s h) (fun ds => callP1 E f ds fun v => putK s o.dst (.d v) fun s' => DWL E fid R ops k lits l suf s' h) with ⟨ds, e1, e2⟩ | e2
            · rw [e2] at H
              unfold callP1 at H
              obtain ⟨r, hc, hk⟩ := H
              simp only [putK_eq] at hk
              exact ⟨_, OpFact.call hw hop hv hav e1 hc, noF, DWL.to hk⟩
            · rw [e2] at H; exact DWL.to H
          · rw [putK_eq] at H
            exact ⟨v, OpFact.of hw ho, noF, DWL.to H⟩
        · rw [putK_eq] at H
          exact ⟨v, OpFact.of hw ho, noF, ih _ _ _ _ _ H⟩
      · exact DWL.to H
    dsimp only at H
    unfold guardK at H
    split at H
    · rename_i hg
      exact go (wanted_none hg) H
    · rename_i j b hg
      rcases getK_or H with H | ⟨oj, hoj, H⟩
      · exact DWL.to H
      split at H
      · rename_i d hd
        rcases getK_or H with H | ⟨x, hx, H⟩
        · exact DWL.to H
        split at H
        · rename_i t
          have hxs := hso d _ hx (by simp)
          split at H
          · refine caseB_elim H (fun e H2 => ?_) (fun e H2 => ?_)
            · subst e
              rw [setK_eq, set_same hxs] at H2
              exact DWL.to H2
            · subst e
              rw [setK_eq, set_same hxs] at H2
              exact DWL.to H2
          · have hw := wanted_lit hg hoj hd hx
            split at H
            · rename_i q
              have : (t == b) = true := by cases t <;> cases b <;> first | rfl | cases q
              rw [this] at hw
              exact go hw H
            · rename_i q
              have : (t == b) = false := by cases t <;> cases b <;> first | rfl | cases q
              rw [this] at hw
              rw [putK_eq] at H
              exact ⟨_, OpFact.skip hw, fun _ _ => OpFact.skip hw, ih _ _ _ _ _ H⟩
        · rw [putK_eq] at H
          exact ⟨_, OpFact.skip (wanted_undef hg hoj hd hx), fun _ _ => OpFact.skip (wanted_undef hg hoj hd hx), ih _ _ _ _ _ H⟩
        · exact DWL.to H
      · exact DWL.to H

def srunK (E : Env) (fid : FuncId) (R : Post) (ops : Array Oper) (k : List AItem) : Nat → List Nat → List Oper → List AV → List Box → Prop
  | 0, lits, suf, s, h => SWL E fid R ops k lits suf s h
  | n + 1, lits, suf, s, h =>
    match suf with
    | [] => AWL E fid R [] k s h
    | o :: l => maskK (keepOf ops o) 0 s fun so =>
      let go : Prop := opK E.T E.G o.op so h (plainK E o.op so h (sideMK E o.op so h (callK E.G so o (SWL E fid R ops k lits suf s h) fun f avs => allDK avs (callB1K E f avs h (SWL E fid R ops k lits suf s h) fun v h' => putK s o.dst v fun s' => SWL E fid R ops k lits l s' h') fun ds => callP1 E f ds fun v => putK s o.dst (.d v) fun s' => SWL E fid R ops k lits l s' h)
            fun v h' => putK s o.dst v fun s' => SWL E fid R ops k lits l s' h')
            fun v h' => putK s o.dst v fun s' => srunK E fid R ops k n lits l s' h')
          fun v h' => putK s o.dst v fun s' => srunK E fid R ops k n lits l s' h'
      guardK ops o.guard go (SWL E fid R ops k lits suf s h) fun d b => getK so d (SWL E fid R ops k lits suf s h) fun
        | .d (.bool t) => match memB d lits with
          | false => caseB t (setK s d (.d (.bool true)) fun s' => SWL E fid R ops k (d :: lits) suf s' h) (setK s d (.d (.bool false)) fun s' => SWL E fid R ops k (d :: lits) suf s' h)
          | true => match sameB t b with
            | true => go
            | false => putK s o.dst (.d .undef) fun s' => srunK E fid R ops k n lits l s' h
        | .d .undef => putK s o.dst (.d .undef) fun s' => srunK E fid R ops k n lits l s' h
        | _ => SWL E fid R ops k lits suf s h

theorem srunK_sound {E : Env} (hE : E.OK) {fid : FuncId} {R : Post} {ops : Array Oper} {k : List AItem} : ∀ (n : Nat) (lits : List Nat) (suf : List Oper) (s : List AV) (h : List Box),
    srunK E fid R ops k n lits suf s h → SPlan E ops (fun s2 h2 => AWL E fid R [] k s2 h2) suf s h := by
  intro n
  induction n with
  | zero => intro lits suf s h H; exact SWL.to H
  | succ n ih =>
    intro lits suf s h H
    unfold srunK at H
    split at H
    · exact H
    rename_i o l
    rw [maskK_eq] at H
    have hso : ∀ (d : Nat) (x : AV), (maskS (keepOf ops o) 0 s)[d]? = some x → x ≠ .any → s[d]? = some x := fun d x hx hne => by
      rcases maskS_get _ 0 d s x hx with h | ⟨-, h⟩
      · exact absurd h hne
      · exact h
    have go : Wanted ops o (maskS (keepOf ops o) 0 s) true → (opK E.T E.G o.op (maskS (keepOf ops o) 0 s) h (plainK E o.op (maskS (keepOf ops o) 0 s) h (sideMK E o.op (maskS (keepOf ops o) 0 s) h (callK E.G (maskS (keepOf ops o) 0 s) o (SWL E fid R ops k lits (o :: l) s h) fun f avs => allDK avs (callB1K E f avs h (SWL E fid R ops k lits (o :: l) s h) fun v h' => putK s o.dst v fun s' => SWL E fid R ops k lits l s' h') fun ds => callP1 E f ds fun v => putK s o.dst (.d v) fun s' => SWL E fid R ops k lits l s' h)
            fun v h' => putK s o.dst v fun s' => SWL E fid R ops k lits l s' h')
            fun v h' => putK s o.dst v fun s' => srunK E fid R ops k n lits l s' h')
          fun v h' => putK s o.dst v fun s' => srunK E fid R ops k n lits l s' h') → SPlan E ops (fun s2 h2 => AWL E fid R [] k s2 h2) (o :: l) s h := by
      intro hw H
      by_cases hA : ∃ t, o.op = .alloc t
      · obtain ⟨t, e⟩ := hA
        simp only [e, opK, plainK, plainSK, chgK, sideMK, sideK, appK, stillK, callK] at H
        rcases getK_or H with H | ⟨i, hi, H⟩
        · exact SWL.to H
        split at H
        · rename_i q1 q2
          rw [mapK_eq, snocK_eq, putK_eq, Nat.zero_add] at H
          have hz := Nat.eq_of_beq_eq_true q1
          have hp : 0 < i.size := blt_lt q2
          exact ⟨_, _, SFact.of hw (by rw [e]; exact ok_alloc hE hi hz hp), fun t' e' _ => by rw [e] at e'; cases e'; exact ⟨rfl, i, hi, hz, hp, rfl⟩, ih _ _ _ _ H⟩
        · exact SWL.to H
      have noA : ∀ (h : List Box) (v : AV) (h' : List Box), AFact E o h v h' := fun h v h' t e => absurd ⟨t, e⟩ hA
      rcases opK_sound hE H with H | ⟨v, h', H, ho⟩
      · rcases plainK_sound hE H with H | ⟨v, h', H, ho⟩
        case inr =>
          rw [putK_eq] at H
          exact ⟨v, h', SFact.of hw ho, noA _ _ _, ih _ _ _ _ H⟩
        rcases sideMK_sound hE H with H | ⟨v, h', H, ho⟩
        · rcases callK_sound H with H | ⟨fx, args, ts, f, a1, av, a2, hop, hv, hav, H⟩
          · exact SWL.to H
          rcases allDK_cases (a1 ++ av ++ a2) (callB1K E f (a1 ++ av ++ a2) h (SWL E fid R ops k lits (o :: l) s h) fun v h' => putK s o.dst v fun s' => SWL E fid R ops k lits l s' h') (fun ds => callP1 E f ds fun v => putK s o.dst (.d v) fun s' => SWL E fid R ops k lits l s' h) with ⟨ds, e1, e2⟩ | e2
          · rw [e2] at H
            unfold callP1 at H
            obtain ⟨r, hc, hk⟩ := H
            simp only [putK_eq] at hk
            exact ⟨_, _, SFact.call hw hop hv hav e1 hc, noA _ _ _, SWL.to hk⟩
          · rw [e2] at H
            rcases callB1K_sound H with H | ⟨sel, r, hp, hc, hn, hlt, hk⟩
            · exact SWL.to H
            rw [putK_eq] at hk
            exact ⟨_, _, SFact.acall hw hop hv hav hc hn hlt, noA _ _ _, SWL.to hk⟩
        · rw [putK_eq] at H
          exact ⟨v, h', SFact.of hw ho, noA _ _ _, SWL.to H⟩
      · rw [putK_eq] at H
        exact ⟨v, h', SFact.of hw ho, noA _ _ _, ih _ _ _ _ H⟩
    dsimp only at H
    unfold guardK at H
    split at H
    · rename_i hg
      exact go (wanted_none hg) H
    · rename_i j b hg
      rcases getK_or H with H | ⟨oj, hoj, H⟩
      · exact SWL.to H
      split at H
      · rename_i d hd
        rcases getK_or H with H | ⟨x, hx, H⟩
        · exact SWL.to H
        split at H
        · rename_i t
          have hxs := hso d _ hx (by simp)
          split at H
          · refine caseB_elim H (fun e H2 => ?_) (fun e H2 => ?_)
            · subst e
              rw [setK_eq, set_same hxs] at H2
              exact SWL.to H2
            · subst e
              rw [setK_eq, set_same hxs] at H2
              exact SWL.to H2
          · have hw := wanted_lit hg hoj hd hx
            split at H
            · rename_i q
              have : (t == b) = true := by cases t <;> cases b <;> first | rfl | cases q
              rw [this] at hw
              exact go hw H
            · rename_i q
              have : (t == b) = false := by cases t <;> cases b <;> first | rfl | cases q
              rw [this] at hw
              rw [putK_eq] at H
              exact ⟨_, _, SFact.skip hw, fun _ _ e => (by rw [hg] at e; cases e), ih _ _ _ _ H⟩
        · rw [putK_eq] at H
          exact ⟨_, _, SFact.skip (wanted_undef hg hoj hd hx), fun _ _ e => (by rw [hg] at e; cases e), ih _ _ _ _ H⟩
        · exact SWL.to H
      · exact SWL.to H

section
variable {E : Env} {fid : FuncId} {R : Post} {ops : Array Oper} {k : List AItem} {lits : List Nat} {pre suf : List Oper} {s : List AV} {h : List Box}

theorem DWL.run (hE : E.OK) (n : Nat) (H : drunK E fid R ops k n lits pre suf s h) : DWL E fid R ops k lits pre suf s h := by
  unfold DWL; exact drunK_sound hE n lits pre suf s h H
theorem SWL.run (hE : E.OK) (n : Nat) (H : srunK E fid R ops k n lits suf s h) : SWL E fid R ops k lits suf s h := by
  unfold SWL; exact srunK_sound hE n lits suf s h H

/-- A region that draws its order: the first m operations in any order, the others in order. -/
theorem AWL.draw (hE : E.OK) (hm : E.P.follows .mixedOrders = true) (m n : Nat) {id : Nat} (hchk : (chk ops m && Nat.ble m ops.size) = true) (H : takeK m ops.toList fun pre => dropK m ops.toList fun suf => drunK E fid R ops k n [] pre suf s h) : AWL E fid R lits (.code (.region id ops true) :: k) s h := by
  rw [takeK_eq, dropK_eq] at H
  rw [Bool.and_eq_true] at hchk
  refine .of (AW.draw (m := m) hm hchk.1 (Nat.le_of_ble_eq_true hchk.2) ?_)
  have conv : ∀ {l : List Oper} {s : List AV} {h : List Box}, SPlan E ops (fun s2 h2 => AWL E fid R [] k s2 h2) l s h → SPlan E ops (fun s2 h2 => AW E fid ⟨fid, k, s2⟩ [] h2 R) l s h := by
    intro l
    induction l with
    | nil => intro s h H; exact AWL.to H
    | cons o l ih => intro s h H; obtain ⟨v, h', h1, h1', h2⟩ := H; exact ⟨v, h', h1, h1', ih h2⟩
  have conv2 : ∀ {l : List Oper} {s : List AV}, DPlan E ops h (fun s' => SPlan E ops (fun s2 h2 => AWL E fid R [] k s2 h2) (ops.toList.drop m) s' h) l s → DPlan E ops h (fun s' => SPlan E ops (fun s2 h2 => AW E fid ⟨fid, k, s2⟩ [] h2 R) (ops.toList.drop m) s' h) l s := by
    intro l
    induction l with
    | nil => intro s H; exact conv H
    | cons o l ih => intro s H; obtain ⟨v, h1, h1', h2⟩ := H; exact ⟨v, h1, h1', ih h2⟩
  exact conv2 (drunK_sound hE n [] _ _ s h H)

end
end Go.Eng
