/- The engine, part B: in a region that draws its order, a call with boxes that leaves them as they are. No conditions. -/
import Derived.Test.YthikfaephakahaaGreatDoorZN1
set_option linter.unusedVariables false
set_option linter.unusedSimpArgs false
namespace Go.Eng
open Go Go.RowKit
section
variable {E:Env} {fid:FuncId} {R:Post} {s:List AV} {h:List Box} {lits:List Nat} {ops:Array Oper} {o:Oper} {l suf:List Oper} {k:List AItem}
theorem OpFact.acall {fx:Operand} {args:Array Operand} {ts:Array TypeId} {f:FuncId} {a1 a2 av:List AV} {sel:List Nat} {r:AV} {h1:List Box} (hw:Wanted ops o (maskS (keepOf ops o) 0 s) true) (ho:o.op = .call { callee := .value fx,args:=args,argTypes:=ts })
  (hf:EvOK E.G (maskS (keepOf ops o) 0 s) fx (.fn (.func f) a1 a2)) (ha:EvsOK E.G (maskS (keepOf ops o) 0 s) args.toList av) (hc:ACalls E f (unH sel h) ((a1++av++a2).map (unV sel h)) (fun a b=>a=r∧b=h1)) (hn:sel.Nodup) (hlt:∀ j∈sel,j<h.length) (hr:reH sel h h1=h) :
  OpFact E ops o s h (reV sel h r):=fun c a k1 h2 h3 h4 j hj K Q hK=>SFact.acall hw ho hf ha hc hn hlt c a k1 h2 h3 h4 j hj K Q fun c' u q1 q2 q3 q4=>hK c' u q1 (q2.trans hr) q3 q4
theorem DWL.acall {fx:Operand} {args:Array Operand} {ts:Array TypeId} {f:FuncId} {a1 a2 av:List AV} {sel:List Nat} {r:AV} {h1:List Box} (hc:ACalls E f (unH sel h) ((a1++av++a2).map (unV sel h)) (fun a b=>a=r∧b=h1)) (hg:o.guard=none) (ho:o.op = .call { callee := .value fx,args:=args,argTypes:=ts })
  (hf:EvOK E.G (maskS (keepOf ops o) 0 s) fx (.fn (.func f) a1 a2)) (ha:EvsOK E.G (maskS (keepOf ops o) 0 s) args.toList av) (hn:sel.Nodup) (hlt:∀ j∈sel,j<h.length) (hr:reH sel h h1=h)
  (H:DWL E fid R ops k lits l suf (putS s o.dst (reV sel h r)) h):DWL E fid R ops k lits (o::l) suf s h:=by
 have H:=H.to;unfold DWL;refine ⟨_,OpFact.acall (wanted_none hg) ho hf ha hc hn hlt hr,fun e=>?_,H⟩;obtain ⟨dst,op,type,pos,after,guard⟩:=o;simp only at ho;subst ho;cases guard <;> cases e
theorem HOk.unbar2 {G:List (Nat × DV)} {c:Cx} {bar:Nat→Prop} (ho:HOk G c) (hb:∀ b,bar b→c.bar b):HOk G ⟨c.own,c.heap,bar,c.w⟩∧(∀ x v,VR c x v→VR ⟨c.own,c.heap,bar,c.w⟩ x v):=by
 have hbad:∀ b,b<c.w.heap.size→¬ c.bad b→¬ (⟨c.own,c.heap,bar,c.w⟩:Cx).bad b∧(⟨c.own,c.heap,bar,c.w⟩:Cx).w.heap[b]? = c.w.heap[b]? := fun b _ hn=>⟨fun h=>hn (h.elim (fun h => .inl (hb b h)) .inr),rfl⟩;have hvr:∀ x v,VR c x v→VR ⟨c.own,c.heap,bar,c.w⟩ x v:=fun x v=>vr_gen hbad (fun _ _ hi=>boxStep_same hi rfl rfl);exact ⟨⟨fun b h=>ho.barlt b (hb b h),ho.ownlt,ho.inj,fun i b n hi h=>ho.sep i b n hi (hb b h),fun i bx hx=>(ho.box i bx hx).gen hvr (fun _ _ h=>h.mono hbad) rfl (fun _ _ _=>rfl),fun g e hg=>hvr _ _ (ho.glob g e hg)⟩,hvr⟩
end
end Go.Eng
