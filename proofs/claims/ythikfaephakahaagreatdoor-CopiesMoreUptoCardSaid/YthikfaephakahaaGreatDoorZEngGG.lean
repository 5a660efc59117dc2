/- The engine, part GG: the greater of two numbers; rows in another order. No conditions. -/
import Derived.Test.YthikfaephakahaaGreatDoorZN1
import Derived.Test.YthikfaephakahaaGreatDoorZEngFF
set_option linter.unusedVariables false
set_option linter.unusedSimpArgs false
namespace Go.Eng
open Go Go.RowKit
section
variable {E:Env} {fid:FuncId} {R:Post} {s:List AV} {h:List Box} {ops:Array Oper} {o:Oper} {l:List Oper} {k:List AItem}
theorem AWL.maxK {lits:List Nat} {x y:Operand} {ts:Array TypeId} {a b:Int} (hg:o.guard=none) (hop:o.op = .call { callee := .builtin .max,args := #[x,y],argTypes:=ts }) (hx:EvOK E.G s x (.d (.int .i64 a))) (hy:EvOK E.G s y (.d (.int .i64 b)))
  (H:AWL E fid R lits (.reg ops l::k) (putS s o.dst (.d (.int .i64 (max a b)))) h):AWL E fid R lits (.reg ops (o::l)::k) s h:=by
 refine .of (.op (wanted_none hg) ?_ H.to);rw [hop];refine .quiet fun o c ac e1 e2 h3 h4=>⟨.int .i64 (max a b),?_,.d _ _ (.int _ _)⟩;have q1:=vr_int (hx c ac h3 h4);have q2:=vr_int (hy c ac h3 h4);have q3:(if a<b then b else a)=max a b:=by
  rcases Int.lt_or_le a b with q | q
  ·rw [if_pos q,Int.max_eq_right (Int.le_of_lt q)]
  ·rw [if_neg (Int.not_lt.2 q),Int.max_eq_left q]
 simp only [execOp,e1,resolve,invoke,builtin,Builtin.max_,Builtin.max2,List.map_toArray,List.map_cons,List.map_nil,q1,q2,List.foldlM_cons,List.foldlM_nil,Sem.run_bind,Sem.run_pure,Result.andThen_ok,pure_bind,bind_pure,q3]
theorem DWL.minK {lits:List Nat} {suf:List Oper} {x y:Operand} {ts:Array TypeId} {a b:Int} (hg:o.guard=none) (hop:o.op = .call { callee := .builtin .min,args := #[x,y],argTypes:=ts }) (hx:EvOK E.G (maskS (keepOf ops o) 0 s) x (.d (.int .i64 a))) (hy:EvOK E.G (maskS (keepOf ops o) 0 s) y (.d (.int .i64 b)))
  (H:DWL E fid R ops k lits l suf (putS s o.dst (.d (.int .i64 (min a b)))) h):DWL E fid R ops k lits (o::l) suf s h:=by
 have H:=H.to;unfold DWL;refine ⟨_,OpFact.of (wanted_none hg) ?_,fun e=>?_,H⟩
 ·rw [hop];refine .quiet fun o c ac e1 e2 h3 h4=>⟨.int .i64 (min a b),?_,.d _ _ (.int _ _)⟩;have q1:=vr_int (hx c ac h3 h4);have q2:=vr_int (hy c ac h3 h4);have q3:(if b<a then b else a)=min a b:=by
   rcases Int.lt_or_le b a with q | q
   ·rw [if_pos q,Int.min_eq_right (Int.le_of_lt q)]
   ·rw [if_neg (Int.not_lt.2 q),Int.min_eq_left q]
  simp only [execOp,e1,resolve,invoke,builtin,Builtin.min_,Builtin.min2,List.map_toArray,List.map_cons,List.map_nil,q1,q2,List.foldlM_cons,List.foldlM_nil,Sem.run_bind,Sem.run_pure,Result.andThen_ok,pure_bind,bind_pure,q3]
 ·obtain ⟨dst,op,type,pos,after,guard⟩:=o;simp only at hop;subst hop;cases guard <;> cases e
theorem DWL.maxK {lits:List Nat} {suf:List Oper} {x y:Operand} {ts:Array TypeId} {a b:Int} (hg:o.guard=none) (hop:o.op = .call { callee := .builtin .max,args := #[x,y],argTypes:=ts }) (hx:EvOK E.G (maskS (keepOf ops o) 0 s) x (.d (.int .i64 a))) (hy:EvOK E.G (maskS (keepOf ops o) 0 s) y (.d (.int .i64 b)))
  (H:DWL E fid R ops k lits l suf (putS s o.dst (.d (.int .i64 (max a b)))) h):DWL E fid R ops k lits (o::l) suf s h:=by
 have H:=H.to;unfold DWL;refine ⟨_,OpFact.of (wanted_none hg) ?_,fun e=>?_,H⟩
 ·rw [hop];refine .quiet fun o c ac e1 e2 h3 h4=>⟨.int .i64 (max a b),?_,.d _ _ (.int _ _)⟩;have q1:=vr_int (hx c ac h3 h4);have q2:=vr_int (hy c ac h3 h4);have q3:(if a<b then b else a)=max a b:=by
   rcases Int.lt_or_le a b with q | q
   ·rw [if_pos q,Int.max_eq_right (Int.le_of_lt q)]
   ·rw [if_neg (Int.not_lt.2 q),Int.max_eq_left q]
  simp only [execOp,e1,resolve,invoke,builtin,Builtin.max_,Builtin.max2,List.map_toArray,List.map_cons,List.map_nil,q1,q2,List.foldlM_cons,List.foldlM_nil,Sem.run_bind,Sem.run_pure,Result.andThen_ok,pure_bind,bind_pure,q3]
 ·obtain ⟨dst,op,type,pos,after,guard⟩:=o;simp only at hop;subst hop;cases guard <;> cases e
end
end Go.Eng
namespace Go.Eng
open Go Go.RowKit
theorem AWL.permRows {E:Env} {fid:FuncId} {R:Post} {td:List AItem} {s:List AV} {h:List Box} {lits:List Nat} {rows:List Ghost} (hp:R.rows.Perm rows) (H:AWL E fid ⟨R.n,R.Q,rows,R.fx⟩ lits td s h):AWL E fid R lits td s h:=by
 replace H:=H.to;refine .of ?_;unfold AW at H ⊢;intro c0 c t ts h0 h1 h2 h3 hr hrow h4 h5 cs;refine H c0 c t ts h0 h1 h2 h3 hr ⟨⟨fun g hg=>hrow.all.each g ?_,?_⟩,fun g hg=>hrow.flat g (hp.mem_iff.2 hg)⟩ h4 h5 cs
 ·exact ((hp.append_right R.fx.loops).mem_iff).2 hg
 ·exact (((hp.append_right R.fx.loops).flatMap_right Ghost.blks).nodup_iff).1 hrow.all.nodup
theorem ev_at {G:List (Nat × DV)} {s:List AV} {i:Nat} {v:AV} (h:s[i]? = some v):EvOK G s (.tmp i) v:=fun c a _ hs=>by
 have hl:i<a.tmps.size:=by rw [← hs.1]; exact lt_of_getElem? h
 have:a.eval (.tmp i)=a.tmps[i]:=by simp [Act.eval,hl]
 rw [this];exact hs.2 i v _ h (by simp [hl])
end Go.Eng
