/- The law CopiesNothing: the walk. Conditions: what Go allows of the arguments. -/
import Derived.Test.YthikfaephakahaaGreatDoorZP116
set_option linter.unusedVariables false
set_option linter.unusedSimpArgs false
namespace Go.Proofs.YthikfaephakahaaGreatDoor.P
open Go Go.Eng
set_option maxRecDepth 100000
set_option maxHeartbeats 4000000
theorem copiesNothing_p (l:List Version) (pr:Int) (polls:List Poll) (fin h:Int) (hg:∀ v∈l,v.Good):PCalls E 8 [.sl (l.map Version.enc),.int .i64 pr,.sl (polls.map Poll.enc),.int .i64 fin,.int .i64 h] (· = .bool true):=by
 have cu:=usable15_p l pr polls fin hg;refine eP Tryz.func8 ?_
 with_reducible refine callP_eq (head15_p) ?_
 refine gO Tryz.func8 ?_
 with_reducible refine callP_eq (cu) ?_
 refine gO Tryz.func8 ?_;cases hu:useC l pr polls fin
 ·repeat' (first | with_reducible refine cY ?_ | with_reducible refine cN ?_ | with_reducible refine caseB_split (fun _=>?_) (fun _=>?_) | refine gA Tryz.func8 ?_ | refine gB ?_ | refine gC ?_ | with_reducible rfl)
 have U:=useC_of hg hu;refine caseB_false ?_;refine gO Tryz.func8 ?_
 with_reducible refine callP_eq (rhost_p h) ?_
 refine gO Tryz.func8 ?_;cases hh:hostN h
 ·repeat' (first | with_reducible refine cY ?_ | with_reducible refine cN ?_ | with_reducible refine caseB_split (fun _=>?_) (fun _=>?_) | refine gA Tryz.func8 ?_ | refine gB ?_ | refine gC ?_ | with_reducible rfl)
 have hh2:0≤h∧h<64:=by simpa [hostN] using hh
 refine caseB_false ?_;refine gO Tryz.func8 ?_;refine caseB_split (fun q1=>?_) (fun q1=>?_)
 ·repeat' (first | with_reducible refine cY ?_ | with_reducible refine cN ?_ | with_reducible refine caseB_split (fun _=>?_) (fun _=>?_) | refine gA Tryz.func8 ?_ | refine gB ?_ | refine gC ?_ | with_reducible rfl)
 have hne:h≠pr:=by simpa using q1
 have hps:=U.some;refine gO Tryz.func8 ?_;refine AWL.adopt 12 (37,3) (by decide) rfl ?_;(conv=>whnf);refine AWL.loop (κ:=Nat) ([12,14]++rg 43 13) (fun k=>[(43,.d (.int .i64 k)),(12,.own 0 1)]) (fun k=>[(0,.arr 1 (37,3) (((polls.take k).filter (fun p => !decide (p.host=h))).map Poll.enc))]) (fun k=>k≤polls.length) (fun k=>polls.length - k) 0 (Nat.zero_le _) ?_ ?_
 ·(conv=>whnf);repeat (first | exact trivial | (refine sI ?_; conv=>whnf))
  refine And.intro rfl ?_;(conv=>whnf);repeat (first | exact trivial | (refine sI ?_; conv=>whnf))
 intro k hk IH;refine AWL.head E_ok Tryz.func8 2000 ?_;(conv=>whnf);refine caseB_split (fun h5=>?_) (fun h5=>?_)
 ·have hlt:k<polls.length:=by simpa using h5
  obtain ⟨p,hp⟩:=some_of_lt hlt;have hnx:=filtC_next (P:=fun p:Poll => !decide (p.host=h)) hp;have hln:=filtC_len (P:=fun p:Poll => !decide (p.host=h)) (l:=polls) (k:=k);refine gO Tryz.func8 ?_;refine elemP_at (e:=p.enc) (at_map hp) rfl ?_;refine gO Tryz.func8 ?_;by_cases h6:p.host=h
  ·refine caseB_no (by simpa using h6) ?_;refine gO Tryz.func8 ?_;refine AWL.back (IH (k+1) (by omega) (by omega)) ?_;rw [hnx,if_neg (by simpa using h6),List.append_nil];(conv=>whnf);repeat (first | exact trivial | (refine sI ?_; conv=>whnf))
  ·refine caseB_yes (by simpa using h6) ?_;refine gO Tryz.func8 ?_;refine need_intro ⟨by simp only [List.length_map,List.length_append,List.length_cons,List.length_nil]; omega,by simp [DV.cells]⟩ ?_;refine gO Tryz.func8 ?_;refine AWL.back (IH (k+1) (by omega) (by omega)) ?_;rw [hnx,if_pos (by simpa using h6)];(conv=>whnf);repeat (first | exact trivial | (refine sI ?_; conv=>whnf))
   refine And.intro (by simp) ?_;(conv=>whnf);repeat (first | exact trivial | (refine sI ?_; conv=>whnf))
 have hge:polls.length≤k:=by simpa using h5
 rw [List.take_of_length_le hge];clear IH;have V:=U.sub (some:=polls.filter fun p => !decide (p.host=h)) (fun p hp=>(List.mem_filter.1 hp).1) (Nat.le_trans (List.length_filter_le ..) hps);have hT:=times_none (l:=l) (pr:=pr) (polls:=polls) hne;have c3:=V.lagc hh2.1 hh2.2;rw [hT,strC_nil] at c3;have hlag:=lag_none (l:=l) (fin:=fin) U.ver.pos (show 0<fin by have:=U.fin1; omega);obtain ⟨v0,hv0⟩:=some_of_lt (l:=l) (k:=0) U.ver.pos;have ht0:=U.ver.times v0 (List.mem_of_getElem? hv0);have e0:timeA l 0=v0.time:=by simp [timeA,hv0]
 rw [e0,Int.max_eq_right (by omega)] at hlag;rw [hlag] at c3;have c4:=PCalls.nilAt 1 rfl (lag15_p l [] h fin U.fits (by simp));have e4:lagV l [] h fin=(fin - v0.time,0):=by
  have e1:endB fin=true:=by simp [endB,U.fin1,U.fin2]
  rw [lagV,e1,U.right,hh,mineS];show (if true=true then lagM l (List.mergeSort [] _) fin else (0,1))=_;rw [if_pos rfl,List.mergeSort_nil,lagM];show (lagL l [] fin,(0:Int))=_;rw [hlag]
 rw [e4] at c4;have hno:∀ c∈spreadC l pr (polls.filter fun p => !decide (p.host=h)) fin,c.host≠h:=fun c hc e=>by
  obtain ⟨_,_,s,hs,_⟩:=spread_mem.1 hc;rw [e,hT,strC_nil] at hs;simp at hs
 have hsl:=V.len;have cV:=V.spread;generalize spreadC l pr (polls.filter fun p => !decide (p.host=h)) fin=C at *;generalize (polls.filter fun p => !decide (p.host=h))=Q at *;(conv=>whnf);refine AWL.freeze 0 ?_;(conv=>whnf);refine gO Tryz.func8 ?_;refine callP_eq (cV) ?_;refine gO Tryz.func8 ?_;refine AWL.loop (κ:=Nat) ([10,18]++rg 66 9) (fun k=>[(66,.d (.int .i64 k))]) (fun k=>[]) (fun k=>k≤C.length) (fun k=>C.length - k) 0 (Nat.zero_le _) ?_ ?_
 ·(conv=>whnf);repeat (first | exact trivial | (refine sI ?_; conv=>whnf))
 intro k hk IH;refine AWL.head E_ok Tryz.func8 2000 ?_;(conv=>whnf);refine caseB_split (fun h5=>?_) (fun h5=>?_)
 ·have hlt:k<C.length:=by simpa using h5
  obtain ⟨x,hx⟩:=some_of_lt hlt;have:=hno x (List.mem_of_getElem? hx);refine gO Tryz.func8 ?_;refine elemP_at (e:=x.enc) (at_map hx) rfl ?_;refine gO Tryz.func8 ?_;refine caseB_no (by simpa using this) ?_;refine gO Tryz.func8 ?_;refine AWL.back (IH (k+1) (by omega) (by omega)) ?_;(conv=>whnf);repeat (first | exact trivial | (refine sI ?_; conv=>whnf))
 ·clear IH;refine gO Tryz.func8 ?_;refine callP_eq (c3) ?_;refine gO Tryz.func8 ?_;refine callP_eq (c4) ?_;refine gO Tryz.func8 ?_;refine caseB_yes (by decide) ?_;refine gO Tryz.func8 ?_;refine caseB_yes (by decide) ?_;refine gO Tryz.func8 ?_;refine caseB_yes (by decide) ?_;refine gO Tryz.func8 ?_;refine caseB_yes rfl ?_;refine gO Tryz.func8 ?_;refine elemP_at (e:=v0.enc) (at_zero hv0) rfl ?_;refine gO Tryz.func8 ?_;have hw:IntKind.i64.wrap (fin - v0.time)=fin - v0.time:=wrap64 (by have:=U.fin2; omega) (by have:=U.fin2; omega);refine caseB_yes (by rw [hw]; simp) ?_;refine gO Tryz.func8 ?_;simp
theorem copiesNothing_g (l:List Version) (pr:Int) (polls:List Poll) (fin h:Int) (g0:l.length≤maxLen∧∀ a∈l,Version.Good a) (g1:I64 pr) (g2:polls.length≤maxLen∧∀ a∈polls,Poll.Good a) (g3:I64 fin) (g4:I64 h):PCalls E 8 [.sl (l.map Version.enc),.int .i64 pr,.sl (polls.map Poll.enc),.int .i64 fin,.int .i64 h] (· = .bool true):=copiesNothing_p l pr polls fin h g0.2
end Go.Proofs.YthikfaephakahaaGreatDoor.P
