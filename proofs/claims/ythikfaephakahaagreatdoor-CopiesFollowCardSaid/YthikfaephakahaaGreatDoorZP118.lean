/- The law CopiesFollow: the walk. Conditions: what Go allows of the arguments. -/
import Derived.Test.YthikfaephakahaaGreatDoorZP116
set_option linter.unusedVariables false
set_option linter.unusedSimpArgs false
namespace Go.Proofs.YthikfaephakahaaGreatDoor.P
open Go Go.Eng
set_option maxRecDepth 100000
set_option maxHeartbeats 4000000
theorem copiesFollow_p (l:List Version) (pr:Int) (polls:List Poll) (fin:Int) (hg:∀ v∈l,v.Good):PCalls E 5 [.sl (l.map Version.enc),.int .i64 pr,.sl (polls.map Poll.enc),.int .i64 fin] (· = .bool true):=by
 have cu:=usable15_p l pr polls fin hg;refine eP Tryz.func5 ?_
 with_reducible refine callP_eq (head15_p) ?_
 refine gO Tryz.func5 ?_
 with_reducible refine callP_eq (cu) ?_
 refine gO Tryz.func5 ?_;cases hu:useC l pr polls fin
 ·repeat' (first | with_reducible refine cY ?_ | with_reducible refine cN ?_ | with_reducible refine caseB_split (fun _=>?_) (fun _=>?_) | refine gA Tryz.func5 ?_ | refine gB ?_ | refine gC ?_ | with_reducible rfl)
 have U:=useC_of hg hu;have hfol:FolAt l fin (spreadC l pr polls fin):=fol_spread U.ver.nodup U.ver.times U.polls 64;have hsome:spreadC l pr polls fin≠[]:=spread_some U.ver.sorted U.ver.pos U.host0 U.host1;have hlen:=U.len;have hall:∀ c∈spreadC l pr polls fin,0≤c.frm∧c.frm<c.upto∧c.upto≤fin∧0≤c.host∧c.host<64∧0≤verI l c.zone:=fun c hc=>by
  obtain ⟨g1,g2,s,hs,e⟩:=spread_mem.1 hc;obtain ⟨r1,r2,r3,r4,r5⟩:=str_range (times_in U.ver.times U.polls) hs;rw [e];refine ⟨r1,r2,r3,g1,by omega,?_⟩;show 0≤verI l (zoneA l s.ver);rw [verI_zone U.ver.nodup r4 r5];exact r4
 have cl:=U.lagc U.host0 U.host1;have hl0:lagL l (strC l (timesL l pr polls pr) fin) fin=0:=by
  rw [timesL,if_pos rfl];exact lag_first U.ver.sorted U.ver.pos (by have:=U.fin1; omega) U.ver.times
 rw [hl0] at cl;have cs:=U.spread;have hf:=U.fits;have hfin:=U.fin2;generalize spreadC l pr polls fin=C at *;refine caseB_false ?_;refine gO Tryz.func5 ?_;refine callP_eq (cs) ?_;refine gO Tryz.func5 ?_;refine caseB_no (by decide) ?_;refine gO Tryz.func5 ?_;refine caseB_no (by simpa using hsome) ?_;refine gO Tryz.func5 ?_;refine AWL.loop (κ:=Nat) ([8,12,13]++rg 41 97) (fun k=>[(41,.d (.int .i64 k))]) (fun k=>[]) (fun k=>k≤C.length) (fun k=>C.length - k) 0 (Nat.zero_le _) ?_ ?_
 ·(conv=>whnf);repeat (first | exact trivial | (refine sI ?_; conv=>whnf))
 intro k hk IH;refine AWL.head E_ok Tryz.func5 2000 ?_;(conv=>whnf);refine caseB_split (fun h5=>?_) (fun h5=>?_)
 ·have hlt:k<C.length:=by simpa using h5
  obtain ⟨x,hx⟩:=some_of_lt hlt;obtain ⟨a1,a2,a3,a4,a5,a6⟩:=hall x (List.mem_of_getElem? hx);obtain ⟨f1,f2⟩:=hfol k x hx;have hw1:IntKind.i64.wrap ((k:Int)+1)=((k+1:Nat):Int):=by rw [wrap64 (by omega) (by omega)]; omega
  have c1:=rhost_p x.host;rw [show hostN x.host=true by simp [hostN,a4,a5]] at c1;have c2:=rversion_p l x.zone hf;refine gO Tryz.func5 ?_;refine elemP_at (e:=x.enc) (at_map hx) rfl ?_;refine gO Tryz.func5 ?_;refine caseB_no (decide_eq_false (by omega)) ?_;refine gO Tryz.func5 ?_;refine caseB_no (decide_eq_false (by omega)) ?_;refine gO Tryz.func5 ?_;refine caseB_no (decide_eq_false (by omega)) ?_;refine gO Tryz.func5 ?_;refine callP_eq (c1) ?_;refine gO Tryz.func5 ?_;refine caseB_no (by decide) ?_;refine gO Tryz.func5 ?_;refine callP_eq (c2) ?_;refine gO Tryz.func5 ?_;refine caseB_no (decide_eq_false (by omega)) ?_;refine gO Tryz.func5 ?_;rcases Nat.lt_or_ge (k+1) C.length with hlt2 | hge2
  ·obtain ⟨y,hy⟩:=some_of_lt hlt2;obtain ⟨g1,g2⟩:=f2 y hy;have A1:At1 (C.map Copy.enc) (IntKind.i64.wrap ((k:Int)+1)) y.enc:=at_next hy (by omega);have c3:=rversion_p l y.zone hf;have hl1:((C.map Copy.enc).length:Int)=C.length:=by simp
   refine AWL.draw E_ok E_mixed 16 2000 (by kernel_rfl) ?_;(conv=>whnf);refine caseB_no (by rw [hw1,hl1]; simp; omega) ?_;refine gD ?_;refine elemP_at (e:=y.enc) A1 rfl ?_;refine gD ?_;refine gS ?_;refine gO Tryz.func5 ?_;by_cases hne:y.host=x.host
   ·obtain ⟨e1,e2⟩:=g2 hne;refine caseB_no (by simpa using hne) ?_;refine gO Tryz.func5 ?_;refine AWL.draw E_ok E_mixed 24 2000 (by kernel_rfl) ?_;(conv=>whnf);refine elemP_at (e:=y.enc) A1 rfl ?_;refine gD ?_;refine caseB_no (by simpa using e1) ?_;refine gD ?_;refine elemP_at (e:=y.enc) A1 rfl ?_;refine gD ?_;refine callP1_eq (c3) ?_;refine gD ?_;refine callP1_eq (c2) ?_;refine gD ?_;refine gS ?_;refine gO Tryz.func5 ?_;refine caseB_no (decide_eq_false (by omega)) ?_;refine gO Tryz.func5 ?_;refine AWL.back (IH (k+1) (by omega) (by omega)) ?_;(conv=>whnf);repeat (first | exact trivial | (refine sI ?_; conv=>whnf))
   ·obtain ⟨e1,e2⟩:=g1 hne;refine caseB_yes (by simpa using hne) ?_;refine gO Tryz.func5 ?_;refine AWL.draw E_ok E_mixed 22 2000 (by kernel_rfl) ?_;(conv=>whnf);refine caseB_no (by simpa using e1) ?_;refine gD ?_;refine caseB_yes (decide_eq_true (by rw [hw1,hl1]; omega)) ?_;refine gD ?_;refine elemP_at (e:=y.enc) A1 rfl ?_;refine gD ?_;refine gS ?_;refine gO Tryz.func5 ?_;refine caseB_no (decide_eq_false (by omega)) ?_;refine gO Tryz.func5 ?_;refine AWL.back (IH (k+1) (by omega) (by omega)) ?_;(conv=>whnf);repeat (first | exact trivial | (refine sI ?_; conv=>whnf))
  ·have f1:=f1 (by omega);have hl1:((C.map Copy.enc).length:Int)=C.length:=by simp
   refine AWL.draw E_ok E_mixed 16 2000 (by kernel_rfl) ?_;(conv=>whnf);refine caseB_yes (by rw [hw1,hl1]; simp; omega) ?_;refine gD ?_;refine gS ?_;refine gO Tryz.func5 ?_;refine caseB_true ?_;refine gO Tryz.func5 ?_;refine AWL.draw E_ok E_mixed 22 2000 (by kernel_rfl) ?_;(conv=>whnf);refine caseB_no (by simpa using f1) ?_;refine gD ?_;refine caseB_no (decide_eq_false (by rw [hw1,hl1]; omega)) ?_;refine gD ?_;refine gS ?_;refine gO Tryz.func5 ?_;refine caseB_false ?_;refine gO Tryz.func5 ?_;refine AWL.back (IH (k+1) (by omega) (by omega)) ?_;(conv=>whnf);repeat (first | exact trivial | (refine sI ?_; conv=>whnf))
 ·clear IH;refine gO Tryz.func5 ?_;refine callP_eq (cl) ?_;refine gO Tryz.func5 ?_;refine caseB_yes (by decide) ?_;refine gO Tryz.func5 ?_;refine caseB_yes (by decide) ?_;refine gO Tryz.func5 ?_;simp
theorem copiesFollow_g (l:List Version) (pr:Int) (polls:List Poll) (fin:Int) (g0:l.length≤maxLen∧∀ a∈l,Version.Good a) (g1:I64 pr) (g2:polls.length≤maxLen∧∀ a∈polls,Poll.Good a) (g3:I64 fin):PCalls E 5 [.sl (l.map Version.enc),.int .i64 pr,.sl (polls.map Poll.enc),.int .i64 fin] (· = .bool true):=copiesFollow_p l pr polls fin g0.2
end Go.Proofs.YthikfaephakahaaGreatDoor.P
