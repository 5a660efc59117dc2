/- The law OperatorWaits: the walk. Conditions: what Go allows of the arguments. -/
import Derived.Test.YtajnanldmhpeaaaGreatDoorZP71
import Derived.Test.YtajnanldmhpeaaaGreatDoorZEngEE
set_option linter.unusedVariables false
set_option linter.unusedSimpArgs false
namespace Go.Proofs.YtajnanldmhpeaaaGreatDoor.P
open Go Go.Eng
set_option maxRecDepth 100000
set_option maxHeartbeats 4000000
theorem waits_p (h:History) (p:Progress) (r:Report) (hg:h.Good) (hpg:p.Good):PCalls E 4 [h.enc,p.enc,r.enc] (· = .bool true):=by
 refine eP Tryz.func4 ?_
 with_reducible refine callP_eq (head42_p) ?_
 refine gO Tryz.func4 ?_
 with_reducible refine callP_eq (usable_p h p hg hpg) ?_
 refine gO Tryz.func4 ?_;cases hu:usableB h p
 ·repeat' (first | with_reducible refine cY ?_ | with_reducible refine cN ?_ | with_reducible refine caseB_split (fun _=>?_) (fun _=>?_) | refine gA Tryz.func4 ?_ | refine gB ?_ | refine gC ?_ | with_reducible rfl)
 have U:=use_of hg hpg hu;have hk:=U.hk1;have hpl:=U.pl;have hpd:=U.pd;have c1:=take_p h p r U.hf (by omega) U.ps U.psh;have htl:=take_lens (h:=h) (r:=r) U.ppl U.pd;have hno:=fun e=>takeR_no (h:=h) (p:=p) (r:=r) e;have hok:=fun q e=>waits_law (h:=h) (p:=p) (q:=q) (r:=r) e;have hst:∀ q,takeR h p r=(q,0)→q.steps.map (·.stage)=p.steps.map (·.stage):=fun q e=>by
  obtain ⟨s,H,rfl,hb⟩:=takeR_ok e;exact off_stage
 generalize takeR h p r=X1 at *;refine caseB_false ?_;refine gO Tryz.func4 ?_;refine callP_eq (c1) ?_;refine gO Tryz.func4 ?_;refine caseB_split (fun h7=>?_) (fun h7=>?_)
 ·have e5:X1.2≠0:=by simpa using h7
  have e6:=hno e5;obtain ⟨x1,n1⟩:=X1;simp only at e6;subst e6;repeat' (first | with_reducible refine cY ?_ | with_reducible refine cN ?_ | with_reducible refine caseB_split (fun _=>?_) (fun _=>?_) | refine gA Tryz.func4 ?_ | refine gB ?_ | refine gC ?_ | with_reducible rfl)
  all_goals first | rfl | (exfalso; simp_all [zeroP]; done)
 have e5:X1.2=0:=by simpa using h7
 obtain ⟨q,n1⟩:=X1;simp only at e5 htl;subst e5;obtain ⟨w1,w2,w3,w4,w5,w6,w7,w8,w9⟩:=hok q rfl;have hst:=hst q rfl;have hqs:=fits_map hst U.ps;have c2:=rvalid42_p h q U.hf (by omega) U.hk2 hqs;rw [w1] at c2;have c3:=numbers_p (q.done.take p.done.length) p.done (by rw [w5]; omega);rw [decide_eq_true w5] at c3;clear hok hno c1;refine gO Tryz.func4 ?_;refine AWL.draw E_ok E_mixed 44 2000 (by kernel_rfl) ?_;(conv=>whnf);refine callP1_eq (c2) ?_;refine gD ?_;refine caseB_false ?_;refine gD ?_;refine caseB_no (by simp; omega) ?_;refine gD ?_;refine caseB_no (by simp; omega) ?_;refine gD ?_;have hw:IntKind.i64.wrap (((p.done.map (DV.int .i64)).length:Int)+1)=(p.done.length:Int)+1:=by rw [List.length_map,wrap64 (by omega) (by omega)]
 refine caseB_no (by rw [hw]; simp; omega) ?_;refine gD ?_;have hcells:∀ e∈(q,(0:Int)).fst.done.map (DV.int .i64),e.cells.length=1:=fun e h=>by obtain ⟨d,_,rfl⟩:=List.mem_map.1 h; rfl
 have hE:List.drop ((none:Option Int).getD 0).toNat (List.take ((some (((p.done.map (DV.int .i64)).length:Nat):Int)).getD ((((q,(0:Int)).fst.done.map (DV.int .i64)).length:Nat):Int)).toNat ((q,(0:Int)).fst.done.map (DV.int .i64)))=(q.done.take p.done.length).map (.int .i64):=by
  simp [List.map_take]
 refine need_intro ⟨by simp,by simp,by simpa using w3,hcells⟩ ?_;rw [hE];refine gD ?_;refine callP1_eq (c3) ?_;refine gD ?_;refine gS ?_;refine gO Tryz.func4 ?_;refine caseB_false ?_;refine gO Tryz.func4 ?_;clear c2 c3 hE hcells hw;have c4:=fun a b ha=>rsameStage_p a b ha;refine AWL.loop (κ:=Nat) ([6,11,12,13]++rg 92 67) (fun k=>[(92,.d (.int .i64 k))]) (fun _=>[]) (fun k=>k≤p.steps.length) (fun k=>p.steps.length - k) 0 (Nat.zero_le _) ?_ ?_
 ·(conv=>whnf);repeat (first | exact trivial | (refine sI ?_; conv=>whnf))
 intro k hk2 IH;refine AWL.head E_ok Tryz.func4 2000 ?_;(conv=>whnf);refine caseB_split (fun h8=>?_) (fun h8=>?_)
 ·have hlt:k<p.steps.length:=by simpa using h8
  obtain ⟨x,hx⟩:=some_of_lt hlt;obtain ⟨y,hy⟩:=some_of_lt (l:=q.steps) (k:=k) (by omega);obtain ⟨v1,v2,v3⟩:=w7 k x y hx hy;refine gO Tryz.func4 ?_;refine AWL.drawGB E_ok E_mixed 10 [0,1,2,3,4,5,6,7,8,9] 2000 (by kernel_rfl) ?_;(conv=>whnf);refine GWL.run E_ok 2000 rfl rfl ?_;(conv=>whnf);refine elemP_at (e:=x.enc) (at_map hx) rfl ?_;(conv=>whnf);refine GWL.run E_ok 2000 rfl rfl ?_;(conv=>whnf);refine elemP_at (e:=y.enc) (at_map hy) rfl ?_;(conv=>whnf);refine GWL.run E_ok 2000 rfl rfl ?_;(conv=>whnf);refine And.intro rfl ?_;(conv=>whnf);refine GWL.run E_ok 2000 rfl rfl ?_;(conv=>whnf);refine And.intro rfl ?_;(conv=>whnf);refine GWL.run E_ok 2000 rfl rfl ?_;(conv=>whnf);refine And.intro rfl ?_;(conv=>whnf);refine GWL.run E_ok 2000 rfl rfl ?_;(conv=>whnf);refine And.intro rfl ?_;(conv=>whnf);refine GWL.run E_ok 2000 rfl rfl ?_;(conv=>whnf);refine gO Tryz.func4 ?_;have hlen:=U.ppl.each x (List.mem_of_getElem? hx);have c4:=rsameStage_p x.stage y.stage hlen.1 hlen.2;rw [decide_eq_true v1] at c4;refine AWL.draw E_ok E_mixed 53 2000 (by kernel_rfl) ?_;(conv=>whnf);refine callP1_eq (c4) ?_;refine gD ?_;refine caseB_false ?_;refine gD ?_;refine caseB_no (by simp; omega) ?_;refine gD ?_;refine caseB_split (fun h9=>?_) (fun h9=>?_)
  ·have h10:k<q.done.length:=by simpa using h9
   have h11:=v3 h10;refine gD ?_;refine caseB_no (by simp [h11]) ?_;refine gD ?_;refine caseB_no (by simp; omega) ?_;refine gD ?_;refine gS ?_;refine gO Tryz.func4 ?_;refine caseB_false ?_;refine gO Tryz.func4 ?_;refine AWL.back (IH (k+1) (by omega) (by omega)) ?_;(conv=>whnf);repeat (first | exact trivial | (refine sI ?_; conv=>whnf))
  ·have h10:¬ k<q.done.length:=by simpa using h9
   refine gD ?_;refine caseB_false ?_;refine gD ?_;refine caseB_split (fun h12=>?_) (fun h12=>?_)
   ·have h13:q.done.length<k:=by simpa using h12
    obtain ⟨x1,hx1⟩:=some_of_lt (l:=p.steps) (k:=k - 1) (by omega);obtain ⟨y1,hy1⟩:=some_of_lt (l:=q.steps) (k:=k - 1) (by omega);have h14:=w8 k x y x1 y1 h13 hx hy hx1 hy1;have hk1w:IntKind.i64.wrap ((k:Int) - 1)=((k - 1:Nat):Int):=by rw [wrap64 (by omega) (by omega)]; omega
    refine gD ?_;rw [hk1w];refine elemP_at (e:=y1.enc) (at_map hy1) rfl ?_;refine gD ?_;rw [hk1w];refine elemP_at (e:=x1.enc) (at_map hx1) rfl ?_;refine gD ?_;refine gS ?_;refine gO Tryz.func4 ?_;refine caseB_no (by rw [h14]; simp) ?_;refine gO Tryz.func4 ?_;refine AWL.back (IH (k+1) (by omega) (by omega)) ?_;(conv=>whnf);repeat (first | exact trivial | (refine sI ?_; conv=>whnf))
   ·have h13:¬ q.done.length<k:=by simpa using h12
    refine gD ?_;refine gS ?_;refine gO Tryz.func4 ?_;refine caseB_false ?_;refine gO Tryz.func4 ?_;refine AWL.back (IH (k+1) (by omega) (by omega)) ?_;(conv=>whnf);repeat (first | exact trivial | (refine sI ?_; conv=>whnf))
 ·have hge:k=p.steps.length:=by simp at h8; omega
  clear IH;refine gO Tryz.func4 ?_;refine caseB_split (fun h9=>?_) (fun h9=>?_)
  ·have h10:p.done.length<q.done.length:=by simpa using h9
   refine gO Tryz.func4 ?_;refine caseB_split (fun h11=>?_) (fun h11=>?_)
   ·have h12:q.done.length<p.steps.length:=by simpa using h11
    refine gO Tryz.func4 ?_;have hlen9:((q,(0:Int)).fst.done.map (DV.int .i64)).length=q.done.length:=by simp
    obtain ⟨x,hx⟩:=some_of_lt (l:=p.steps) (k:=q.done.length) h12;obtain ⟨y,hy⟩:=some_of_lt (l:=q.steps) (k:=q.done.length) (by omega);obtain ⟨t,ht⟩:=some_of_lt (l:=q.done) (k:=q.done.length - 1) (by omega);obtain ⟨z,hz⟩:=some_of_lt (l:=p.steps) (k:=q.done.length - 1) (by omega);have h13:=w9 x y z t h10 hy ht hx hz;have hk1w:IntKind.i64.wrap (((q.done.map (DV.int .i64)).length:Int) - 1)=((q.done.length - 1:Nat):Int):=by rw [List.length_map,wrap64 (by omega) (by omega)]; omega
    refine AWL.draw E_ok E_mixed 30 2000 (by kernel_rfl) ?_;(conv=>whnf);have A1:At1 (q.steps.map Step.enc) (((q.done.map (DV.int .i64)).length:Nat):Int) y.enc:=by rw [List.length_map]; exact at_map hy
    have A2:At1 (q.done.map (DV.int .i64)) (IntKind.i64.wrap (((q.done.map (DV.int .i64)).length:Int) - 1)) (.int .i64 t):=by rw [hk1w]; exact at_map ht
    have A3:At1 (p.steps.map Step.enc) (((q.done.map (DV.int .i64)).length:Nat):Int) x.enc:=by rw [List.length_map]; exact at_map hx
    have A4:At1 (p.steps.map Step.enc) (IntKind.i64.wrap (((q.done.map (DV.int .i64)).length:Int) - 1)) z.enc:=by rw [hk1w]; exact at_map hz
    refine caseB_true ?_;refine gD ?_;refine elemP_at A1 rfl ?_;refine gD ?_;refine elemP_at A2 rfl ?_;refine gD ?_;refine elemP_at A3 rfl ?_;refine gD ?_;refine elemP_at A4 rfl ?_;refine gD ?_;refine gS ?_;refine gO Tryz.func4 ?_;rw [h13];simp
   ·refine gO Tryz.func4 ?_
    with_reducible rfl
  ·refine gO Tryz.func4 ?_;refine caseB_false ?_;refine gO Tryz.func4 ?_
   with_reducible rfl
theorem waits_g (h:History) (p:Progress) (r:Report) (g0:h.Good) (g1:p.Good) (_:r.Good):PCalls E 4 [h.enc,p.enc,r.enc] (· = .bool true):=waits_p h p r g0 g1
end Go.Proofs.YtajnanldmhpeaaaGreatDoor.P
