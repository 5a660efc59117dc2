/- The law OperatorDelays: the walk. Conditions: what Go allows of the arguments. -/
import Derived.Test.YtajnanldmhpeaaaGreatDoorZP71
import Derived.Test.YtajnanldmhpeaaaGreatDoorZEngB
set_option linter.unusedVariables false
set_option linter.unusedSimpArgs false
namespace Go.Proofs.YtajnanldmhpeaaaGreatDoor.P
open Go Go.Eng
set_option maxRecDepth 100000
set_option maxHeartbeats 4000000
theorem delayF_a (n at_ b:Int):ACalls E 31 [.cells [.d (.int .i64 n)],.cells [.d (.int .i64 at_)]] [.d (.int .i64 b),.ptr 0 0,.ptr 1 0] (fun x y=>x = .d (.agg [.int .i64 n,.int .i64 2,.int .i64 at_,.int .i64 b])∧y=[.cells [.d (.int .i64 n)],.cells [.d (.int .i64 at_)],.cells [.d (.int .i64 n),.d (.int .i64 2),.d (.int .i64 at_),.d (.int .i64 b)]]):=by
 refine ACalls.run E_ok (fn:=Tryz.f31) Tryz.func31 (body:=Tryz.f31.body.getD .skip) rfl (by decide) 2000 rfl ?_;(conv=>whnf);exact ⟨rfl,rfl⟩
theorem take_shape {h:History} {p:Progress} {r:Report} (hs:Steps.Fits p.steps) (hp:∀ s∈p.steps,s.stage.puts.length≤1000000∧∀ x∈s.stage.puts,x.zone.Short):Steps.Fits (takeR h p r).1.steps∧(∀ s∈(takeR h p r).1.steps,s.stage.puts.length≤1000000∧∀ x∈s.stage.puts,x.zone.Short)∧(takeR h p r).1.done.length≤p.done.length+1:=by
 by_cases h0:(takeR h p r).2=0
 ·have e:takeR h p r=((takeR h p r).1,0):=by rw [← h0]
  obtain ⟨s,H,hq,hb⟩:=takeR_ok e;rw [hq];refine ⟨fits_map off_stage hs,each_map (P:=fun g=>g.puts.length≤1000000∧∀ x∈g.puts,x.zone.Short) off_stage hp,?_⟩;show (doneOf p r).length≤_;rw [done_len2];split <;> omega
 ·rw [takeR_no h0];exact ⟨⟨fun s hs=>by simp [zeroP] at hs,by simp [zeroP]⟩,fun s hs=>by simp [zeroP] at hs,by simp [zeroP]⟩
theorem delays_p (h:History) (p:Progress) (at_ one two:Int) (hg:h.Good) (hpg:p.Good):PCalls E 7 [h.enc,p.enc,.int .i64 at_,.int .i64 one,.int .i64 two] (· = .bool true):=by
 refine eP Tryz.func7 ?_
 with_reducible refine callP_eq (head42_p) ?_
 refine gO Tryz.func7 ?_
 with_reducible refine callP_eq (usable_p h p hg hpg) ?_
 refine gO Tryz.func7 ?_;cases hu:usableB h p
 ·repeat' (first | with_reducible refine cY ?_ | with_reducible refine cN ?_ | with_reducible refine caseB_split (fun _=>?_) (fun _=>?_) | refine gA Tryz.func7 ?_ | refine gB ?_ | refine gC ?_ | with_reducible rfl)
 have U:=use_of hg hpg hu;have hk:=U.hk1;have hpl:=U.pl;have hpd:=U.pd;refine caseB_false ?_;refine gO Tryz.func7 ?_;refine caseB_split (fun a1=>?_) (fun a1=>?_)
 ·repeat' (first | with_reducible refine cY ?_ | with_reducible refine cN ?_ | with_reducible refine caseB_split (fun _=>?_) (fun _=>?_) | refine gA Tryz.func7 ?_ | refine gB ?_ | refine gC ?_ | with_reducible rfl)
 refine gO Tryz.func7 ?_;refine caseB_split (fun a2=>?_) (fun a2=>?_)
 ·repeat' (first | with_reducible refine cY ?_ | with_reducible refine cN ?_ | with_reducible refine caseB_split (fun _=>?_) (fun _=>?_) | refine gA Tryz.func7 ?_ | refine gB ?_ | refine gC ?_ | with_reducible rfl)
 refine gO Tryz.func7 ?_;refine caseB_split (fun a3=>?_) (fun a3=>?_)
 ·repeat' (first | with_reducible refine cY ?_ | with_reducible refine cN ?_ | with_reducible refine caseB_split (fun _=>?_) (fun _=>?_) | refine gA Tryz.func7 ?_ | refine gB ?_ | refine gC ?_ | with_reducible rfl)
 refine gO Tryz.func7 ?_;refine caseB_split (fun a4=>?_) (fun a4=>?_)
 ·repeat' (first | with_reducible refine cY ?_ | with_reducible refine cN ?_ | with_reducible refine caseB_split (fun _=>?_) (fun _=>?_) | refine gA Tryz.func7 ?_ | refine gB ?_ | refine gC ?_ | with_reducible rfl)
 refine gO Tryz.func7 ?_;refine caseB_split (fun a5=>?_) (fun a5=>?_)
 ·repeat' (first | with_reducible refine cY ?_ | with_reducible refine cN ?_ | with_reducible refine caseB_split (fun _=>?_) (fun _=>?_) | refine gA Tryz.func7 ?_ | refine gB ?_ | refine gC ?_ | with_reducible rfl)
 have b1:one≤5000000:=by simp at a1; omega
 have b2:two≤5000000:=by simp at a2; omega
 have b3:1≤one:=by simp at a3; omega
 have b4:1≤two:=by simp at a4; omega
 have b5:p.done.length<p.steps.length:=by simp at a5; omega
 have hlen:((p.done.map (DV.int .i64)).length:Int)=(p.done.length:Int):=by simp
 have L:((takeR h p ⟨p.done.length,2,at_,one⟩).2=0→((takeR h (takeR h p ⟨p.done.length,2,at_,one⟩).1 ⟨p.done.length,2,at_,two⟩).2=0↔(takeR h p ⟨p.done.length,2,at_,one+two⟩).2=0))∧((takeR h (takeR h p ⟨p.done.length,2,at_,one⟩).1 ⟨p.done.length,2,at_,two⟩).2=0→(takeR h (takeR h p ⟨p.done.length,2,at_,one⟩).1 ⟨p.done.length,2,at_,two⟩).1=(takeR h p ⟨p.done.length,2,at_,one+two⟩).1):=delays_law U.valid b5 b3 b1 b4 b2;obtain ⟨s,hs⟩:=some_of_lt b5;have F:((takeR h p ⟨p.done.length,2,at_,one⟩).2=0∧(takeR h p ⟨p.done.length,4,s.time,one⟩).2=0→(takeR h p ⟨p.done.length,2,at_,one⟩).1=(takeR h p ⟨p.done.length,4,s.time,one⟩).1)∧((takeR h p ⟨p.done.length,2,at_,one⟩).2=36→(takeR h p ⟨p.done.length,4,s.time,one⟩).2=36):=fails_law U.valid hs b3 b1;have hvl:=(validP_iff.1 U.valid).2.1;obtain ⟨t1,t2,t3⟩:=take_shape (h:=h) (r:=⟨p.done.length,2,at_,one⟩) U.ps U.psh;have c1:=take_p h p ⟨p.done.length,2,at_,one⟩ U.hf (by omega) U.ps U.psh;have c2:=take_p h (takeR h p ⟨p.done.length,2,at_,one⟩).1 ⟨p.done.length,2,at_,two⟩ U.hf (by omega) t1 t2;have c3:=take_p h p ⟨p.done.length,2,at_,one+two⟩ U.hf (by omega) U.ps U.psh;have c4:=take_p h p ⟨p.done.length,4,s.time,one⟩ U.hf (by omega) U.ps U.psh;have l1:=take_lens (h:=h) (r:=⟨p.done.length,2,at_,one⟩) U.ppl U.pd;have l2:=take_lens (h:=h) (r:=⟨p.done.length,2,at_,two⟩) l1 (by omega);have w1:IntKind.i64.wrap (one+two)=one+two:=wrap64 (by omega) (by omega);generalize takeR h p ⟨p.done.length,2,at_,one⟩=X1 at *;have s1:=rsame42_p (takeR h X1.1 ⟨p.done.length,2,at_,two⟩).1 (takeR h p ⟨p.done.length,2,at_,one+two⟩).1 l2;generalize takeR h X1.1 ⟨p.done.length,2,at_,two⟩=X2 at *;generalize takeR h p ⟨p.done.length,2,at_,one+two⟩=X3 at *;generalize takeR h p ⟨p.done.length,4,s.time,one⟩=X4 at *;have s2:=rsame42_p X1.1 X4.1 l1;refine gO Tryz.func7 ?_;rw [hlen];refine AWL.drawA E_ok E_mixed 9 2000 (by kernel_rfl) ?_;(conv=>whnf);refine DWL.acallN (sel:=[3,2]) (delayF_a (p.done.length:Int) at_ one) rfl rfl (ev_at rfl) (evs_one (ev_at rfl)) (by decide) (by simp) rfl rfl rfl ?_;refine gD ?_;refine callP1_eq (c1) ?_;refine gD ?_;refine gS ?_;refine gO Tryz.func7 ?_;refine AWL.drawA E_ok E_mixed 9 2000 (by kernel_rfl) ?_;(conv=>whnf);refine DWL.acallN (sel:=[3,2]) (delayF_a (p.done.length:Int) at_ two) rfl rfl (ev_at rfl) (evs_one (ev_at rfl)) (by decide) (by simp) rfl rfl rfl ?_;refine gD ?_;refine callP1_eq (c2) ?_;refine gD ?_;refine gS ?_;refine gO Tryz.func7 ?_;refine AWL.drawA E_ok E_mixed 11 2000 (by kernel_rfl) ?_;(conv=>whnf);refine DWL.acallN (sel:=[3,2]) (delayF_a (p.done.length:Int) at_ (IntKind.i64.wrap (one+two))) rfl rfl (ev_at rfl) (evs_one (ev_at rfl)) (by decide) (by simp) rfl rfl rfl ?_;refine gD ?_;rw [w1];refine callP1_eq (c3) ?_;refine gD ?_;refine gS ?_;refine gO Tryz.func7 ?_;obtain ⟨x1,n1⟩:=X1
 obtain ⟨x2,n2⟩:=X2;obtain ⟨x3,n3⟩:=X3;obtain ⟨x4,n4⟩:=X4;simp only at L F s1 s2;clear c1 c2 c3 t1 t2 t3 l1 l2;refine caseB_split (fun d1=>?_) (fun d1=>?_)
 ·have e1:n1=0:=by simpa using d1
  subst e1;have hq:(n2==0)=(n3==0):=by rw [Bool.eq_iff_iff]; simpa using L.1 rfl
  refine gO Tryz.func7 ?_;refine caseB_no (by show ((n2==0) != (n3==0))=false; rw [hq]; simp) ?_;refine gO Tryz.func7 ?_;refine caseB_split (fun d2=>?_) (fun d2=>?_)
  ·have e2:n2=0:=by simpa using d2
   rw [decide_eq_true (L.2 e2)] at s1;refine gO Tryz.func7 ?_;refine callP_eq (s1) ?_;refine gO Tryz.func7 ?_;refine caseB_false ?_;refine gO Tryz.func7 ?_;clear s1;refine AWL.drawA E_ok E_mixed 15 2000 (by kernel_rfl) ?_;(conv=>whnf);refine elemP_at (e:=s.enc) (at_map hs) rfl ?_;refine gD ?_;refine callP1_eq (c4) ?_;refine gD ?_;refine gS ?_;refine gO Tryz.func7 ?_;refine caseB_no (by simp) ?_;refine gO Tryz.func7 ?_;refine caseB_split (fun d4=>?_) (fun d4=>?_)
   ·have e4:n4≠0:=by simpa using d4
    repeat' (first | with_reducible refine cY ?_ | with_reducible refine cN ?_ | with_reducible refine caseB_split (fun _=>?_) (fun _=>?_) | refine gA Tryz.func7 ?_ | refine gB ?_ | refine gC ?_ | with_reducible rfl)
    all_goals first | rfl | (exfalso; simp_all; done)
   ·have e4:n4=0:=by simpa using d4
    rw [decide_eq_true (F.1 ⟨rfl,e4⟩)] at s2;repeat' (first | with_reducible refine callP_eq (s2) ?_ | with_reducible refine callP1_eq (s2) ?_ | with_reducible refine cY ?_ | with_reducible refine cN ?_ | with_reducible refine caseB_split (fun _=>?_) (fun _=>?_) | refine gA Tryz.func7 ?_ | refine gB ?_ | refine gC ?_ | with_reducible rfl)
    all_goals first | rfl | (exfalso; simp_all; done)
  ·refine gO Tryz.func7 ?_;refine caseB_false ?_;refine gO Tryz.func7 ?_;refine AWL.drawA E_ok E_mixed 15 2000 (by kernel_rfl) ?_;(conv=>whnf);refine elemP_at (e:=s.enc) (at_map hs) rfl ?_;refine gD ?_;refine callP1_eq (c4) ?_;refine gD ?_;refine gS ?_;refine gO Tryz.func7 ?_;refine caseB_no (by simp) ?_;refine gO Tryz.func7 ?_;refine caseB_split (fun d4=>?_) (fun d4=>?_)
   ·have e4:n4≠0:=by simpa using d4
    repeat' (first | with_reducible refine cY ?_ | with_reducible refine cN ?_ | with_reducible refine caseB_split (fun _=>?_) (fun _=>?_) | refine gA Tryz.func7 ?_ | refine gB ?_ | refine gC ?_ | with_reducible rfl)
    all_goals first | rfl | (exfalso; simp_all; done)
   ·have e4:n4=0:=by simpa using d4
    rw [decide_eq_true (F.1 ⟨rfl,e4⟩)] at s2;repeat' (first | with_reducible refine callP_eq (s2) ?_ | with_reducible refine callP1_eq (s2) ?_ | with_reducible refine cY ?_ | with_reducible refine cN ?_ | with_reducible refine caseB_split (fun _=>?_) (fun _=>?_) | refine gA Tryz.func7 ?_ | refine gB ?_ | refine gC ?_ | with_reducible rfl)
    all_goals first | rfl | (exfalso; simp_all; done)
 ·refine gO Tryz.func7 ?_;refine caseB_false ?_;refine gO Tryz.func7 ?_;refine caseB_split (fun d2=>?_) (fun d2=>?_)
  ·have e2:n2=0:=by simpa using d2
   rw [decide_eq_true (L.2 e2)] at s1;refine gO Tryz.func7 ?_;refine callP_eq (s1) ?_;refine gO Tryz.func7 ?_;refine caseB_false ?_;refine gO Tryz.func7 ?_;refine AWL.drawA E_ok E_mixed 15 2000 (by kernel_rfl) ?_;(conv=>whnf);refine elemP_at (e:=s.enc) (at_map hs) rfl ?_;refine gD ?_;refine callP1_eq (c4) ?_;refine gD ?_;refine gS ?_;refine gO Tryz.func7 ?_;refine caseB_yes (by simpa using d1) ?_;repeat' (first | with_reducible refine cY ?_ | with_reducible refine cN ?_ | with_reducible refine caseB_split (fun _=>?_) (fun _=>?_) | refine gA Tryz.func7 ?_ | refine gB ?_ | refine gC ?_ | with_reducible rfl)
   all_goals first | rfl | (exfalso; simp_all; done) | (simp; intros; exact F.2 (by assumption))
  ·refine gO Tryz.func7 ?_;refine caseB_false ?_;refine gO Tryz.func7 ?_;refine AWL.drawA E_ok E_mixed 15 2000 (by kernel_rfl) ?_;(conv=>whnf);refine elemP_at (e:=s.enc) (at_map hs) rfl ?_;refine gD ?_;refine callP1_eq (c4) ?_;refine gD ?_;refine gS ?_;refine gO Tryz.func7 ?_;refine caseB_yes (by simpa using d1) ?_;repeat' (first | with_reducible refine cY ?_ | with_reducible refine cN ?_ | with_reducible refine caseB_split (fun _=>?_) (fun _=>?_) | refine gA Tryz.func7 ?_ | refine gB ?_ | refine gC ?_ | with_reducible rfl)
   all_goals first | rfl | (exfalso; simp_all; done) | (simp; intros; exact F.2 (by assumption))
theorem delays_g (h:History) (p:Progress) (at_ one two:Int) (g0:h.Good) (g1:p.Good) (_:I64 at_) (_:I64 one) (_:I64 two):PCalls E 7 [h.enc,p.enc,.int .i64 at_,.int .i64 one,.int .i64 two] (· = .bool true):=delays_p h p at_ one two g0 g1
end Go.Proofs.YtajnanldmhpeaaaGreatDoor.P
