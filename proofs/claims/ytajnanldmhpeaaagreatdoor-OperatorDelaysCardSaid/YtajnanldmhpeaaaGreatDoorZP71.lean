/- The law OperatorOver: the walk. Conditions: what Go allows of the arguments. -/
import Derived.Test.YtajnanldmhpeaaaGreatDoorZP70
set_option linter.unusedVariables false
set_option linter.unusedSimpArgs false
namespace Go.Proofs.YtajnanldmhpeaaaGreatDoor.P
open Go Go.Eng
set_option maxRecDepth 100000
set_option maxHeartbeats 4000000
def usableB (h:History) (p:Progress):Bool:=fewH h&&(histB h&&(fewP p&&validP h p))
theorem usable_p (h:History) (p:Progress) (hg:h.Good) (hpg:p.Good):PCalls E 24 [h.enc,p.enc] (· = .bool (usableB h p)):=by
 have c1:=rfew21_p h;have c3:=rfew42_p p;unfold usableB;refine eP Tryz.func24 ?_
 with_reducible refine callP_eq (c1) ?_
 refine gO Tryz.func24 ?_;cases h1:fewH h
 ·repeat' (first | with_reducible refine cY ?_ | with_reducible refine cN ?_ | with_reducible refine caseB_split (fun _=>?_) (fun _=>?_) | refine gA Tryz.func24 ?_ | refine gB ?_ | refine gC ?_ | with_reducible rfl)
  rfl
 obtain ⟨hf,hk1,hk2,hhl⟩:=fewH_of hg h1;refine caseB_true ?_;refine gO Tryz.func24 ?_
 with_reducible refine callP_eq (rhvalid_p h hf (by omega) hk2) ?_
 refine gO Tryz.func24 ?_;cases h2:histB h
 ·repeat' (first | with_reducible refine cY ?_ | with_reducible refine cN ?_ | with_reducible refine caseB_split (fun _=>?_) (fun _=>?_) | refine gA Tryz.func24 ?_ | refine gB ?_ | refine gC ?_ | with_reducible rfl)
  rfl
 refine caseB_true ?_;refine gO Tryz.func24 ?_
 with_reducible refine callP_eq (c3) ?_
 refine gO Tryz.func24 ?_;cases h3:fewP p
 ·repeat' (first | with_reducible refine cY ?_ | with_reducible refine cN ?_ | with_reducible refine caseB_split (fun _=>?_) (fun _=>?_) | refine gA Tryz.func24 ?_ | refine gB ?_ | refine gC ?_ | with_reducible rfl)
  rfl
 obtain ⟨ps,pl,pd,psh,ppl⟩:=fewP_of hpg h3;refine caseB_true ?_;refine gO Tryz.func24 ?_
 with_reducible refine callP_eq (rvalid42_p h p hf (by omega) hk2 ps) ?_
 refine gO Tryz.func24 ?_;simp
structure Use (h:History) (p:Progress):Prop where
 valid:validP h p=true
 hist:histB h=true
 few:fewP p=true
 hf:h.Fits
 hk1:h.copies.length≤20
 hk2:h.hints.length≤1000000
 hl:h.Lens
 ps:Steps.Fits p.steps
 pl:p.steps.length≤12
 pd:p.done.length≤20
 psh:∀ s∈p.steps,s.stage.puts.length≤1000000∧∀ x∈s.stage.puts,x.zone.Short
 ppl:p.Lens
theorem use_of {h:History} {p:Progress} (hg:h.Good) (hpg:p.Good) (hu:usableB h p=true):Use h p:=by
 simp only [usableB,Bool.and_eq_true] at hu;obtain ⟨h1,h2,h3,h4⟩:=hu;obtain ⟨hf,hk1,hk2,hhl⟩:=fewH_of hg h1;obtain ⟨ps,pl,pd,psh,ppl⟩:=fewP_of hpg h3;exact ⟨h4,h2,h3,hf,hk1,hk2,hhl,ps,pl,pd,psh,ppl⟩
theorem over_p (h:History) (p:Progress) (at_:Int) (r:Report) (hg:h.Good) (hpg:p.Good):PCalls E 6 [h.enc,p.enc,.int .i64 at_,r.enc] (· = .bool true):=by
 refine eP Tryz.func6 ?_
 with_reducible refine callP_eq (head42_p) ?_
 refine gO Tryz.func6 ?_
 with_reducible refine callP_eq (usable_p h p hg hpg) ?_
 refine gO Tryz.func6 ?_;cases hu:usableB h p
 ·repeat' (first | with_reducible refine cY ?_ | with_reducible refine cN ?_ | with_reducible refine caseB_split (fun _=>?_) (fun _=>?_) | refine gA Tryz.func6 ?_ | refine gB ?_ | refine gC ?_ | with_reducible rfl)
 have U:=use_of hg hpg hu;have hlen:((p.done.map (DV.int .i64)).length:Int)=(p.done.length:Int):=by simp
 refine caseB_false ?_;refine gO Tryz.func6 ?_
 with_reducible refine callP_eq (take_p h p ⟨((p.done.map (DV.int .i64)).length:Int),3,at_,0⟩ U.hf (by have:=U.hk1; omega) U.ps U.psh) ?_
 refine gO Tryz.func6 ?_;rw [hlen];generalize hq:takeR h p ⟨(p.done.length:Int),3,at_,0⟩=Q at *;obtain ⟨q,e⟩:=Q;refine caseB_split (fun h1=>?_) (fun h1=>?_)
 ·repeat' (first | with_reducible refine cY ?_ | with_reducible refine cN ?_ | with_reducible refine caseB_split (fun _=>?_) (fun _=>?_) | refine gA Tryz.func6 ?_ | refine gB ?_ | refine gC ?_ | with_reducible rfl)
 have he:e=0:=by simpa using h1
 subst he;obtain ⟨hq1,hv2,hv1⟩:=over_law hq;have hs:q.steps=p.steps:=by rw [hq1]
 have hd:q.done=p.done:=by rw [hq1]
 have ho:q.over=true:=by rw [hq1]
 have hqf:=over_pause (validP_form hv2) ho;have hst:=stuck_take (h:=h) (r:=r) (.inr ho:q.paused=true∨q.over=true);have hr1:realH h q=realH h p:=by unfold realH; rw [hv1,hv2,hs,hd]
 have hr2:realN h q=realN h p:=by unfold realN; rw [hv1,hv2,hs,hd]
 have hk:=U.hk1;have c1:=take_p h q r U.hf (by omega) (hs ▸ U.ps) (hs ▸ U.psh);have c2:=pause_p q (by rw [hs]; have:=U.pl; omega) (hs ▸ U.psh);have c3:=resume_p q 0 (by rw [hs]; have:=U.pl; omega) (hs ▸ U.psh);have c4:=real_p h p U.hf (by omega) U.ps;have c5:=real_p h q U.hf (by omega) (hs ▸ U.ps);rw [hr1,hr2] at c5;rw [hqf.1] at c2;rw [hqf.2] at c3;have s1:=rsame35_p (realH h p) (realH h p) (real_lens U.hl U.hk1 U.ppl);have s2:=rsameSteps_p p.steps q.steps U.ppl.steps U.ppl.each;rw [decide_eq_true hs.symm] at s2;rw [decide_eq_true rfl] at s1;generalize takeR h q r=X1 at *;generalize realH h p=X5 at *;generalize realN h p=N5 at *;clear hq;refine gO Tryz.func6 ?_;refine callP_eq (c1) ?_;refine gO Tryz.func6 ?_;refine callP_eq (c2) ?_;refine gO Tryz.func6 ?_;refine callP_eq (c3) ?_;refine gO Tryz.func6 ?_;refine callP_eq (c4) ?_;refine gO Tryz.func6 ?_;refine callP_eq (c5) ?_;refine gO Tryz.func6 ?_;refine caseB_true ?_;refine gO Tryz.func6 ?_;obtain ⟨x1,n1⟩:=X1;have hN:(N5==N5)=true:=by simp
 simp only at hst;rcases hst with rfl | rfl;all_goals
  repeat' (first | with_reducible refine callP_eq (s1) ?_ | with_reducible refine callP1_eq (s1) ?_ | with_reducible refine callP_eq (s2) ?_ | with_reducible refine callP1_eq (s2) ?_ | with_reducible refine cY ?_ | with_reducible refine cN ?_ | with_reducible refine caseB_split (fun _=>?_) (fun _=>?_) | refine gA Tryz.func6 ?_ | refine gB ?_ | refine gC ?_ | with_reducible rfl)
  all_goals first | rfl | (exfalso; simp_all; done)
theorem over_g (h:History) (p:Progress) (at_:Int) (r:Report) (g0:h.Good) (g1:p.Good) (_:I64 at_) (_:r.Good):PCalls E 6 [h.enc,p.enc,.int .i64 at_,r.enc] (· = .bool true):=over_p h p at_ r g0 g1
end Go.Proofs.YtajnanldmhpeaaaGreatDoor.P
