/- The law OperatorPause: the walk. Conditions: what Go allows of the arguments. -/
import Derived.Test.YtajnanldmhpeaaaGreatDoorZP71
set_option linter.unusedVariables false
set_option linter.unusedSimpArgs false
namespace Go.Proofs.YtajnanldmhpeaaaGreatDoor.P
open Go Go.Eng
set_option maxRecDepth 100000
set_option maxHeartbeats 4000000
theorem lpause_p (h:History) (p:Progress) (r:Report) (by_:Int) (hg:h.Good) (hpg:p.Good):PCalls E 5 [h.enc,p.enc,r.enc,.int .i64 by_] (· = .bool true):=by
 refine eP Tryz.func5 ?_
 with_reducible refine callP_eq (head42_p) ?_
 refine gO Tryz.func5 ?_
 with_reducible refine callP_eq (usable_p h p hg hpg) ?_
 refine gO Tryz.func5 ?_;cases hu:usableB h p
 ·repeat' (first | with_reducible refine cY ?_ | with_reducible refine cN ?_ | with_reducible refine caseB_split (fun _=>?_) (fun _=>?_) | refine gA Tryz.func5 ?_ | refine gB ?_ | refine gC ?_ | with_reducible rfl)
 have U:=use_of hg hpg hu;have hk:=U.hk1;have hpl:=U.pl;refine caseB_false ?_;refine gO Tryz.func5 ?_;by_cases hp:p.paused=false∧p.over=false
 case neg =>
  have c1:=pause_p p (by omega) U.psh;have e1:pauseR p=(zeroP,6):=by
   unfold pauseR;rw [validP_form U.valid];cases h1:p.paused <;> cases h2:p.over <;> simp_all
  rw [e1] at c1;refine callP_eq (c1) ?_;refine gO Tryz.func5 ?_;refine caseB_true ?_;refine gO Tryz.func5 ?_;refine caseB_true ?_;refine gO Tryz.func5 ?_;refine caseB_true ?_;refine gO Tryz.func5 ?_;cases h1:p.paused <;> cases h2:p.over;all_goals
   repeat' (first | with_reducible refine cY ?_ | with_reducible refine cN ?_ | with_reducible refine caseB_split (fun _=>?_) (fun _=>?_) | refine gA Tryz.func5 ?_ | refine gB ?_ | refine gC ?_ | with_reducible rfl)
  all_goals first | rfl | (exfalso; simp_all; done)
 obtain ⟨hp1,hp2⟩:=hp;obtain ⟨e1,e3,e4⟩:=pause_law U.valid hp1 hp2;obtain ⟨q,hq⟩:∃ q:Progress,q={ p with paused:=true }:=⟨_,rfl⟩;rw [← hq] at e1 e3 e4;have hs:q.steps=p.steps:=by rw [hq]
 have hd:q.done=p.done:=by rw [hq]
 have hpa:q.paused=true:=by rw [hq]
 have hst:=stuck_take (h:=h) (p:=q) (r:=r) (.inl hpa);have ht:∀ s∈q.steps,0≤s.time:=fun s hs2=>((validS_iff.1 (validP_iff.1 U.valid).1).2.2.1 s (hs ▸ hs2)).1;have c1:=pause_p p (by omega) U.psh;have c2:=take_p h q r U.hf (by omega) (hs ▸ U.ps) (hs ▸ U.psh);have c3:=resume_p q 0 (by rw [hs]; omega) (hs ▸ U.psh);have c4:=pause_p q (by rw [hs]; omega) (hs ▸ U.psh);have c5:=resume_p q by_ (by rw [hs]; omega) (hs ▸ U.psh);have s1:=rsame42_p p p U.ppl;have h5:=fun h=>resume_no (p:=q) (by_:=by_) h;have h6:=fun b h=>resume_ok (p:=q) (q:=b) (by_:=by_) ht h;rw [e1] at c1;rw [e3] at c3;rw [e4] at c4;rw [decide_eq_true rfl] at s1;generalize takeR h q r=X1 at *;generalize resumeR q by_=X5 at *;clear hq e1 e3 e4;refine callP_eq (c1) ?_;refine gO Tryz.func5 ?_;refine caseB_false ?_;refine gO Tryz.func5 ?_;refine callP_eq (c2) ?_;refine gO Tryz.func5 ?_;refine callP_eq (c3) ?_;refine gO Tryz.func5 ?_;refine callP_eq (c4) ?_;refine gO Tryz.func5 ?_;obtain ⟨x1,n1⟩:=X1;simp only at hst;rcases hst with rfl | rfl;all_goals
  repeat' (first | with_reducible refine callP_eq (s1) ?_ | with_reducible refine callP1_eq (s1) ?_ | with_reducible refine cY ?_ | with_reducible refine cN ?_ | with_reducible refine caseB_split (fun _=>?_) (fun _=>?_) | refine gA Tryz.func5 ?_ | refine gB ?_ | refine gC ?_ | with_reducible rfl)
 all_goals first
  |(exfalso; simp_all; done)
  |skip
 all_goals
  refine callP_eq (c5) ?_;refine gO Tryz.func5 ?_;refine caseB_split (fun h7=>?_) (fun h7=>?_)
  ·have e5:X5.2≠0:=by simpa using h7
   have e6:=h5 e5;obtain ⟨x5,n5⟩:=X5;simp only at e6;subst e6;repeat' (first | with_reducible refine cY ?_ | with_reducible refine cN ?_ | with_reducible refine caseB_split (fun _=>?_) (fun _=>?_) | refine gA Tryz.func5 ?_ | refine gB ?_ | refine gC ?_ | with_reducible rfl)
   rfl
  ·have e5:X5.2=0:=by simpa using h7
   obtain ⟨b,n5⟩:=X5;simp only at e5;subst e5;obtain ⟨b1,b2,b3,b4⟩:=h6 b rfl;rw [hs] at b1 b4;rw [hd] at b2 b4;clear h5 h6 c5 c1 c2 c3 c4 s1;have n1:=numbers_p b.done p.done (by rw [b2]; have:=U.pd; omega);rw [decide_eq_true b2] at n1;refine gO Tryz.func5 ?_;refine AWL.loop (κ:=Nat) ([8,20,21]++rg 108 35) (fun k=>[(108,.d (.int .i64 k))]) (fun _=>[]) (fun k=>k≤p.steps.length) (fun k=>p.steps.length - k) 0 (Nat.zero_le _) ?_ ?_
   ·(conv=>whnf);repeat (first | exact trivial | (refine sI ?_; conv=>whnf))
   intro k hk IH;refine AWL.head E_ok Tryz.func5 2000 ?_;(conv=>whnf);refine caseB_split (fun h8=>?_) (fun h8=>?_)
   ·have hlt:k<p.steps.length:=by simpa using h8
    obtain ⟨x,hx⟩:=some_of_lt hlt;obtain ⟨y,hy⟩:=some_of_lt (l:=b.steps) (k:=k) (by omega);have hxy:=b4 k x y hx hy;refine gO Tryz.func5 ?_;refine elemP_at (e:=x.enc) (at_map hx) rfl ?_;refine gO Tryz.func5 ?_;refine caseB_split (fun h9=>?_) (fun h9=>?_)
    ·have h10:p.done.length≤k:=by have:=of_decide_eq_true h9; simp at this; omega
     rw [if_pos h10] at hxy;refine gO Tryz.func5 ?_;refine caseB_no (by simp; omega) ?_;refine gO Tryz.func5 ?_;refine elemP_at (e:=y.enc) (at_map hy) rfl ?_;refine gO Tryz.func5 ?_;refine caseB_no (by simp [hxy]) ?_;refine gO Tryz.func5 ?_;refine AWL.back (IH (k+1) (by omega) (by omega)) ?_;(conv=>whnf);repeat (first | exact trivial | (refine sI ?_; conv=>whnf))
    ·have h10:¬ p.done.length≤k:=by have:=of_decide_eq_false h9; simp at this; omega
     rw [if_neg h10] at hxy;refine gO Tryz.func5 ?_;refine caseB_no (by simp; omega) ?_;refine gO Tryz.func5 ?_;refine elemP_at (e:=y.enc) (at_map hy) rfl ?_;refine gO Tryz.func5 ?_;refine caseB_no (by simp [hxy]) ?_;refine gO Tryz.func5 ?_;refine AWL.back (IH (k+1) (by omega) (by omega)) ?_;(conv=>whnf);repeat (first | exact trivial | (refine sI ?_; conv=>whnf))
   ·clear IH;refine gO Tryz.func5 ?_;refine caseB_true ?_;refine gO Tryz.func5 ?_;refine callP_eq (n1) ?_;refine gO Tryz.func5 ?_;refine caseB_true ?_;refine gO Tryz.func5 ?_;simp [b3]
theorem lpause_g (h:History) (p:Progress) (r:Report) (by_:Int) (g0:h.Good) (g1:p.Good) (_:r.Good) (_:I64 by_):PCalls E 5 [h.enc,p.enc,r.enc,.int .i64 by_] (· = .bool true):=lpause_p h p r by_ g0 g1
end Go.Proofs.YtajnanldmhpeaaaGreatDoor.P
