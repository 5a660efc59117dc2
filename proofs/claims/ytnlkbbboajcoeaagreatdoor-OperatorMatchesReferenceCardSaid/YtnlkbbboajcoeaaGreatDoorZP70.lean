/- The law OperatorMatchesReference: the walk. Conditions: what Go allows of the arguments. -/
import Derived.Test.YtnlkbbboajcoeaaGreatDoorZP69
set_option linter.unusedVariables false
set_option linter.unusedSimpArgs false
namespace Go.Proofs.YtnlkbbboajcoeaaGreatDoor.P
open Go Go.Eng
set_option maxRecDepth 100000
set_option maxHeartbeats 4000000
theorem zeroP_lens:zeroP.Lens:=⟨by simp [zeroP],by simp [zeroP],fun s hs=>by simp [zeroP] at hs⟩
theorem begin_lens {h:History} {l:List Step} (hl:l.length≤1000000) (he:∀ s∈l,s.stage.puts.length≤1000000∧∀ x∈s.stage.puts,x.zone.Lens):(beginR h l).1.Lens:=by
 unfold beginR;split
 ·exact ⟨hl,by simp,he⟩
 ·exact zeroP_lens
theorem off_lens {n:Nat} {by_:Int} {l:List Step} (he:∀ s∈l,s.stage.puts.length≤1000000∧∀ x∈s.stage.puts,x.zone.Lens):∀ s∈offL n by_ l,s.stage.puts.length≤1000000∧∀ x∈s.stage.puts,x.zone.Lens :=
 each_map (P:=fun g=>g.puts.length≤1000000∧∀ x∈g.puts,x.zone.Lens) off_stage he
theorem take_lens {h:History} {p:Progress} {r:Report} (hp:p.Lens) (hd:p.done.length≤20):(takeR h p r).1.Lens:=by
 unfold takeR;repeat' split
 all_goals first
  |exact zeroP_lens
  |skip
 refine ⟨?_,?_,?_⟩
 ·simp only [takeQ,off_len]; exact hp.steps
 ·simp only [takeQ]; rw [done_len2]; split <;> omega
 ·simp only [takeQ]; exact off_lens hp.each
theorem pause_lens {p:Progress} (hp:p.Lens):(pauseR p).1.Lens:=by
 unfold pauseR;repeat' split
 all_goals first
  |exact zeroP_lens
  |exact ⟨hp.steps,hp.done,hp.each⟩
theorem resume_lens {p:Progress} {by_:Int} (hp:p.Lens):(resumeR p by_).1.Lens:=by
 unfold resumeR;repeat' split
 all_goals first
  |exact zeroP_lens
  |exact ⟨by simp only [off_len]; exact hp.steps,hp.done,off_lens hp.each⟩
theorem zeroH_lens:zeroH.Lens:=⟨by simp [zeroH],by simp [zeroH],by simp [zeroH],by simp [zeroH],fun c hc=>by simp [zeroH] at hc⟩
theorem apply_lens {h:History} {l:List Step} (hh:h.Lens) (hc:h.copies.length≤20) (hl:l.length≤400) (hp:∀ s∈l,s.stage.puts.length≤500) (he:∀ s∈l,∀ x∈s.stage.puts,x.zone.Lens):(applyH h l).Lens:=by
 unfold applyH;split
 ·have:=runS_len (fin:=h.fin) (cs:=h.copies) hp l.length (Nat.le_refl _);rw [List.take_length] at this;exact ⟨hh.hosts,by simp only; omega,hh.hints,hh.anchor,runS_zones hh.zones (fun s hs x hx _=>he s hs x hx)⟩
 ·exact zeroH_lens
theorem doneL_mem {dn:List Int} {l:List Step} {P:Stage→Prop} (he:∀ s∈l,P s.stage):∀ s∈doneL dn l,P s.stage:=fun s h=>by
 obtain ⟨i,hi⟩:=List.getElem?_of_mem h;rw [doneL,List.getElem?_zipWith] at hi;cases h1:dn[i]? with
 |none=>rw [h1] at hi; simp at hi
 |some t =>
  cases h2:l[i]? with
  |none=>rw [h1,h2] at hi; simp at hi
  |some x =>
   rw [h1,h2] at hi;obtain rfl:=Option.some.inj hi;exact he x (List.mem_of_getElem? h2)
theorem real_lens {h:History} {p:Progress} (hh:h.Lens) (hc:h.copies.length≤20) (hp:p.Lens):(realH h p).Lens:=by
 unfold realH;split
 ·rename_i hv;obtain ⟨v1,v2,_⟩:=validP_iff.1 hv;obtain ⟨w1,w2,w3,_⟩:=validS_iff.1 v1;refine apply_lens hh hc (by rw [done_len v2]; omega) (doneL_mem (P:=fun g=>g.puts.length≤500) fun s hs=>?_) (doneL_mem (P:=fun g=>∀ x∈g.puts,x.zone.Lens) fun s hs=>(hp.each s hs).2);have:=(w3 s hs).2.2;simp only [stageB,Bool.and_eq_true,decide_eq_true_eq] at this;exact this.1.1
 ·exact zeroH_lens
theorem omatches_p (h:History) (l:List Step) (p:Progress) (r:Report) (by_:Int) (hg:h.Good) (hlg:∀ s∈l,s.Good) (hpg:p.Good):PCalls E 3 [h.enc,.sl (l.map Step.enc),p.enc,r.enc,.int .i64 by_] (· = .bool true):=by
 have c1:=rfew21_p h;have c2:=rfewSteps_p l;have c3:=rfew42_p p;refine eP Tryz.func3 ?_
 with_reducible refine callP_eq (head42_p) ?_
 refine gO Tryz.func3 ?_
 with_reducible refine callP_eq (c1) ?_
 refine gO Tryz.func3 ?_;cases h1:fewH h
 ·repeat' (first | with_reducible refine cY ?_ | with_reducible refine cN ?_ | with_reducible refine caseB_split (fun _=>?_) (fun _=>?_) | refine gA Tryz.func3 ?_ | refine gB ?_ | refine gC ?_ | with_reducible rfl)
 refine caseB_false ?_;refine gO Tryz.func3 ?_
 with_reducible refine callP_eq (c2) ?_
 refine gO Tryz.func3 ?_;cases h2:fewStepsB l
 ·repeat' (first | with_reducible refine cY ?_ | with_reducible refine cN ?_ | with_reducible refine caseB_split (fun _=>?_) (fun _=>?_) | refine gA Tryz.func3 ?_ | refine gB ?_ | refine gC ?_ | with_reducible rfl)
 refine caseB_false ?_;refine gO Tryz.func3 ?_
 with_reducible refine callP_eq (c3) ?_
 refine gO Tryz.func3 ?_;cases h3:fewP p
 ·repeat' (first | with_reducible refine cY ?_ | with_reducible refine cN ?_ | with_reducible refine caseB_split (fun _=>?_) (fun _=>?_) | refine gA Tryz.func3 ?_ | refine gB ?_ | refine gC ?_ | with_reducible rfl)
 obtain ⟨hf,hk1,hk2,hhl⟩:=fewH_of hg h1;obtain ⟨ls,ll,lsh,lle⟩:=fewSteps_of hlg h2;obtain ⟨ps,pl,pd,psh,ppl⟩:=fewP_of hpg h3;refine caseB_false ?_;refine gO Tryz.func3 ?_
 with_reducible refine callP_eq (begin_p h l hf (by omega) ls (fun s hs=>(lsh s hs).2)) ?_
 refine gO Tryz.func3 ?_
 with_reducible refine callP_eq (rbegin_p h l hf (by omega) hk2 ls) ?_
 refine gO Tryz.func3 ?_;have s1:=rsame42_p (beginR h l).1 (beginR h l).1 (begin_lens (by omega) lle);generalize beginR h l=X1 at *;refine caseB_true ?_;refine gO Tryz.func3 ?_;refine callP_eq (s1) ?_;refine gO Tryz.func3 ?_;refine caseB_yes (by simp) ?_;refine gO Tryz.func3 ?_
 with_reducible refine callP_eq (take_p h p r hf (by omega) ps psh) ?_
 refine gO Tryz.func3 ?_
 with_reducible refine callP_eq (rtake_p h p r hf (by omega) hk2 ps) ?_
 refine gO Tryz.func3 ?_;have sX2:=rsame42_p (takeR h p r).1 (takeR h p r).1 (take_lens ppl pd);generalize takeR h p r=X2 at *;refine caseB_yes (by simp) ?_;refine gO Tryz.func3 ?_;refine callP_eq (sX2) ?_;refine gO Tryz.func3 ?_;refine caseB_yes (by simp) ?_;refine gO Tryz.func3 ?_
 with_reducible refine callP_eq (pause_p p (by omega) psh) ?_
 refine gO Tryz.func3 ?_
 with_reducible refine callP_eq (rpause_p p) ?_
 refine gO Tryz.func3 ?_;have sX3:=rsame42_p (pauseR p).1 (pauseR p).1 (pause_lens ppl);generalize pauseR p=X3 at *;refine caseB_yes (by simp) ?_;refine gO Tryz.func3 ?_;refine callP_eq (sX3) ?_;refine gO Tryz.func3 ?_;refine caseB_yes (by simp) ?_;refine gO Tryz.func3 ?_
 with_reducible refine callP_eq (resume_p p by_ (by omega) psh) ?_
 refine gO Tryz.func3 ?_
 with_reducible refine callP_eq (rresume_p p by_) ?_
 refine gO Tryz.func3 ?_;have sX4:=rsame42_p (resumeR p by_).1 (resumeR p by_).1 (resume_lens ppl);generalize resumeR p by_=X4 at *;refine caseB_yes (by simp) ?_;refine gO Tryz.func3 ?_;refine callP_eq (sX4) ?_;refine gO Tryz.func3 ?_;refine caseB_yes (by simp) ?_;refine gO Tryz.func3 ?_
 with_reducible refine callP_eq (real_p h p hf (by omega) ps) ?_
 refine gO Tryz.func3 ?_
 with_reducible refine callP_eq (rreal_p h p hf (by omega) hk2 ps) ?_
 refine gO Tryz.func3 ?_;have s5:=rsame35_p (realH h p) (realH h p) (real_lens hhl hk1 ppl);generalize realH h p=X5 at *;generalize realN h p=N5 at *;refine caseB_yes (by simp) ?_;refine gO Tryz.func3 ?_;refine callP_eq (s5) ?_;refine gO Tryz.func3 ?_;refine caseB_yes (by simp) ?_;refine gO Tryz.func3 ?_;simp
theorem omatches_g (h:History) (l:List Step) (p:Progress) (r:Report) (by_:Int) (g0:h.Good) (g1:l.length≤maxLen∧∀ a∈l,Step.Good a) (g2:p.Good) (_:r.Good) (_:I64 by_):PCalls E 3 [h.enc,.sl (l.map Step.enc),p.enc,r.enc,.int .i64 by_] (· = .bool true) :=
 omatches_p h l p r by_ g0 g1.2 g2
end Go.Proofs.YtnlkbbboajcoeaaGreatDoor.P
