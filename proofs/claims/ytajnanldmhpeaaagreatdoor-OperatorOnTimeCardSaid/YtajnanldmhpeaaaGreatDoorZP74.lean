/- The law OperatorOnTime: the walk. Conditions: what Go allows of the arguments. -/
import Derived.Test.YtajnanldmhpeaaaGreatDoorZP71
set_option linter.unusedVariables false
set_option linter.unusedSimpArgs false
namespace Go.Proofs.YtajnanldmhpeaaaGreatDoor.P
open Go Go.Eng
set_option maxRecDepth 100000
set_option maxHeartbeats 4000000
theorem ontime_p (h:History) (l:List Step) (many:Int) (hg:h.Good) (hlg:∀ s∈l,s.Good) (hm:U8 many):PCalls E 3 [h.enc,.sl (l.map Step.enc),.int .u8 many] (· = .bool true):=by
 have c1:=rfew21_p h;have c2:=rfewSteps_p l;refine eP Tryz.func3 ?_
 with_reducible refine callP_eq (head42_p) ?_
 refine gO Tryz.func3 ?_
 with_reducible refine callP_eq (c1) ?_
 refine gO Tryz.func3 ?_;cases h1:fewH h
 ·repeat' (first | with_reducible refine cY ?_ | with_reducible refine cN ?_ | with_reducible refine caseB_split (fun _=>?_) (fun _=>?_) | refine gA Tryz.func3 ?_ | refine gB ?_ | refine gC ?_ | with_reducible rfl)
 obtain ⟨hf,hk1,hk2,hhl⟩:=fewH_of hg h1;refine caseB_false ?_;refine gO Tryz.func3 ?_
 with_reducible refine callP_eq (c2) ?_
 refine gO Tryz.func3 ?_;cases h2:fewStepsB l
 ·repeat' (first | with_reducible refine cY ?_ | with_reducible refine cN ?_ | with_reducible refine caseB_split (fun _=>?_) (fun _=>?_) | refine gA Tryz.func3 ?_ | refine gB ?_ | refine gC ?_ | with_reducible rfl)
 obtain ⟨ls,ll,lsh,lle⟩:=fewSteps_of hlg h2;refine caseB_false ?_;refine gO Tryz.func3 ?_;refine caseB_split (fun h3=>?_) (fun h3=>?_)
 ·repeat' (first | with_reducible refine cY ?_ | with_reducible refine cN ?_ | with_reducible refine caseB_split (fun _=>?_) (fun _=>?_) | refine gA Tryz.func3 ?_ | refine gB ?_ | refine gC ?_ | with_reducible rfl)
 have hl12:l.length≤12:=by have:=of_decide_eq_false h3; simp at this; omega
 refine gO Tryz.func3 ?_
 with_reducible refine callP_eq (rvalidS_p h l hf (by omega) hk2 ls) ?_
 refine gO Tryz.func3 ?_;cases h4:validS h l
 ·repeat' (first | with_reducible refine cY ?_ | with_reducible refine cN ?_ | with_reducible refine caseB_split (fun _=>?_) (fun _=>?_) | refine gA Tryz.func3 ?_ | refine gB ?_ | refine gC ?_ | with_reducible rfl)
 refine caseB_false ?_;refine gO Tryz.func3 ?_;have b1:=begin_p h l hf (by omega) ls (fun s hs=>(lsh s hs).2);have e1:beginR h l=(onP l 0,0):=by simp [beginR,h4,onP]
 rw [e1] at b1;refine callP_eq (b1) ?_;refine gO Tryz.func3 ?_;have hw:IntKind.i64.wrap (((l.map Step.enc).length:Int)+1)=(l.length:Int)+1:=by rw [List.length_map,wrap64 (by omega) (by omega)]
 refine need_intro (by rw [hw]; omega) ?_;obtain ⟨m1,m2⟩:=hm;have hw2:IntKind.i64.wrap many=many:=wrap64 (by omega) (by omega);obtain ⟨K,hK,hKl⟩:∃ K:Nat,divI .rem .i64 (IntKind.i64.wrap many) (IntKind.i64.wrap (((l.map Step.enc).length:Int)+1))=(K:Int)∧K≤l.length:=by
  rw [hw,hw2];refine ⟨(many % ((l.length:Int)+1)).toNat,?_,?_⟩
  ·simp only [divI];rw [Int.tmod_eq_emod_of_nonneg m1];have:=Int.emod_nonneg many (b:=(l.length:Int)+1) (by omega);omega
  ·have:=Int.emod_lt_of_pos many (b:=(l.length:Int)+1) (by omega);omega
 rw [hK];refine gO Tryz.func3 ?_;refine AWL.loop (κ:=Nat) ([9,11]++rg 49 22) (fun k=>[(11,.d (.int .i64 k)),(9,.d (.int .i64 0))]) (fun k=>[(1,.cells [.d (.sl (l.map Step.enc)),.d (.sl ((onP l k).done.map (.int .i64))),.d (.bool false),.d (.bool false)])]) (fun k=>k≤K) (fun k=>K - k) 0 (Nat.zero_le _) ?_ ?_
 ·(conv=>whnf);repeat (first | exact trivial | (refine sI ?_; conv=>whnf))
  refine And.intro rfl ?_;(conv=>whnf);repeat (first | exact trivial | (refine sI ?_; conv=>whnf))
  refine And.intro rfl ?_;(conv=>whnf);repeat (first | exact trivial | (refine sI ?_; conv=>whnf))
  refine And.intro rfl ?_;(conv=>whnf);repeat (first | exact trivial | (refine sI ?_; conv=>whnf))
 intro k hk IH;refine AWL.head E_ok Tryz.func3 2000 ?_;(conv=>whnf);refine caseB_split (fun h8=>?_) (fun h8=>?_)
 ·have hlt:k<K:=by simpa using h8
  obtain ⟨x,hx⟩:=some_of_lt (l:=l) (k:=k) (by omega);have e2:=on_next h4 hx;have b2:=take_p h (onP l k) ⟨k,1,x.time,0⟩ hf (by omega) ls lsh;rw [e2] at b2;refine gO Tryz.func3 ?_;refine caseB_true ?_;refine gO Tryz.func3 ?_;refine AWL.drawF E_ok E_mixed 13 2000 (by kernel_rfl) ?_;(conv=>whnf);refine elemP_at (e:=x.enc) (at_map hx) rfl ?_;refine gD ?_;refine callP1_eq (b2) ?_;refine gD ?_;refine gS ?_;refine gO Tryz.func3 ?_;refine AWL.back (IH (k+1) (by omega) (by omega)) ?_;(conv=>whnf);repeat (first | exact trivial | (refine sI ?_; conv=>whnf))
  refine And.intro rfl ?_;(conv=>whnf);repeat (first | exact trivial | (refine sI ?_; conv=>whnf))
  refine And.intro rfl ?_;(conv=>whnf);repeat (first | exact trivial | (refine sI ?_; conv=>whnf))
  refine And.intro rfl ?_;(conv=>whnf);repeat (first | exact trivial | (refine sI ?_; conv=>whnf))
 ·have hge:k=K:=by simp at h8; omega
  subst hge;clear IH hk hK;have hlen:((onP l k).done.map (DV.int .i64)).length=k:=by rw [List.length_map,on_len hKl]
  have s1:=rsameSteps_p l l (by omega) lle;rw [decide_eq_true rfl] at s1;have hv:=on_valid h4 hKl;have r1:=real_p h (onP l k) hf (by omega) ls;have r2:=apply_p h (l.take k) hf (by omega) ⟨fun s hs=>ls.each s (List.mem_of_mem_take hs),by simp; omega⟩;have e5:realH h (onP l k)=applyH h (l.take k):=by unfold realH; rw [if_pos hv]; show applyH h (doneL (onP l k).done l)=_; rw [on_steps hKl]
  have e6:realN h (onP l k)=applyN h (l.take k):=by unfold realN; rw [if_pos hv]; show applyN h (doneL (onP l k).done l)=_; rw [on_steps hKl]
  rw [e5,e6] at r1;have hw4:=validS_iff.1 h4
  have s2:=rsame35_p (applyH h (l.take k)) (applyH h (l.take k)) (apply_lens hhl hk1 (by simp; omega) (fun s hs=>by
   have:=(hw4.2.2.1 s (List.mem_of_mem_take hs)).2.2;simp only [stageB,Bool.and_eq_true,decide_eq_true_eq] at this
   exact this.1.1) (fun s hs=>(lle s (List.mem_of_mem_take hs)).2))
  rw [decide_eq_true rfl] at s2;generalize applyH h (l.take k)=X5 at *;generalize applyN h (l.take k)=N5 at *;refine gO Tryz.func3 ?_;refine caseB_false ?_;refine gO Tryz.func3 ?_;refine caseB_false ?_;refine gO Tryz.func3 ?_;refine callP_eq (s1) ?_;refine gO Tryz.func3 ?_;refine caseB_false ?_;refine gO Tryz.func3 ?_;refine caseB_no (by rw [hlen]; simp) ?_;refine gO Tryz.func3 ?_;refine callP_eq (r1) ?_;refine gO Tryz.func3 ?_;refine AWL.drawA E_ok E_mixed 8 2000 (by kernel_rfl) ?_;(conv=>whnf);have hcl:∀ e∈l.map Step.enc,e.cells.length=2:=fun e h=>by
   obtain ⟨x,_,rfl⟩:=List.mem_map.1 h;rfl
  have hE:List.drop ((none:Option Int).getD 0).toNat (List.take ((some ((k:Nat):Int)).getD (((l.map Step.enc).length:Nat):Int)).toNat (l.map Step.enc))=(l.take k).map Step.enc:=by
   simp [List.map_take]
  refine need_intro ⟨by simp,by simp,by simp; omega,hcl⟩ ?_;rw [hE];refine gD ?_;refine callP1_eq (r2) ?_;refine gD ?_;refine gS ?_;refine gO Tryz.func3 ?_;refine caseB_true ?_;refine gO Tryz.func3 ?_;refine caseB_yes (by simp) ?_;refine gO Tryz.func3 ?_;refine callP_eq (s2) ?_;refine gO Tryz.func3 ?_
  with_reducible rfl
theorem ontime_g (h:History) (l:List Step) (many:Int) (g0:h.Good) (g1:l.length≤maxLen∧∀ a∈l,Step.Good a) (g2:U8 many):PCalls E 3 [h.enc,.sl (l.map Step.enc),.int .u8 many] (· = .bool true):=ontime_p h l many g0 g1.2 g2
end Go.Proofs.YtajnanldmhpeaaaGreatDoor.P
