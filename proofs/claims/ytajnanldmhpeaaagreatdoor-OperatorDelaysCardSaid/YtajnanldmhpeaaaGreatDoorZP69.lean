/- The laws of package operator: what is few, and the example. Conditions: lengths that Go allows. -/
import Derived.Test.YtajnanldmhpeaaaGreatDoorZP68
import Derived.Test.YtajnanldmhpeaaaGreatDoorZM7
set_option linter.unusedVariables false
set_option linter.unusedSimpArgs false
namespace Go.Proofs.YtajnanldmhpeaaaGreatDoor.P
open Go Go.Eng
set_option maxRecDepth 100000
set_option maxHeartbeats 4000000
theorem fewZ_of {z:Zone} (hg:z.Good) (h:fewZ z=true):z.Fits∧z.Short∧z.Lens:=by
 simp only [fewZ,Bool.and_eq_true,decide_eq_true_eq] at h;obtain ⟨h1,h2⟩:=h;rw [List.take_of_length_le (by omega)] at h1;have he:∀ s∈z.sets,s.set.data.length≤20∧s.sigs.length≤20:=fun s hs=>by
  have:=List.all_eq_true.1 h1 s hs;simp [few1] at this;omega
 refine ⟨⟨hg.1,fun s hs=>⟨((hg.2.2 s hs).1).1,by have:=he s hs; omega,fun d hd=>(((hg.2.2 s hs).1).2.2.2.2 d hd).1⟩⟩,⟨by omega,fun s hs=>by have:=he s hs; omega⟩,⟨by omega,fun s hs=>⟨by have:=he s hs; omega,by have:=he s hs; omega⟩⟩⟩
theorem fewH_of {h:History} (hg:h.Good) (hf:fewH h=true):h.Fits∧h.copies.length≤20∧h.hints.length≤1000000∧h.Lens:=by
 simp only [fewH,fewL,Bool.and_eq_true,decide_eq_true_eq] at hf;obtain ⟨⟨h1,h2⟩,⟨⟨h3,h4⟩,h5⟩,h6⟩:=hf;rw [List.take_of_length_le (by omega)] at h1 h2;obtain ⟨g1,g2,g3,g4,g5⟩:=hg;have hz:∀ c∈h.copies,c.zone.Fits∧c.zone.Short∧c.zone.Lens:=fun c hc=>by
  have:=List.all_eq_true.1 h1 c hc;simp only [fewC,Bool.and_eq_true] at this;exact fewZ_of (g2.2 c hc).2.2.2 this.1
 refine ⟨⟨fun x hx=>(g1.2 x hx).1,⟨g3.1,by omega,fun d hd=>(g3.2.2.2.2 d hd).1⟩,g4.1,fun c hc=>(hz c hc).1⟩,h3,by omega,⟨by omega,by omega,by omega,by omega,fun c hc=>(hz c hc).2.2⟩⟩
theorem fewSteps_of {l:List Step} (hg:∀ s∈l,s.Good) (hf:fewStepsB l=true):Steps.Fits l∧l.length≤20∧(∀ s∈l,s.stage.puts.length≤1000000∧∀ x∈s.stage.puts,x.zone.Short)∧(∀ s∈l,s.stage.puts.length≤1000000∧∀ x∈s.stage.puts,x.zone.Lens):=by
 simp only [fewStepsB,Bool.and_eq_true,decide_eq_true_eq] at hf;obtain ⟨h1,h2⟩:=hf;have hp:∀ s∈l,s.stage.puts.length≤20∧∀ x∈s.stage.puts,x.zone.Fits∧x.zone.Short∧x.zone.Lens:=fun s hs=>by
  have:=List.all_eq_true.1 h2 s hs;simp only [fewStageB,Bool.and_eq_true,decide_eq_true_eq] at this;exact ⟨this.1,fun x hx=>fewZ_of (((hg s hs).2).2 x hx).2 (List.all_eq_true.1 this.2 x hx)⟩
 exact ⟨⟨fun s hs=>⟨fun x hx=>((hp s hs).2 x hx).1,by have:=(hp s hs).1; omega⟩,by omega⟩,h1,fun s hs=>⟨by have:=(hp s hs).1; omega,fun x hx=>((hp s hs).2 x hx).2.1⟩,fun s hs=>⟨by have:=(hp s hs).1; omega,fun x hx=>((hp s hs).2 x hx).2.2⟩⟩
theorem fewP_of {p:Progress} (hg:p.Good) (hf:fewP p=true):Steps.Fits p.steps∧p.steps.length≤12∧p.done.length≤20∧(∀ s∈p.steps,s.stage.puts.length≤1000000∧∀ x∈s.stage.puts,x.zone.Short)∧p.Lens:=by
 simp only [fewP,Bool.and_eq_true,decide_eq_true_eq] at hf;obtain ⟨h1,h2,h3⟩:=hf;obtain ⟨k1,k2,k3,k4⟩:=fewSteps_of hg.1.2 h3;exact ⟨k1,h1,h2,k3,⟨by omega,by omega,k4⟩⟩
theorem fits_map {l l':List Step} (h:l'.map (·.stage)=l.map (·.stage)) (hf:Steps.Fits l):Steps.Fits l':=by
 have hlen:l'.length=l.length:=by have:=congrArg List.length h; simpa using this
 refine ⟨fun s hs=>?_,by rw [hlen]; exact hf.few⟩;have:s.stage∈l.map (·.stage):=by rw [← h]; exact List.mem_map_of_mem hs
 obtain ⟨x,hx,e⟩:=List.mem_map.1 this;rw [← e];exact hf.each x hx
theorem each_map {P:Stage→Prop} {l l':List Step} (h:l'.map (·.stage)=l.map (·.stage)) (hf:∀ s∈l,P s.stage):∀ s∈l',P s.stage:=fun s hs=>by
 have:s.stage∈l.map (·.stage):=by rw [← h]; exact List.mem_map_of_mem hs
 obtain ⟨x,hx,e⟩:=List.mem_map.1 this;rw [← e];exact hf x hx
theorem off_stage {n:Nat} {by_:Int} {l:List Step}:(offL n by_ l).map (·.stage)=l.map (·.stage):=by
 apply List.ext_getElem?;intro i;rw [List.getElem?_map,List.getElem?_map,offL,List.getElem?_mapIdx];cases l[i]? with
 |none=>rfl
 |some x =>
  simp only [Option.map_some];split <;> rfl
def exH:History:=⟨[⟨[97,46,110,115],1,0⟩],[],⟨[46],6,60,[⟨[],1,1⟩]⟩,[1],0,100⟩
def exL:List Step:=[⟨10,⟨[]⟩⟩,⟨30,⟨[]⟩⟩,⟨60,⟨[]⟩⟩]
theorem example_p:PCalls E 46 [] (· = .tup [exH.enc,.sl (exL.map Step.enc)]):=by
 refine PCalls.nrm ?_;refine eP Tryz.func46 ?_;rfl
theorem times_p (p:Progress) (hl:p.steps.length≤1000000):PCalls E 47 [p.enc] (· = .sl ((p.steps.map (·.time)).map (.int .i64))):=by
 obtain ⟨l,dn,pa,ov⟩:=p;simp only at hl;show PCalls E _ [DV.agg [.sl (l.map Step.enc),.sl (dn.map (.int .i64)),.bool pa,.bool ov]] _;refine eP Tryz.func47 ?_;refine AWL.adopt 3 (3,1) (by decide) rfl ?_;(conv=>whnf);refine AWL.loop (κ:=Nat) ([3,5]++rg 9 10) (fun k=>[(9,.d (.int .i64 k)),(3,.own 1 1)]) (fun k=>[(1,.arr 1 (3,1) (((l.map (·.time)).take k).map (.int .i64)))]) (fun k=>k≤l.length) (fun k=>l.length - k) 0 (Nat.zero_le _) ?_ ?_
 ·(conv=>whnf);repeat (first | exact trivial | (refine sI ?_; conv=>whnf))
  refine And.intro rfl ?_;(conv=>whnf);repeat (first | exact trivial | (refine sI ?_; conv=>whnf))
 intro k hk IH;refine AWL.head E_ok Tryz.func47 2000 ?_;(conv=>whnf);refine caseB_split (fun h5=>?_) (fun h5=>?_)
 ·have hlt:k<l.length:=by simpa using h5
  obtain ⟨x,hx⟩:=some_of_lt hlt;have hx2:(l.map (·.time))[k]? = some x.time:=by rw [List.getElem?_map,hx]; rfl
  have hnx:=take_next hx2;have hln:((l.map (·.time)).take k).length≤1000000:=by simp; omega
  refine gO Tryz.func47 ?_;refine elemP_at (e:=x.enc) (at_map hx) rfl ?_;refine gO Tryz.func47 ?_;refine need_intro ⟨by simp; omega,by simp [DV.cells]⟩ ?_;refine gO Tryz.func47 ?_;refine AWL.back (IH (k+1) (by omega) (by omega)) ?_;rw [hnx];(conv=>whnf);repeat (first | exact trivial | (refine sI ?_; conv=>whnf))
  refine And.intro (by simp) ?_;(conv=>whnf);repeat (first | exact trivial | (refine sI ?_; conv=>whnf))
 ·have hge:l.length≤k:=by simpa using h5
  rw [List.take_of_length_le (by simpa using hge)];refine gO Tryz.func47 ?_
  with_reducible rfl
theorem numbers_p (a b:List Int) (hl:a.length≤1000000):PCalls E 26 [.sl (a.map (.int .i64)),.sl (b.map (.int .i64))] (· = .bool (decide (a=b))):=by
 refine eP Tryz.func26 ?_;refine caseB_split (fun h3=>?_) (fun h3=>?_)
 ·have e:decide (a=b)=false:=by
   rw [decide_eq_false];rintro rfl;simp at h3
  rw [e];refine gO Tryz.func26 ?_
  with_reducible rfl
 ·have hl2:a.length=b.length:=by simp at h3; omega
  refine gO Tryz.func26 ?_;refine AWL.loop (κ:=Nat) ([4,5]++rg 13 13) (fun k=>[(13,.d (.int .i64 k))]) (fun _=>[]) (fun k=>k≤a.length∧a.take k=b.take k) (fun k=>a.length - k) 0 ⟨Nat.zero_le _,rfl⟩ ?_ ?_
  ·(conv=>whnf);repeat (first | exact trivial | (refine sI ?_; conv=>whnf))
  intro k hk IH;refine AWL.head E_ok Tryz.func26 2000 ?_;(conv=>whnf);refine caseB_split (fun h7=>?_) (fun h7=>?_)
  ·have hlt:k<a.length:=by simpa using h7
   obtain ⟨u,hu⟩:=some_of_lt hlt;obtain ⟨w,hw⟩:=some_of_lt (l:=b) (k:=k) (by omega);refine gO Tryz.func26 ?_;refine AWL.draw E_ok E_mixed 9 2000 (by kernel_rfl) ?_;(conv=>whnf);refine elemP_at (e := .int .i64 u) (at_map hu) rfl ?_;refine gD ?_;refine elemP_at (e := .int .i64 w) (at_map hw) rfl ?_;refine gD ?_;refine gS ?_;refine gO Tryz.func26 ?_;refine caseB_split (fun h8=>?_) (fun h8=>?_)
   ·have hne:u≠w:=by rintro rfl; simp at h8
    refine gO Tryz.func26 ?_;rw [decide_eq_false (ne_of_at hu hw hne)]
   ·have e1:u=w:=by simpa using h8
    refine gO Tryz.func26 ?_;refine AWL.back (IH (k+1) ⟨by omega,takeEq_next hk.2 hu hw e1⟩ (by omega)) ?_;(conv=>whnf);repeat (first | exact trivial | (refine sI ?_; conv=>whnf))
  ·have hge:k=a.length:=by simp at h7; omega
   have heb:a=b:=takeEq_all hk.2 (by omega) (by omega);refine gO Tryz.func26 ?_;simp [heb]
def exP:Progress:=⟨exL,[],false,false⟩
def exA:Progress:=⟨[⟨10,⟨[]⟩⟩,⟨34,⟨[]⟩⟩,⟨64,⟨[]⟩⟩],[14],false,false⟩
def exB:Progress:=⟨[⟨10,⟨[]⟩⟩,⟨40,⟨[]⟩⟩,⟨70,⟨[]⟩⟩],[14],false,false⟩
def exC:Progress:=⟨[⟨10,⟨[]⟩⟩,⟨50,⟨[]⟩⟩,⟨80,⟨[]⟩⟩],[14],false,false⟩
def exQ:Progress:=⟨[⟨10,⟨[]⟩⟩,⟨50,⟨[]⟩⟩,⟨80,⟨[]⟩⟩],[14],true,false⟩
def exR:Progress:=⟨[⟨10,⟨[]⟩⟩,⟨55,⟨[]⟩⟩,⟨85,⟨[]⟩⟩],[14],false,false⟩
theorem ex1:beginR exH exL=(exP,0):=by decide +kernel
theorem ex2:takeR exH exP ⟨0,1,14,0⟩=(exA,0):=by decide +kernel
theorem ex3:takeR exH exA ⟨1,2,20,6⟩=(exB,0):=by decide +kernel
theorem ex4:takeR exH exB ⟨1,4,41,9⟩=(exC,0):=by decide +kernel
theorem ex5:takeR exH exC ⟨1,1,49,0⟩=(zeroP,32):=by decide +kernel
theorem ex6:takeR exH exC ⟨1,2,42,20⟩=(zeroP,36):=by decide +kernel
theorem ex7:takeR exH exC ⟨2,1,90,0⟩=(zeroP,6):=by decide +kernel
theorem ex8:pauseR exC=(exQ,0):=by decide +kernel
theorem ex9:takeR exH exQ ⟨1,1,50,0⟩=(zeroP,6):=by decide +kernel
theorem ex10:resumeR exQ 5=(exR,0):=by decide +kernel
theorem ex11:realN exH exC=0:=by decide +kernel
theorem exH_fits:exH.Fits:=by
 refine ⟨fun x hx=>?_,⟨maxLen_big (by decide),by decide,fun d hd=>?_⟩,maxLen_big (by decide),fun c hc=>by simp [exH] at hc⟩
 ·simp [exH] at hx; subst hx; exact maxLen_big (by decide)
 ·simp [exH] at hd; subst hd; exact maxLen_big (by decide)
theorem ex_steps {l:List Step} (h:l.length≤3) (hp:∀ s∈l,s.stage.puts=[]):Steps.Fits l∧(∀ s∈l,s.stage.puts.length≤1000000∧∀ x∈s.stage.puts,x.zone.Short) :=
 ⟨⟨fun s hs=>⟨fun x hx=>by rw [hp s hs] at hx; simp at hx,by rw [hp s hs]; simp⟩,by omega⟩,fun s hs=>⟨by rw [hp s hs]; simp,fun x hx=>by rw [hp s hs] at hx; simp at hx⟩⟩
theorem ex_take {p:Progress} (r:Report) {q:PE} (h:p.steps.length≤3) (hp:∀ s∈p.steps,s.stage.puts=[]) (e:takeR exH p r=q):PCalls E 19 [exH.enc,p.enc,r.enc] (· = PE.enc q):=by
 rw [← e];exact take_p exH p r exH_fits (by decide) (ex_steps h hp).1 (ex_steps h hp).2
theorem no_puts {l:List Step} (h:l.all (fun s=>s.stage.puts.isEmpty)=true):∀ s∈l,s.stage.puts=[]:=fun s hs=>by
 have:=List.all_eq_true.1 h s hs
 simpa using this
theorem head42_p:PCalls E 14 [] (· = .bool true):=by
 have hL:=ex_steps (l:=exL) (by decide) (no_puts (by decide));have c1:PCalls E 18 [exH.enc,.sl (exL.map Step.enc)] (· = PE.enc (exP,0)):=by
  rw [← ex1];exact begin_p exH exL exH_fits (by decide) hL.1 (fun s hs=>(hL.2 s hs).2)
 have c2:=ex_take ⟨0,1,14,0⟩ (by decide) (no_puts (by decide)) ex2;have c3:=ex_take ⟨1,2,20,6⟩ (by decide) (no_puts (by decide)) ex3;have c4:=ex_take ⟨1,4,41,9⟩ (by decide) (no_puts (by decide)) ex4;have c5:=ex_take ⟨1,1,49,0⟩ (by decide) (no_puts (by decide)) ex5;have c6:=ex_take ⟨1,2,42,20⟩ (by decide) (no_puts (by decide)) ex6;have c7:=ex_take ⟨2,1,90,0⟩ (by decide) (no_puts (by decide)) ex7;have c8:PCalls E 28 [exC.enc] (· = PE.enc (exQ,0)):=by
  rw [← ex8];exact pause_p exC (by decide) (ex_steps (by decide) (no_puts (by decide))).2
 have c9:=ex_take ⟨1,1,50,0⟩ (by decide) (no_puts (by decide)) ex9;have c10:PCalls E 29 [exQ.enc,.int .i64 5] (· = PE.enc (exR,0)):=by
  rw [← ex10];exact resume_p exQ 5 (by decide) (ex_steps (by decide) (no_puts (by decide))).2
 have c11:PCalls E 21 [exH.enc,exC.enc] (· = .tup [(realH exH exC).enc,.int .i64 0]):=by
  have:=real_p exH exC exH_fits (by decide) (ex_steps (by decide) (no_puts (by decide))).1;rw [ex11] at this;exact this
 refine eP Tryz.func14 ?_;refine callP_eq (example_p) ?_;refine gO Tryz.func14 ?_;refine callP_eq (c1) ?_;refine gO Tryz.func14 ?_;refine callP_eq (c2) ?_;refine gO Tryz.func14 ?_;refine callP_eq (c3) ?_;refine gO Tryz.func14 ?_;refine callP_eq (c4) ?_;refine gO Tryz.func14 ?_;refine callP_eq (c5) ?_;refine gO Tryz.func14 ?_;refine callP_eq (c6) ?_;refine gO Tryz.func14 ?_;refine callP_eq (c7) ?_;refine gO Tryz.func14 ?_;refine callP_eq (c8) ?_;refine gO Tryz.func14 ?_;refine callP_eq (c9) ?_;refine gO Tryz.func14 ?_;refine callP_eq (c10) ?_;refine gO Tryz.func14 ?_;refine callP_eq (c11) ?_;refine gO Tryz.func14 ?_;repeat' (first | with_reducible refine cY ?_ | with_reducible refine cN ?_ | with_reducible refine caseB_split (fun _=>?_) (fun _=>?_) | refine gA Tryz.func14 ?_ | refine gB ?_ | refine gC ?_ | with_reducible rfl)
 refine callP_eq (times_p exA (by decide)) ?_;refine gO Tryz.func14 ?_;refine callP_eq (numbers_p (exA.steps.map (·.time)) [10,34,64] (by decide)) ?_;refine gO Tryz.func14 ?_;refine caseB_yes (by decide) ?_;refine gO Tryz.func14 ?_;refine callP_eq (times_p exB (by decide)) ?_;refine gO Tryz.func14 ?_;refine callP_eq (numbers_p (exB.steps.map (·.time)) [10,40,70] (by decide)) ?_;refine gO Tryz.func14 ?_;refine caseB_yes (by decide) ?_;refine gO Tryz.func14 ?_;refine callP_eq (times_p exC (by decide)) ?_;refine gO Tryz.func14 ?_;refine callP_eq (numbers_p (exC.steps.map (·.time)) [10,50,80] (by decide)) ?_;refine gO Tryz.func14 ?_;refine caseB_yes (by decide) ?_;refine gO Tryz.func14 ?_;refine callP_eq (numbers_p exC.done [14] (by decide)) ?_;refine gO Tryz.func14 ?_;refine caseB_yes (by decide) ?_;refine gO Tryz.func14 ?_;refine callP_eq (times_p exR (by decide)) ?_;refine gO Tryz.func14 ?_;refine callP_eq (numbers_p (exR.steps.map (·.time)) [10,55,85] (by decide)) ?_;refine gO Tryz.func14 ?_;rfl
end Go.Proofs.YtajnanldmhpeaaaGreatDoor.P
