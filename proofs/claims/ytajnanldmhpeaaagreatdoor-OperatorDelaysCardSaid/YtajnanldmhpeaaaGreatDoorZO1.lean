/- Several texts of mine, one behind the other. Conditions: as each says. -/
import Derived.Test.YtajnanldmhpeaaaGreatDoorZN9
set_option linter.unusedVariables false
set_option linter.unusedSimpArgs false
section
namespace Go.Proofs.YtajnanldmhpeaaaGreatDoor.P
open Go Go.Eng
set_option maxRecDepth 100000
set_option maxHeartbeats 4000000
def fewStageB (s:Stage):Bool:=decide (s.puts.length≤20)&&s.puts.all fun p=>fewZ p.zone
theorem rfewStage_p (s:Stage):PCalls E 39 [s.enc] (· = .bool (fewStageB s)):=by
 obtain ⟨l⟩:=s;unfold fewStageB;simp only;show PCalls E _ [DV.agg [.sl (l.map Placed.enc)]] _;refine eP Tryz.func39 ?_;refine AWL.loop (κ:=Nat) (rg 2 21) (fun k=>[(3,.d (.int .i64 k))]) (fun _=>[]) (fun k=>k≤l.length∧k≤20∧(l.take k).all (fun p=>fewZ p.zone)=true) (fun k=>l.length - k) 0 ⟨Nat.zero_le _,by omega,rfl⟩ ?_ ?_
 ·(conv=>whnf);repeat (first | exact trivial | (refine sI ?_; conv=>whnf))
 intro k hk IH;refine AWL.head E_ok Tryz.func39 2000 ?_;(conv=>whnf);refine caseB_split (fun h5=>?_) (fun h5=>?_)
 ·have hlt:k<l.length:=by simpa using h5
  refine gO Tryz.func39 ?_;refine caseB_split (fun h6=>?_) (fun h6=>?_)
  ·have h20:k<20:=by have:=of_decide_eq_true h6; omega
   obtain ⟨x,hx⟩:=some_of_lt hlt;refine gO Tryz.func39 ?_;refine elemP_at (e:=x.enc) (at_map hx) rfl ?_;refine gO Tryz.func39 ?_
   with_reducible refine callP_eq (rfewZ_p x.zone) ?_
   refine gO Tryz.func39 ?_;cases hz:fewZ x.zone
   ·refine caseB_true ?_;refine gO Tryz.func39 ?_;rw [all_no (p:=fun p=>fewZ p.zone) hx hz,Bool.and_false]
   ·refine caseB_false ?_;refine gO Tryz.func39 ?_;refine AWL.back (IH (k+1) ⟨by omega,by omega,all_next (p:=fun p=>fewZ p.zone) hk.2.2 hx hz⟩ (by omega)) ?_;(conv=>whnf);repeat (first | exact trivial | (refine sI ?_; conv=>whnf))
  ·have h20:¬ k<20:=by have:=of_decide_eq_false h6; omega
   have hk2:=hk.2.1;have hle:¬ l.length≤20:=by omega
   refine gO Tryz.func39 ?_;rw [decide_eq_false hle,Bool.false_and];simp;omega
 ·have hge:l.length≤k:=by simpa using h5
  have hk2:=hk.2.1;have hle:l.length≤20:=by omega
  rw [all_end (p:=fun p=>fewZ p.zone) hk.2.2 hge,decide_eq_true hle];refine gO Tryz.func39 ?_;refine caseB_false ?_;refine gO Tryz.func39 ?_;have:decide (((l.map Placed.enc).length:Int)≤20)=true:=by simp; omega
  rw [this];rfl
def fewStepsB (l:List Step):Bool:=decide (l.length≤20)&&l.all fun s=>fewStageB s.stage
theorem rfewSteps_p (l:List Step):PCalls E 16 [.sl (l.map Step.enc)] (· = .bool (fewStepsB l)):=by
 unfold fewStepsB;refine eP Tryz.func16 ?_;refine AWL.loop (κ:=Nat) (rg 2 19) (fun k=>[(3,.d (.int .i64 k))]) (fun _=>[]) (fun k=>k≤l.length∧k≤20∧(l.take k).all (fun p=>fewStageB p.stage)=true) (fun k=>l.length - k) 0 ⟨Nat.zero_le _,by omega,rfl⟩ ?_ ?_
 ·(conv=>whnf);repeat (first | exact trivial | (refine sI ?_; conv=>whnf))
 intro k hk IH;refine AWL.head E_ok Tryz.func16 2000 ?_;(conv=>whnf);refine caseB_split (fun h5=>?_) (fun h5=>?_)
 ·have hlt:k<l.length:=by simpa using h5
  refine gO Tryz.func16 ?_;refine caseB_split (fun h6=>?_) (fun h6=>?_)
  ·have h20:k<20:=by have:=of_decide_eq_true h6; omega
   obtain ⟨x,hx⟩:=some_of_lt hlt;refine gO Tryz.func16 ?_;refine elemP_at (e:=x.enc) (at_map hx) rfl ?_;refine gO Tryz.func16 ?_
   with_reducible refine callP_eq (rfewStage_p x.stage) ?_
   refine gO Tryz.func16 ?_;cases hz:fewStageB x.stage
   ·refine caseB_true ?_;refine gO Tryz.func16 ?_;rw [all_no (p:=fun p=>fewStageB p.stage) hx hz,Bool.and_false]
   ·refine caseB_false ?_;refine gO Tryz.func16 ?_;refine AWL.back (IH (k+1) ⟨by omega,by omega,all_next (p:=fun p=>fewStageB p.stage) hk.2.2 hx hz⟩ (by omega)) ?_;(conv=>whnf);repeat (first | exact trivial | (refine sI ?_; conv=>whnf))
  ·have h20:¬ k<20:=by have:=of_decide_eq_false h6; omega
   have hk2:=hk.2.1;have hle:¬ l.length≤20:=by omega
   refine gO Tryz.func16 ?_;rw [decide_eq_false hle,Bool.false_and];simp;omega
 ·have hge:l.length≤k:=by simpa using h5
  have hk2:=hk.2.1;have hle:l.length≤20:=by omega
  rw [all_end (p:=fun p=>fewStageB p.stage) hk.2.2 hge,decide_eq_true hle];refine gO Tryz.func16 ?_;refine caseB_false ?_;refine gO Tryz.func16 ?_;have:decide (((l.map Step.enc).length:Int)≤20)=true:=by simp; omega
  rw [this];rfl
end Go.Proofs.YtajnanldmhpeaaaGreatDoor.P
end
section
namespace Go.Proofs.YtajnanldmhpeaaaGreatDoor.P
open Go Go.Eng
set_option maxRecDepth 100000
set_option maxHeartbeats 4000000
def fewC (c:Copy):Bool:=fewZ c.zone && !(decide ((c.zone.apex.length:Int)>100))
def fewN (x:Host):Bool := !(decide ((x.name.length:Int)>100))
def fewL (a b c d:Nat):Bool:=decide (a≤20)&&decide (b≤70)&&decide (c≤20)&&decide (d≤20)
def fewH (h:History):Bool:=(h.copies.take 21).all fewC&&(h.hosts.take 71).all fewN&&fewL h.copies.length h.hosts.length h.hints.length h.anchor.data.length
theorem rfew21_p (h:History):PCalls E 15 [h.enc] (· = .bool (fewH h)):=by
 obtain ⟨hosts,copies,anchor,hints,drift,fin⟩:=h;unfold fewH;simp only;show PCalls E _ [DV.agg [.sl (hosts.map Host.enc),.sl (copies.map Copy.enc),.str anchor.name,.int .i64 anchor.type,.int .i64 anchor.life,.sl (anchor.data.map Datum.enc),.sl (hints.map (.int .i64)),.int .i64 drift,.int .i64 fin]] _;refine eP Tryz.func15 ?_;refine AWL.loop (κ:=Nat) ([2,3]++rg 5 30) (fun k=>[(3,.d (.int .i64 k))]) (fun _=>[]) (fun k=>k≤copies.length∧k≤21∧(copies.take k).all fewC=true) (fun k=>copies.length - k) 0 ⟨Nat.zero_le _,by omega,rfl⟩ ?_ ?_
 ·(conv=>whnf);repeat (first | exact trivial | (refine sI ?_; conv=>whnf))
 intro k hk IH;refine AWL.head E_ok Tryz.func15 2000 ?_;(conv=>whnf);have hk2:=hk.2.1;refine caseB_split (fun h5=>?_) (fun h5=>?_)
 ·have hlt:k<copies.length:=by simpa using h5
  refine gO Tryz.func15 ?_;refine caseB_split (fun h6=>?_) (fun h6=>?_)
  ·have h20:k≤20:=by have:=of_decide_eq_true h6; omega
   obtain ⟨x,hx⟩:=some_of_lt hlt;refine gO Tryz.func15 ?_;refine elemP_at (e:=x.enc) (at_map hx) rfl ?_;refine gO Tryz.func15 ?_
   with_reducible refine callP_eq (rfewZ_p x.zone) ?_
   refine gO Tryz.func15 ?_;cases hz:fewZ x.zone
   ·have hz2:fewC x=false:=by rw [fewC,hz]; rfl
    refine caseB_true ?_;refine gO Tryz.func15 ?_;refine caseB_true ?_;refine gO Tryz.func15 ?_;rw [all_no (k:=k) (by rw [List.getElem?_take,if_pos (by omega)]; exact hx) hz2,Bool.false_and,Bool.false_and]
   ·refine caseB_false ?_;refine gO Tryz.func15 ?_;refine elemP_at (e:=x.enc) (at_map hx) rfl ?_;refine gO Tryz.func15 ?_;refine caseB_split (fun h7=>?_) (fun h7=>?_)
    ·have hz2:fewC x=false:=by rw [fewC,hz,h7]; rfl
     refine gO Tryz.func15 ?_;rw [all_no (k:=k) (by rw [List.getElem?_take,if_pos (by omega)]; exact hx) hz2,Bool.false_and,Bool.false_and]
    ·have hz2:fewC x=true:=by rw [fewC,hz,h7]; rfl
     refine gO Tryz.func15 ?_;refine AWL.back (IH (k+1) ⟨by omega,by omega,all_next hk.2.2 hx hz2⟩ (by omega)) ?_;(conv=>whnf);repeat (first | exact trivial | (refine sI ?_; conv=>whnf))
  ·have h21:k=21:=by have:=of_decide_eq_false h6; omega
   have hcall:(copies.take 21).all fewC=true:=by rw [← h21]; exact hk.2.2
   rw [hcall,Bool.true_and];refine gO Tryz.func15 ?_;refine AWL.loop (κ:=Nat) ([2,4]++rg 35 19) (fun k=>[(4,.d (.int .i64 k))]) (fun _=>[]) (fun k=>k≤hosts.length∧k≤71∧(hosts.take k).all fewN=true) (fun k=>hosts.length - k) 0 ⟨Nat.zero_le _,by omega,rfl⟩ ?_ ?_
   ·(conv=>whnf);repeat (first | exact trivial | (refine sI ?_; conv=>whnf))
   intro j hj JH;refine AWL.head E_ok Tryz.func15 2000 ?_;(conv=>whnf);have hj2:=hj.2.1;refine caseB_split (fun g5=>?_) (fun g5=>?_)
   ·have hlt:j<hosts.length:=by simpa using g5
    refine gO Tryz.func15 ?_;refine caseB_split (fun g6=>?_) (fun g6=>?_)
    ·have h70:j≤70:=by have:=of_decide_eq_true g6; omega
     obtain ⟨x,hx⟩:=some_of_lt hlt;refine gO Tryz.func15 ?_;refine elemP_at (e:=x.enc) (at_map hx) rfl ?_;refine gO Tryz.func15 ?_;refine caseB_split (fun g7=>?_) (fun g7=>?_)
     ·have hz:fewN x=false:=by rw [fewN,g7]; rfl
      refine gO Tryz.func15 ?_;rw [all_no (k:=j) (by rw [List.getElem?_take,if_pos (by omega)]; exact hx) hz,Bool.false_and]
     ·have hz:fewN x=true:=by rw [fewN,g7]; rfl
      refine gO Tryz.func15 ?_;refine AWL.back (JH (j+1) ⟨by omega,by omega,all_next hj.2.2 hx hz⟩ (by omega)) ?_;(conv=>whnf);repeat (first | exact trivial | (refine sI ?_; conv=>whnf))
    ·have h71:j=71:=by have:=of_decide_eq_false g6; omega
     have hall:(hosts.take 71).all fewN=true:=by rw [← h71]; exact hj.2.2
     rw [hall];refine gO Tryz.func15 ?_;clear IH JH;repeat' (first | with_reducible refine cY ?_ | with_reducible refine cN ?_ | with_reducible refine caseB_split (fun _=>?_) (fun _=>?_) | refine gA Tryz.func15 ?_ | refine gB ?_ | refine gC ?_ | with_reducible rfl)
     all_goals
      clear hall hcall hk hj;simp_all [fewL];try (first | omega | (rw [Bool.eq_iff_iff]; simp; omega))
   ·have hge:hosts.length≤j:=by simpa using g5
    have hall:(hosts.take 71).all fewN=true:=by
     have h1:=all_end hj.2.2 hge;rw [List.all_eq_true] at h1 ⊢;exact fun y hy=>h1 y (List.mem_of_mem_take hy)
    rw [hall];refine gO Tryz.func15 ?_;refine caseB_false ?_;refine gO Tryz.func15 ?_;clear IH JH;repeat' (first | with_reducible refine cY ?_ | with_reducible refine cN ?_ | with_reducible refine caseB_split (fun _=>?_) (fun _=>?_) | refine gA Tryz.func15 ?_ | refine gB ?_ | refine gC ?_ | with_reducible rfl)
    all_goals
     clear hall hcall hk hj;simp_all [fewL];try (first | omega | (rw [Bool.eq_iff_iff]; simp; omega))
 ·have hge:copies.length≤k:=by simpa using h5
  have hcall:(copies.take 21).all fewC=true:=by
   have h1:=all_end hk.2.2 hge;rw [List.all_eq_true] at h1 ⊢;exact fun y hy=>h1 y (List.mem_of_mem_take hy)
  rw [hcall,Bool.true_and];refine gO Tryz.func15 ?_;refine caseB_false ?_;refine gO Tryz.func15 ?_;refine AWL.loop (κ:=Nat) ([2,4]++rg 35 19) (fun k=>[(4,.d (.int .i64 k))]) (fun _=>[]) (fun k=>k≤hosts.length∧k≤71∧(hosts.take k).all fewN=true) (fun k=>hosts.length - k) 0 ⟨Nat.zero_le _,by omega,rfl⟩ ?_ ?_
  ·(conv=>whnf);repeat (first | exact trivial | (refine sI ?_; conv=>whnf))
  intro j hj JH;refine AWL.head E_ok Tryz.func15 2000 ?_;(conv=>whnf);have hj2:=hj.2.1;refine caseB_split (fun g5=>?_) (fun g5=>?_)
  ·have hlt:j<hosts.length:=by simpa using g5
   refine gO Tryz.func15 ?_;refine caseB_split (fun g6=>?_) (fun g6=>?_)
   ·have h70:j≤70:=by have:=of_decide_eq_true g6; omega
    obtain ⟨x,hx⟩:=some_of_lt hlt;refine gO Tryz.func15 ?_;refine elemP_at (e:=x.enc) (at_map hx) rfl ?_;refine gO Tryz.func15 ?_;refine caseB_split (fun g7=>?_) (fun g7=>?_)
    ·have hz:fewN x=false:=by rw [fewN,g7]; rfl
     refine gO Tryz.func15 ?_;rw [all_no (k:=j) (by rw [List.getElem?_take,if_pos (by omega)]; exact hx) hz,Bool.false_and]
    ·have hz:fewN x=true:=by rw [fewN,g7]; rfl
     refine gO Tryz.func15 ?_;refine AWL.back (JH (j+1) ⟨by omega,by omega,all_next hj.2.2 hx hz⟩ (by omega)) ?_;(conv=>whnf);repeat (first | exact trivial | (refine sI ?_; conv=>whnf))
   ·have h71:j=71:=by have:=of_decide_eq_false g6; omega
    have hall:(hosts.take 71).all fewN=true:=by rw [← h71]; exact hj.2.2
    rw [hall];refine gO Tryz.func15 ?_;clear IH JH;repeat' (first | with_reducible refine cY ?_ | with_reducible refine cN ?_ | with_reducible refine caseB_split (fun _=>?_) (fun _=>?_) | refine gA Tryz.func15 ?_ | refine gB ?_ | refine gC ?_ | with_reducible rfl)
    all_goals
     clear hall hcall hk hj;simp_all [fewL];try (first | omega | (rw [Bool.eq_iff_iff]; simp; omega))
  ·have hge:hosts.length≤j:=by simpa using g5
   have hall:(hosts.take 71).all fewN=true:=by
    have h1:=all_end hj.2.2 hge;rw [List.all_eq_true] at h1 ⊢;exact fun y hy=>h1 y (List.mem_of_mem_take hy)
   rw [hall];refine gO Tryz.func15 ?_;refine caseB_false ?_;refine gO Tryz.func15 ?_;clear IH JH;repeat' (first | with_reducible refine cY ?_ | with_reducible refine cN ?_ | with_reducible refine caseB_split (fun _=>?_) (fun _=>?_) | refine gA Tryz.func15 ?_ | refine gB ?_ | refine gC ?_ | with_reducible rfl)
   all_goals
    clear hall hcall hk hj;simp_all [fewL];try (first | omega | (rw [Bool.eq_iff_iff]; simp; omega))
end Go.Proofs.YtajnanldmhpeaaaGreatDoor.P
end
section
namespace Go.Proofs.YtajnanldmhpeaaaGreatDoor.P
open Go Go.Eng
set_option maxRecDepth 100000
set_option maxHeartbeats 4000000
def repB (fin:Int) (r:Report):Bool := !(decide (r.kind<1)) && !(decide (r.kind>4)) && !(decide (r.time<0)) && !(decide (r.time≥fin))&&(if r.kind==2||r.kind==4 then decide (r.by_≥1)&&decide (r.by_≤10000000) else r.by_==0)
def formB (p:Progress):Bool:=decide (p.steps.length≤400)&&decide (p.done.length≤p.steps.length)
theorem rform_p (p:Progress):PCalls E 73 [p.enc] (· = .bool (formB p)):=by
 obtain ⟨st,dn,pa,ov⟩:=p;unfold formB;simp only;show PCalls E _ [DV.agg [.sl (st.map Step.enc),.sl (dn.map (.int .i64)),.bool pa,.bool ov]] _;refine eP Tryz.func73 ?_;repeat' (first | with_reducible refine cY ?_ | with_reducible refine cN ?_ | with_reducible refine caseB_split (fun _=>?_) (fun _=>?_) | refine gA Tryz.func73 ?_ | refine gB ?_ | refine gC ?_ | with_reducible rfl)
 all_goals simp_all
 all_goals omega
def fewP (p:Progress):Bool:=decide (p.steps.length≤12)&&(decide (p.done.length≤20)&&fewStepsB p.steps)
theorem rfew42_p (p:Progress):PCalls E 72 [p.enc] (· = .bool (fewP p)):=by
 obtain ⟨st,dn,pa,ov⟩:=p;unfold fewP;simp only;show PCalls E _ [DV.agg [.sl (st.map Step.enc),.sl (dn.map (.int .i64)),.bool pa,.bool ov]] _;refine eP Tryz.func72 ?_;repeat' (first | with_reducible refine callP_eq (rfewSteps_p st) ?_ | with_reducible refine callP1_eq (rfewSteps_p st) ?_ | with_reducible refine cY ?_ | with_reducible refine cN ?_ | with_reducible refine caseB_split (fun _=>?_) (fun _=>?_) | refine gA Tryz.func72 ?_ | refine gB ?_ | refine gC ?_ | with_reducible rfl)
 all_goals (cases hz:fewStepsB st <;> simp_all <;> omega)
end Go.Proofs.YtajnanldmhpeaaaGreatDoor.P
end
section
namespace Go.Proofs.YtajnanldmhpeaaaGreatDoor.P
open Go Go.Eng
set_option maxRecDepth 100000
set_option maxHeartbeats 4000000
def beforeB (p:Progress) (t:Int):Bool:=p.steps.all fun s => !(decide (s.time≥t))
end Go.Proofs.YtajnanldmhpeaaaGreatDoor.P
end
section
namespace Go.Proofs.YtajnanldmhpeaaaGreatDoor.P
open Go Go.Eng
set_option maxRecDepth 100000
set_option maxHeartbeats 4000000
def doneOK (fin:Int) (p:Int × Step):Bool := !(decide (p.1<p.2.time)) && !(decide (p.1≥fin))
def doneLt (q p:Int × Step):Bool := !(decide (p.1≤q.1))
def waitB (p:Progress):Bool:=p.done.length==0||p.done.length==p.steps.length||(match p.done[p.done.length - 1]?,p.steps[p.done.length]? with
 |some t,some s=>decide (t<s.time)
 |_,_=>false)
def validP (h:History) (p:Progress):Bool:=formB p&&(validS h p.steps&&(chain (doneOK h.fin) doneLt none (p.done.zip p.steps)&&waitB p))
theorem rvalid42_p (h:History) (p:Progress) (hf:h.Fits) (hk1:h.copies.length≤1000000) (hk2:h.hints.length≤1000000) (hs:Steps.Fits p.steps):PCalls E 25 [h.enc,p.enc] (· = .bool (validP h p)):=by
 have hform:=rform_p p;have hval:=rvalidS_p h p.steps hf hk1 hk2 hs;unfold validP;obtain ⟨hosts,copies,anchor,hints,drift,fin⟩:=h;obtain ⟨st,dn,pa,ov⟩:=p;simp only at hval ⊢;show PCalls E _ [DV.agg [.sl (hosts.map Host.enc),.sl (copies.map Copy.enc),.str anchor.name,.int .i64 anchor.type,.int .i64 anchor.life,.sl (anchor.data.map Datum.enc),.sl (hints.map (.int .i64)),.int .i64 drift,.int .i64 fin],DV.agg [.sl (st.map Step.enc),.sl (dn.map (.int .i64)),.bool pa,.bool ov]] _;refine eP Tryz.func25 ?_
 with_reducible refine callP_eq (hform) ?_
 refine gO Tryz.func25 ?_;cases hfm:formB ⟨st,dn,pa,ov⟩
 ·refine caseB_true ?_;refine gO Tryz.func25 ?_;refine caseB_true ?_;refine gO Tryz.func25 ?_;rfl
 ·refine caseB_false ?_;refine gO Tryz.func25 ?_
  with_reducible refine callP_eq (hval) ?_
  refine gO Tryz.func25 ?_;simp only [formB,Bool.and_eq_true,decide_eq_true_eq] at hfm;obtain ⟨hst,hdl⟩:=hfm;cases hv:validS ⟨hosts,copies,anchor,hints,drift,fin⟩ st
  ·refine caseB_true ?_;refine gO Tryz.func25 ?_;rfl
  ·refine caseB_false ?_;refine gO Tryz.func25 ?_;have hzl:(dn.zip st).length=dn.length:=by rw [List.length_zip]; omega
   refine AWL.loop (κ:=Nat) ([4,5]++rg 17 47) (fun k=>[(5,.d (.int .i64 k))]) (fun _=>[]) (fun k=>k≤dn.length∧chain (doneOK fin) doneLt none (dn.zip st)=chain (doneOK fin) doneLt (prevA (dn.zip st) k) ((dn.zip st).drop k)) (fun k=>dn.length - k) 0 ⟨Nat.zero_le _,rfl⟩ ?_ ?_
   ·(conv=>whnf);repeat (first | exact trivial | (refine sI ?_; conv=>whnf))
   intro k hk IH;refine AWL.head E_ok Tryz.func25 2000 ?_;(conv=>whnf);refine caseB_split (fun h5=>?_) (fun h5=>?_)
   ·have hlt:k<dn.length:=by simpa using h5
    obtain ⟨t,ht⟩:=some_of_lt hlt;obtain ⟨x,hx⟩:=some_of_lt (l:=st) (k:=k) (by omega);have hz:(dn.zip st)[k]? = some (t,x):=by rw [List.getElem?_zip_eq_some]; exact ⟨ht,hx⟩
    have hnext:=chain_next (ok:=doneOK fin) (rel:=doneLt) hz;rw [← hk.2] at hnext;refine gO Tryz.func25 ?_;refine AWL.draw E_ok E_mixed 40 2000 (by kernel_rfl) ?_;(conv=>whnf);rcases Nat.eq_zero_or_pos k with hk0 | hk0
    ·have hpq:prevA (dn.zip st) k=none:=by simp [prevA,hk0]
     rw [hpq] at hnext;dsimp only at hnext;rw [Bool.and_true] at hnext;repeat' (first | with_reducible refine elemP_at (at_map ht) rfl ?_ | with_reducible refine elemP_at (at_map hx) rfl ?_ | with_reducible refine cY ?_ | with_reducible refine cN ?_ | with_reducible refine caseB_split (fun _=>?_) (fun _=>?_) | refine gA Tryz.func25 ?_ | refine gB ?_ | refine gC ?_ | with_reducible rfl)
     all_goals first
      |(have hno : doneOK fin (t, x) = false := by clear hnext hk IH; simp_all [doneOK, doneLt, prevA] <;> (intros; omega)
        rw [hnext, hno];simp
        done)
      |(exfalso; clear hnext hk IH; simp_all; done)
      |skip
     all_goals
      refine gO Tryz.func25 ?_;refine AWL.back (IH (k+1) ⟨by omega,by rw [hnext,show doneOK fin (t,x)=true by clear hnext hk IH; simp_all [doneOK,doneLt,prevA] <;> omega,Bool.true_and]⟩ (by omega)) ?_;(conv=>whnf);repeat (first | exact trivial | (refine sI ?_; conv=>whnf))
    ·obtain ⟨q,hq,hpq⟩:=prevA_some (l:=dn.zip st) hk0 (by omega);rw [hpq] at hnext;have hq1:dn[k - 1]? = some q.1:=by rw [List.getElem?_zip_eq_some] at hq; exact hq.1
     repeat' (first | with_reducible refine elemP_at (at_map ht) rfl ?_ | with_reducible refine elemP_at (at_map hx) rfl ?_ | with_reducible refine elemP_at (at_prev hq1 hk0 (by omega)) rfl ?_ | with_reducible refine cY ?_ | with_reducible refine cN ?_ | with_reducible refine caseB_split (fun _=>?_) (fun _=>?_) | refine gA Tryz.func25 ?_ | refine gB ?_ | refine gC ?_ | with_reducible rfl)
     all_goals first
      |(have hno : (doneOK fin (t, x) && doneLt q (t, x)) = false := by clear hnext hk IH; simp_all [doneOK, doneLt, prevA] <;> (intros; omega)
        rw [hnext, hno];simp
        done)
      |(exfalso; clear hnext hk IH; simp_all; done)
      |skip
     all_goals
      refine gO Tryz.func25 ?_;refine AWL.back (IH (k+1) ⟨by omega,by rw [hnext,show (doneOK fin (t,x)&&doneLt q (t,x))=true by clear hnext hk IH; simp_all [doneOK,doneLt,prevA] <;> omega,Bool.true_and]⟩ (by omega)) ?_;(conv=>whnf);repeat (first | exact trivial | (refine sI ?_; conv=>whnf))
   ·have hge:dn.length≤k:=by simpa using h5
    have hch:chain (doneOK fin) doneLt none (dn.zip st)=true:=by
     rw [hk.2,List.drop_of_length_le (by omega)];cases prevA (dn.zip st) k <;> rfl
    rw [hch];clear hk IH hch;refine gO Tryz.func25 ?_;refine AWL.draw E_ok E_mixed 25 2000 (by kernel_rfl) ?_;(conv=>whnf);by_cases h0:dn.length=0
    ·have hw:waitB ⟨st,dn,pa,ov⟩=true:=by simp [waitB,h0]
     rw [hw];refine caseB_yes (by simp [h0]) ?_;repeat' (first | with_reducible refine cY ?_ | with_reducible refine cN ?_ | with_reducible refine caseB_split (fun _=>?_) (fun _=>?_) | refine gA Tryz.func25 ?_ | refine gB ?_ | refine gC ?_ | with_reducible rfl)
     all_goals rfl
    ·refine caseB_no (by simp [h0]) ?_;refine gD ?_;by_cases h1:dn.length=st.length
     ·have hw:waitB ⟨st,dn,pa,ov⟩=true:=by simp [waitB,h1]
      rw [hw];refine caseB_yes (by simp [h1]) ?_;repeat' (first | with_reducible refine cY ?_ | with_reducible refine cN ?_ | with_reducible refine caseB_split (fun _=>?_) (fun _=>?_) | refine gA Tryz.func25 ?_ | refine gB ?_ | refine gC ?_ | with_reducible rfl)
      all_goals rfl
     ·obtain ⟨x,hx⟩:=some_of_lt (l:=st) (k:=dn.length) (by omega);obtain ⟨t,ht⟩:=some_of_lt (l:=dn) (k:=dn.length - 1) (by omega);have hw:waitB ⟨st,dn,pa,ov⟩=decide (t<x.time):=by simp [waitB,h0,h1,ht,hx]
      rw [hw];refine caseB_no (by simp; omega) ?_;refine gD ?_;have hlast:At1 (dn.map (DV.int .i64)) (IntKind.i64.wrap (((dn.map (DV.int .i64)).length:Int) - 1)) (.int .i64 t):=by
       rw [List.length_map];exact at_prev ht (by omega) (by omega)
      have hnxt:At1 (st.map Step.enc) ((dn.map (DV.int .i64)).length:Int) x.enc:=by
       rw [List.length_map];exact at_map hx
      refine elemP_at (e := .int .i64 t) hlast rfl ?_;refine gD ?_;refine elemP_at (e:=x.enc) hnxt rfl ?_;refine gD ?_;refine gS ?_;refine gO Tryz.func25 ?_;all_goals rfl
end Go.Proofs.YtajnanldmhpeaaaGreatDoor.P
end
section
namespace Go.Proofs.YtajnanldmhpeaaaGreatDoor.P
open Go Go.Eng
set_option maxRecDepth 100000
set_option maxHeartbeats 4000000
def offS (by_:Int) (s:Step):Step:={ s with time:=IntKind.i64.wrap (s.time+by_) }
def offL (n:Nat) (by_:Int) (l:List Step):List Step:=l.mapIdx fun i s=>if i<n then s else offS by_ s
theorem off_len {n:Nat} {by_:Int} {l:List Step}:(offL n by_ l).length=l.length:=by simp [offL]
end Go.Proofs.YtajnanldmhpeaaaGreatDoor.P
end
section
namespace Go.Proofs.YtajnanldmhpeaaaGreatDoor.P
open Go Go.Eng
set_option maxRecDepth 100000
set_option maxHeartbeats 4000000
def doneL (dn:List Int) (l:List Step):List Step:=List.zipWith (fun t s=>{ s with time:=t }) dn l
theorem done_len {dn:List Int} {l:List Step} (h:dn.length≤l.length):(doneL dn l).length=dn.length:=by simp [doneL,Nat.min_eq_left h]
theorem done_at {dn:List Int} {l:List Step} {k:Nat} {t:Int} {x:Step} (h1:dn[k]? = some t) (h2:l[k]? = some x):(doneL dn l)[k]? = some { x with time:=t }:=by
 simp [doneL,List.getElem?_zipWith,h1,h2]
end Go.Proofs.YtajnanldmhpeaaaGreatDoor.P
end
section
namespace Go.Proofs.YtajnanldmhpeaaaGreatDoor.P
open Go Go.Eng
set_option maxRecDepth 100000
set_option maxHeartbeats 4000000
def zeroP:Progress:=⟨[],[],false,false⟩
abbrev PE:=Progress × Int
def PE.enc (r:PE):DV := .tup [r.1.enc,.int .i64 r.2]
def beginR (h:History) (l:List Step):PE:=if validS h l then (⟨l,[],false,false⟩,0) else (zeroP,1)
structure Progress.Lens (p:Progress):Prop where
 steps:p.steps.length≤1000000
 done:p.done.length≤1000000
 each:∀ s∈p.steps,s.stage.puts.length≤1000000∧∀ x∈s.stage.puts,x.zone.Lens
theorem rsame42_p (p q:Progress) (hf:p.Lens):PCalls E 30 [p.enc,q.enc] (· = .bool (decide (p=q))):=by
 obtain ⟨hl,hd,he⟩:=hf;obtain ⟨a,d,pa,ov⟩:=p;obtain ⟨a2,d2,pa2,ov2⟩:=q;simp only at hl hd he;have hsteps:=rsameSteps_p a a2 hl he;have hdec:decide ((⟨a,d,pa,ov⟩:Progress)=⟨a2,d2,pa2,ov2⟩)=(decide (pa=pa2)&&(decide (ov=ov2)&&(decide (d.length=d2.length)&&(decide (a=a2)&&decide (d=d2))))):=by
  rw [Bool.eq_iff_iff];simp;constructor
  ·rintro ⟨h1,h2,h3,h4⟩; exact ⟨h3,h4,by rw [h2],h1,h2⟩
  ·rintro ⟨h3,h4,h5,h1,h2⟩; exact ⟨h1,h2,h3,h4⟩
 rw [hdec];show PCalls E _ [DV.agg [.sl (a.map Step.enc),.sl (d.map (.int .i64)),.bool pa,.bool ov],DV.agg [.sl (a2.map Step.enc),.sl (d2.map (.int .i64)),.bool pa2,.bool ov2]] _;generalize decide (a=a2)=W at *;refine eP Tryz.func30 ?_;refine caseB_split (fun h1=>?_) (fun h1=>?_)
 ·have e:decide (pa=pa2)=false:=by cases pa <;> cases pa2 <;> simp at h1 ⊢
  rw [e];refine gO Tryz.func30 ?_;refine caseB_true ?_;refine gO Tryz.func30 ?_;refine caseB_true ?_;refine gO Tryz.func30 ?_;refine caseB_true ?_;refine gO Tryz.func30 ?_;rfl
 ·have e:decide (pa=pa2)=true:=by cases pa <;> cases pa2 <;> simp at h1 ⊢
  rw [e];refine gO Tryz.func30 ?_;refine caseB_split (fun h2=>?_) (fun h2=>?_)
  ·have e:decide (ov=ov2)=false:=by cases ov <;> cases ov2 <;> simp at h2 ⊢
   rw [e];refine gO Tryz.func30 ?_;refine caseB_true ?_;refine gO Tryz.func30 ?_;refine caseB_true ?_;refine gO Tryz.func30 ?_;rfl
  ·have e:decide (ov=ov2)=true:=by cases ov <;> cases ov2 <;> simp at h2 ⊢
   rw [e];refine gO Tryz.func30 ?_;refine caseB_split (fun h3=>?_) (fun h3=>?_)
   ·have e:decide (d.length=d2.length)=false:=by simp at h3 ⊢; omega
    rw [e];refine gO Tryz.func30 ?_;refine caseB_true ?_;refine gO Tryz.func30 ?_;rfl
   ·have hl2:d.length=d2.length:=by simp at h3; omega
    rw [decide_eq_true hl2];refine gO Tryz.func30 ?_
    with_reducible refine callP_eq (hsteps) ?_
    refine gO Tryz.func30 ?_;cases W
    ·refine caseB_true ?_;refine gO Tryz.func30 ?_;rfl
    ·refine caseB_false ?_;refine gO Tryz.func30 ?_;refine AWL.loop (κ:=Nat) ([4,5]++rg 35 18) (fun k=>[(5,.d (.int .i64 k))]) (fun _=>[]) (fun k=>k≤d.length∧d.take k=d2.take k) (fun k=>d.length - k) 0 ⟨Nat.zero_le _,rfl⟩ ?_ ?_
     ·(conv=>whnf);repeat (first | exact trivial | (refine sI ?_; conv=>whnf))
     intro k hk IH;refine AWL.head E_ok Tryz.func30 2000 ?_;(conv=>whnf);refine caseB_split (fun h7=>?_) (fun h7=>?_)
     ·have hlt:k<d.length:=by simpa using h7
      obtain ⟨u,hu⟩:=some_of_lt hlt;obtain ⟨w,hw⟩:=some_of_lt (l:=d2) (k:=k) (by omega);refine gO Tryz.func30 ?_;refine AWL.draw E_ok E_mixed 11 2000 (by kernel_rfl) ?_;(conv=>whnf);refine elemP_at (e := .int .i64 u) (at_map hu) rfl ?_;refine gD ?_;refine elemP_at (e := .int .i64 w) (at_map hw) rfl ?_;refine gD ?_;refine gS ?_;refine gO Tryz.func30 ?_;refine caseB_split (fun h8=>?_) (fun h8=>?_)
      ·have hne:u≠w:=by rintro rfl; simp at h8
       refine gO Tryz.func30 ?_;rw [decide_eq_false (ne_of_at hu hw hne)];rfl
      ·have e1:u=w:=by simpa using h8
       refine gO Tryz.func30 ?_;refine AWL.back (IH (k+1) ⟨by omega,takeEq_next hk.2 hu hw e1⟩ (by omega)) ?_;(conv=>whnf);repeat (first | exact trivial | (refine sI ?_; conv=>whnf))
     ·have hge:k=d.length:=by simp at h7; omega
      have heb:d=d2:=takeEq_all hk.2 (by omega) (by omega);refine gO Tryz.func30 ?_;simp [heb]
end Go.Proofs.YtajnanldmhpeaaaGreatDoor.P
end
