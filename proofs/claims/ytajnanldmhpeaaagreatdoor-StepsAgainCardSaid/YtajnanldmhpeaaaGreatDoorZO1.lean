/- Several texts of mine, one behind the other. Conditions: as each says. -/
import Derived.Test.YtajnanldmhpeaaaGreatDoorZN9
set_option linter.unusedVariables false
set_option linter.unusedSimpArgs false
section
namespace Go.Proofs.YtajnanldmhpeaaaGreatDoor.P
open Go Go.Eng
set_option maxRecDepth 100000
set_option maxHeartbeats 4000000
def fewStageB (s:Stage):Bool:=decide (s.puts.length≤20)&&s.puts.all fun p=>fewZ p.zone
theorem rfewStage_p (s:Stage):PCalls E 39 [s.enc] (· = .bool (fewStageB s)):=by
 obtain ⟨l⟩:=s;unfold fewStageB;simp only;show PCalls E _ [DV.agg [.sl (l.map Placed.enc)]] _;refine eP Tryz.func39 ?_;refine AWL.loop (κ:=Nat) (rg 2 21) (fun k=>[(3,.d (.int .i64 k))]) (fun _=>[]) (fun k=>k≤l.length∧k≤20∧(l.take k).all (fun p=>fewZ p.zone)=true) (fun k=>l.length - k) 0 ⟨Nat.zero_le _,by omega,rfl⟩ ?_ ?_
 ·(conv=>whnf);repeat (first | exact trivial | (refine sI ?_; conv=>whnf))
 intro k hk IH;refine AWL.head E_ok Tryz.func39 2000 ?_;(conv=>whnf);refine caseB_split (fun h5=>?_) (fun h5=>?_)
 ·have hlt:k<l.length:=by simpa using h5
  refine gO Tryz.func39 ?_;refine caseB_split (fun h6=>?_) (fun h6=>?_)
  ·have h20:k<20:=by have:=of_decide_eq_true h6; omega
   obtain ⟨x,hx⟩:=some_of_lt hlt;refine gO Tryz.func39 ?_;refine elemP_at (e:=x.enc) (at_map hx) rfl ?_;refine gO Tryz.func39 ?_
   with_reducible refine callP_eq (rfewZ_p x.zone) ?_
   refine gO Tryz.func39 ?_;cases hz:fewZ x.zone
   ·refine caseB_true ?_;refine gO Tryz.func39 ?_;rw [all_no (p:=fun p=>fewZ p.zone) hx hz,Bool.and_false]
   ·refine caseB_false ?_;refine gO Tryz.func39 ?_;refine AWL.back (IH (k+1) ⟨by omega,by omega,all_next (p:=fun p=>fewZ p.zone) hk.2.2 hx hz⟩ (by omega)) ?_;(conv=>whnf);repeat (first | exact trivial | (refine sI ?_; conv=>whnf))
  ·have h20:¬ k<20:=by have:=of_decide_eq_false h6; omega
   have hk2:=hk.2.1;have hle:¬ l.length≤20:=by omega
   refine gO Tryz.func39 ?_;rw [decide_eq_false hle,Bool.false_and];simp;omega
 ·have hge:l.length≤k:=by simpa using h5
  have hk2:=hk.2.1;have hle:l.length≤20:=by omega
  rw [all_end (p:=fun p=>fewZ p.zone) hk.2.2 hge,decide_eq_true hle];refine gO Tryz.func39 ?_;refine caseB_false ?_;refine gO Tryz.func39 ?_;have:decide (((l.map Placed.enc).length:Int)≤20)=true:=by simp; omega
  rw [this];rfl
def fewStepsB (l:List Step):Bool:=decide (l.length≤20)&&l.all fun s=>fewStageB s.stage
theorem rfewSteps_p (l:List Step):PCalls E 16 [.sl (l.map Step.enc)] (· = .bool (fewStepsB l)):=by
 unfold fewStepsB;refine eP Tryz.func16 ?_;refine AWL.loop (κ:=Nat) (rg 2 19) (fun k=>[(3,.d (.int .i64 k))]) (fun _=>[]) (fun k=>k≤l.length∧k≤20∧(l.take k).all (fun p=>fewStageB p.stage)=true) (fun k=>l.length - k) 0 ⟨Nat.zero_le _,by omega,rfl⟩ ?_ ?_
 ·(conv=>whnf);repeat (first | exact trivial | (refine sI ?_; conv=>whnf))
 intro k hk IH;refine AWL.head E_ok Tryz.func16 2000 ?_;(conv=>whnf);refine caseB_split (fun h5=>?_) (fun h5=>?_)
 ·have hlt:k<l.length:=by simpa using h5
  refine gO Tryz.func16 ?_;refine caseB_split (fun h6=>?_) (fun h6=>?_)
  ·have h20:k<20:=by have:=of_decide_eq_true h6; omega
   obtain ⟨x,hx⟩:=some_of_lt hlt;refine gO Tryz.func16 ?_;refine elemP_at (e:=x.enc) (at_map hx) rfl ?_;refine gO Tryz.func16 ?_
   with_reducible refine callP_eq (rfewStage_p x.stage) ?_
   refine gO Tryz.func16 ?_;cases hz:fewStageB x.stage
   ·refine caseB_true ?_;refine gO Tryz.func16 ?_;rw [all_no (p:=fun p=>fewStageB p.stage) hx hz,Bool.and_false]
   ·refine caseB_false ?_;refine gO Tryz.func16 ?_;refine AWL.back (IH (k+1) ⟨by omega,by omega,all_next (p:=fun p=>fewStageB p.stage) hk.2.2 hx hz⟩ (by omega)) ?_;(conv=>whnf);repeat (first | exact trivial | (refine sI ?_; conv=>whnf))
  ·have h20:¬ k<20:=by have:=of_decide_eq_false h6; omega
   have hk2:=hk.2.1;have hle:¬ l.length≤20:=by omega
   refine gO Tryz.func16 ?_;rw [decide_eq_false hle,Bool.false_and];simp;omega
 ·have hge:l.length≤k:=by simpa using h5
  have hk2:=hk.2.1;have hle:l.length≤20:=by omega
  rw [all_end (p:=fun p=>fewStageB p.stage) hk.2.2 hge,decide_eq_true hle];refine gO Tryz.func16 ?_;refine caseB_false ?_;refine gO Tryz.func16 ?_;have:decide (((l.map Step.enc).length:Int)≤20)=true:=by simp; omega
  rw [this];rfl
end Go.Proofs.YtajnanldmhpeaaaGreatDoor.P
end
section
namespace Go.Proofs.YtajnanldmhpeaaaGreatDoor.P
open Go Go.Eng
set_option maxRecDepth 100000
set_option maxHeartbeats 4000000
def fewC (c:Copy):Bool:=fewZ c.zone && !(decide ((c.zone.apex.length:Int)>100))
def fewN (x:Host):Bool := !(decide ((x.name.length:Int)>100))
def fewL (a b c d:Nat):Bool:=decide (a≤20)&&decide (b≤70)&&decide (c≤20)&&decide (d≤20)
def fewH (h:History):Bool:=(h.copies.take 21).all fewC&&(h.hosts.take 71).all fewN&&fewL h.copies.length h.hosts.length h.hints.length h.anchor.data.length
theorem rfew21_p (h:History):PCalls E 15 [h.enc] (· = .bool (fewH h)):=by
 obtain ⟨hosts,copies,anchor,hints,drift,fin⟩:=h;unfold fewH;simp only;show PCalls E _ [DV.agg [.sl (hosts.map Host.enc),.sl (copies.map Copy.enc),.str anchor.name,.int .i64 anchor.type,.int .i64 anchor.life,.sl (anchor.data.map Datum.enc),.sl (hints.map (.int .i64)),.int .i64 drift,.int .i64 fin]] _;refine eP Tryz.func15 ?_;refine AWL.loop (κ:=Nat) ([2,3]++rg 5 30) (fun k=>[(3,.d (.int .i64 k))]) (fun _=>[]) (fun k=>k≤copies.length∧k≤21∧(copies.take k).all fewC=true) (fun k=>copies.length - k) 0 ⟨Nat.zero_le _,by omega,rfl⟩ ?_ ?_
 ·(conv=>whnf);repeat (first | exact trivial | (refine sI ?_; conv=>whnf))
 intro k hk IH;refine AWL.head E_ok Tryz.func15 2000 ?_;(conv=>whnf);have hk2:=hk.2.1;refine caseB_split (fun h5=>?_) (fun h5=>?_)
 ·have hlt:k<copies.length:=by simpa using h5
  refine gO Tryz.func15 ?_;refine caseB_split (fun h6=>?_) (fun h6=>?_)
  ·have h20:k≤20:=by have:=of_decide_eq_true h6; omega
   obtain ⟨x,hx⟩:=some_of_lt hlt;refine gO Tryz.func15 ?_;refine elemP_at (e:=x.enc) (at_map hx) rfl ?_;refine gO Tryz.func15 ?_
   with_reducible refine callP_eq (rfewZ_p x.zone) ?_
   refine gO Tryz.func15 ?_;cases hz:fewZ x.zone
   ·have hz2:fewC x=false:=by rw [fewC,hz]; rfl
    refine caseB_true ?_;refine gO Tryz.func15 ?_;refine caseB_true ?_;refine gO Tryz.func15 ?_;rw [all_no (k:=k) (by rw [List.getElem?_take,if_pos (by omega)]; exact hx) hz2,Bool.false_and,Bool.false_and]
   ·refine caseB_false ?_;refine gO Tryz.func15 ?_;refine elemP_at (e:=x.enc) (at_map hx) rfl ?_;refine gO Tryz.func15 ?_;refine caseB_split (fun h7=>?_) (fun h7=>?_)
    ·have hz2:fewC x=false:=by rw [fewC,hz,h7]; rfl
     refine gO Tryz.func15 ?_;rw [all_no (k:=k) (by rw [List.getElem?_take,if_pos (by omega)]; exact hx) hz2,Bool.false_and,Bool.false_and]
    ·have hz2:fewC x=true:=by rw [fewC,hz,h7]; rfl
     refine gO Tryz.func15 ?_;refine AWL.back (IH (k+1) ⟨by omega,by omega,all_next hk.2.2 hx hz2⟩ (by omega)) ?_;(conv=>whnf);repeat (first | exact trivial | (refine sI ?_; conv=>whnf))
  ·have h21:k=21:=by have:=of_decide_eq_false h6; omega
   have hcall:(copies.take 21).all fewC=true:=by rw [← h21]; exact hk.2.2
   rw [hcall,Bool.true_and];refine gO Tryz.func15 ?_;refine AWL.loop (κ:=Nat) ([2,4]++rg 35 19) (fun k=>[(4,.d (.int .i64 k))]) (fun _=>[]) (fun k=>k≤hosts.length∧k≤71∧(hosts.take k).all fewN=true) (fun k=>hosts.length - k) 0 ⟨Nat.zero_le _,by omega,rfl⟩ ?_ ?_
   ·(conv=>whnf);repeat (first | exact trivial | (refine sI ?_; conv=>whnf))
   intro j hj JH;refine AWL.head E_ok Tryz.func15 2000 ?_;(conv=>whnf);have hj2:=hj.2.1;refine caseB_split (fun g5=>?_) (fun g5=>?_)
   ·have hlt:j<hosts.length:=by simpa using g5
    refine gO Tryz.func15 ?_;refine caseB_split (fun g6=>?_) (fun g6=>?_)
    ·have h70:j≤70:=by have:=of_decide_eq_true g6; omega
     obtain ⟨x,hx⟩:=some_of_lt hlt;refine gO Tryz.func15 ?_;refine elemP_at (e:=x.enc) (at_map hx) rfl ?_;refine gO Tryz.func15 ?_;refine caseB_split (fun g7=>?_) (fun g7=>?_)
     ·have hz:fewN x=false:=by rw [fewN,g7]; rfl
      refine gO Tryz.func15 ?_;rw [all_no (k:=j) (by rw [List.getElem?_take,if_pos (by omega)]; exact hx) hz,Bool.false_and]
     ·have hz:fewN x=true:=by rw [fewN,g7]; rfl
      refine gO Tryz.func15 ?_;refine AWL.back (JH (j+1) ⟨by omega,by omega,all_next hj.2.2 hx hz⟩ (by omega)) ?_;(conv=>whnf);repeat (first | exact trivial | (refine sI ?_; conv=>whnf))
    ·have h71:j=71:=by have:=of_decide_eq_false g6; omega
     have hall:(hosts.take 71).all fewN=true:=by rw [← h71]; exact hj.2.2
     rw [hall];refine gO Tryz.func15 ?_;clear IH JH;repeat' (first | with_reducible refine cY ?_ | with_reducible refine cN ?_ | with_reducible refine caseB_split (fun _=>?_) (fun _=>?_) | refine gA Tryz.func15 ?_ | refine gB ?_ | refine gC ?_ | with_reducible rfl)
     all_goals
      clear hall hcall hk hj;simp_all [fewL];try (first | omega | (rw [Bool.eq_iff_iff]; simp; omega))
   ·have hge:hosts.length≤j:=by simpa using g5
    have hall:(hosts.take 71).all fewN=true:=by
     have h1:=all_end hj.2.2 hge;rw [List.all_eq_true] at h1 ⊢;exact fun y hy=>h1 y (List.mem_of_mem_take hy)
    rw [hall];refine gO Tryz.func15 ?_;refine caseB_false ?_;refine gO Tryz.func15 ?_;clear IH JH;repeat' (first | with_reducible refine cY ?_ | with_reducible refine cN ?_ | with_reducible refine caseB_split (fun _=>?_) (fun _=>?_) | refine gA Tryz.func15 ?_ | refine gB ?_ | refine gC ?_ | with_reducible rfl)
    all_goals
     clear hall hcall hk hj;simp_all [fewL];try (first | omega | (rw [Bool.eq_iff_iff]; simp; omega))
 ·have hge:copies.length≤k:=by simpa using h5
  have hcall:(copies.take 21).all fewC=true:=by
   have h1:=all_end hk.2.2 hge;rw [List.all_eq_true] at h1 ⊢;exact fun y hy=>h1 y (List.mem_of_mem_take hy)
  rw [hcall,Bool.true_and];refine gO Tryz.func15 ?_;refine caseB_false ?_;refine gO Tryz.func15 ?_;refine AWL.loop (κ:=Nat) ([2,4]++rg 35 19) (fun k=>[(4,.d (.int .i64 k))]) (fun _=>[]) (fun k=>k≤hosts.length∧k≤71∧(hosts.take k).all fewN=true) (fun k=>hosts.length - k) 0 ⟨Nat.zero_le _,by omega,rfl⟩ ?_ ?_
  ·(conv=>whnf);repeat (first | exact trivial | (refine sI ?_; conv=>whnf))
  intro j hj JH;refine AWL.head E_ok Tryz.func15 2000 ?_;(conv=>whnf);have hj2:=hj.2.1;refine caseB_split (fun g5=>?_) (fun g5=>?_)
  ·have hlt:j<hosts.length:=by simpa using g5
   refine gO Tryz.func15 ?_;refine caseB_split (fun g6=>?_) (fun g6=>?_)
   ·have h70:j≤70:=by have:=of_decide_eq_true g6; omega
    obtain ⟨x,hx⟩:=some_of_lt hlt;refine gO Tryz.func15 ?_;refine elemP_at (e:=x.enc) (at_map hx) rfl ?_;refine gO Tryz.func15 ?_;refine caseB_split (fun g7=>?_) (fun g7=>?_)
    ·have hz:fewN x=false:=by rw [fewN,g7]; rfl
     refine gO Tryz.func15 ?_;rw [all_no (k:=j) (by rw [List.getElem?_take,if_pos (by omega)]; exact hx) hz,Bool.false_and]
    ·have hz:fewN x=true:=by rw [fewN,g7]; rfl
     refine gO Tryz.func15 ?_;refine AWL.back (JH (j+1) ⟨by omega,by omega,all_next hj.2.2 hx hz⟩ (by omega)) ?_;(conv=>whnf);repeat (first | exact trivial | (refine sI ?_; conv=>whnf))
   ·have h71:j=71:=by have:=of_decide_eq_false g6; omega
    have hall:(hosts.take 71).all fewN=true:=by rw [← h71]; exact hj.2.2
    rw [hall];refine gO Tryz.func15 ?_;clear IH JH;repeat' (first | with_reducible refine cY ?_ | with_reducible refine cN ?_ | with_reducible refine caseB_split (fun _=>?_) (fun _=>?_) | refine gA Tryz.func15 ?_ | refine gB ?_ | refine gC ?_ | with_reducible rfl)
    all_goals
     clear hall hcall hk hj;simp_all [fewL];try (first | omega | (rw [Bool.eq_iff_iff]; simp; omega))
  ·have hge:hosts.length≤j:=by simpa using g5
   have hall:(hosts.take 71).all fewN=true:=by
    have h1:=all_end hj.2.2 hge;rw [List.all_eq_true] at h1 ⊢;exact fun y hy=>h1 y (List.mem_of_mem_take hy)
   rw [hall];refine gO Tryz.func15 ?_;refine caseB_false ?_;refine gO Tryz.func15 ?_;clear IH JH;repeat' (first | with_reducible refine cY ?_ | with_reducible refine cN ?_ | with_reducible refine caseB_split (fun _=>?_) (fun _=>?_) | refine gA Tryz.func15 ?_ | refine gB ?_ | refine gC ?_ | with_reducible rfl)
   all_goals
    clear hall hcall hk hj;simp_all [fewL];try (first | omega | (rw [Bool.eq_iff_iff]; simp; omega))
end Go.Proofs.YtajnanldmhpeaaaGreatDoor.P
end
section
namespace Go.Proofs.YtajnanldmhpeaaaGreatDoor.P
open Go Go.Eng
set_option maxRecDepth 100000
set_option maxHeartbeats 4000000
def repB (fin:Int) (r:Report):Bool := !(decide (r.kind<1)) && !(decide (r.kind>4)) && !(decide (r.time<0)) && !(decide (r.time≥fin))&&(if r.kind==2||r.kind==4 then decide (r.by_≥1)&&decide (r.by_≤10000000) else r.by_==0)
def formB (p:Progress):Bool:=decide (p.steps.length≤400)&&decide (p.done.length≤p.steps.length)
end Go.Proofs.YtajnanldmhpeaaaGreatDoor.P
end
section
namespace Go.Proofs.YtajnanldmhpeaaaGreatDoor.P
open Go Go.Eng
set_option maxRecDepth 100000
set_option maxHeartbeats 4000000
end Go.Proofs.YtajnanldmhpeaaaGreatDoor.P
end
section
namespace Go.Proofs.YtajnanldmhpeaaaGreatDoor.P
open Go Go.Eng
set_option maxRecDepth 100000
set_option maxHeartbeats 4000000
def doneOK (fin:Int) (p:Int × Step):Bool := !(decide (p.1<p.2.time)) && !(decide (p.1≥fin))
def doneLt (q p:Int × Step):Bool := !(decide (p.1≤q.1))
def waitB (p:Progress):Bool:=p.done.length==0||p.done.length==p.steps.length||(match p.done[p.done.length - 1]?,p.steps[p.done.length]? with
 |some t,some s=>decide (t<s.time)
 |_,_=>false)
def validP (h:History) (p:Progress):Bool:=formB p&&(validS h p.steps&&(chain (doneOK h.fin) doneLt none (p.done.zip p.steps)&&waitB p))
end Go.Proofs.YtajnanldmhpeaaaGreatDoor.P
end
section
namespace Go.Proofs.YtajnanldmhpeaaaGreatDoor.P
open Go Go.Eng
set_option maxRecDepth 100000
set_option maxHeartbeats 4000000
end Go.Proofs.YtajnanldmhpeaaaGreatDoor.P
end
section
namespace Go.Proofs.YtajnanldmhpeaaaGreatDoor.P
open Go Go.Eng
set_option maxRecDepth 100000
set_option maxHeartbeats 4000000
end Go.Proofs.YtajnanldmhpeaaaGreatDoor.P
end
section
namespace Go.Proofs.YtajnanldmhpeaaaGreatDoor.P
open Go Go.Eng
set_option maxRecDepth 100000
set_option maxHeartbeats 4000000
abbrev PE:=Progress × Int
def PE.enc (r:PE):DV := .tup [r.1.enc,.int .i64 r.2]
structure Progress.Lens (p:Progress):Prop where
 steps:p.steps.length≤1000000
 done:p.done.length≤1000000
 each:∀ s∈p.steps,s.stage.puts.length≤1000000∧∀ x∈s.stage.puts,x.zone.Lens
end Go.Proofs.YtajnanldmhpeaaaGreatDoor.P
end
