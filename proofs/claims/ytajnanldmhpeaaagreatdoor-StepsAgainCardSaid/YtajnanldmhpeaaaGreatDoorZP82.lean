/- Contracts by the engine: the reference of package world: what is few; lists of numbers. Conditions: lengths that Go allows. -/
import Derived.Test.YtajnanldmhpeaaaGreatDoorZP81
set_option linter.unusedVariables false
set_option linter.unusedSimpArgs false
namespace Go.Proofs.YtajnanldmhpeaaaGreatDoor.P
open Go Go.Eng
set_option maxRecDepth 100000
set_option maxHeartbeats 4000000
def fewPl (c:Placed):Bool:=fewZ c.zone && !(decide ((c.zone.apex.length:Int)>100))
def fewW (h:Wld):Bool:=(h.zones.take 21).all fewPl&&(h.hosts.take 71).all fewN&&fewL h.zones.length h.hosts.length h.hints.length h.anchor.data.length
theorem rfew16_p (h:Wld):PCalls E 41 [h.enc] (· = .bool (fewW h)):=by
 obtain ⟨hosts,copies,anchor,hints⟩:=h;unfold fewW;simp only;show PCalls E _ [DV.agg [.sl (hosts.map Host.enc),.sl (copies.map Placed.enc),.str anchor.name,.int .i64 anchor.type,.int .i64 anchor.life,.sl (anchor.data.map Datum.enc),.sl (hints.map (.int .i64))]] _;refine eP Tryz.func41 ?_;refine AWL.loop (κ:=Nat) ([2,3,4]++rg 6 31) (fun k=>[(3,.d (.int .i64 k))]) (fun _=>[]) (fun k=>k≤copies.length∧k≤21∧(copies.take k).all fewPl=true) (fun k=>copies.length - k) 0 ⟨Nat.zero_le _,by omega,rfl⟩ ?_ ?_
 ·(conv=>whnf);repeat (first | exact trivial | (refine sI ?_; conv=>whnf))
 intro k hk IH;refine AWL.head E_ok Tryz.func41 2000 ?_;(conv=>whnf);have hk2:=hk.2.1;refine caseB_split (fun h5=>?_) (fun h5=>?_)
 ·have hlt:k<copies.length:=by simpa using h5
  refine gO Tryz.func41 ?_;refine caseB_split (fun h6=>?_) (fun h6=>?_)
  ·have h20:k≤20:=by have:=of_decide_eq_true h6; omega
   obtain ⟨x,hx⟩:=some_of_lt hlt;refine gO Tryz.func41 ?_;refine elemP_at (e:=x.enc) (at_map hx) rfl ?_;refine gO Tryz.func41 ?_
   with_reducible refine callP_eq (rfewZ_p x.zone) ?_
   refine gO Tryz.func41 ?_;cases hz:fewZ x.zone
   ·have hz2:fewPl x=false:=by rw [fewPl,hz]; rfl
    refine caseB_true ?_;refine gO Tryz.func41 ?_;refine caseB_true ?_;refine gO Tryz.func41 ?_;rw [all_no (k:=k) (by rw [List.getElem?_take,if_pos (by omega)]; exact hx) hz2,Bool.false_and,Bool.false_and]
   ·refine caseB_false ?_;refine gO Tryz.func41 ?_;refine elemP_at (e:=x.enc) (at_map hx) rfl ?_;refine gO Tryz.func41 ?_;refine caseB_split (fun h7=>?_) (fun h7=>?_)
    ·have hz2:fewPl x=false:=by rw [fewPl,hz,h7]; rfl
     refine gO Tryz.func41 ?_;rw [all_no (k:=k) (by rw [List.getElem?_take,if_pos (by omega)]; exact hx) hz2,Bool.false_and,Bool.false_and]
    ·have hz2:fewPl x=true:=by rw [fewPl,hz,h7]; rfl
     refine gO Tryz.func41 ?_;refine AWL.back (IH (k+1) ⟨by omega,by omega,all_next hk.2.2 hx hz2⟩ (by omega)) ?_;(conv=>whnf);repeat (first | exact trivial | (refine sI ?_; conv=>whnf))
  ·have h21:k=21:=by have:=of_decide_eq_false h6; omega
   have hcall:(copies.take 21).all fewPl=true:=by rw [← h21]; exact hk.2.2
   rw [hcall,Bool.true_and];refine gO Tryz.func41 ?_;refine AWL.loop (κ:=Nat) ([2,5]++rg 37 19) (fun k=>[(5,.d (.int .i64 k))]) (fun _=>[]) (fun k=>k≤hosts.length∧k≤71∧(hosts.take k).all fewN=true) (fun k=>hosts.length - k) 0 ⟨Nat.zero_le _,by omega,rfl⟩ ?_ ?_
   ·(conv=>whnf);repeat (first | exact trivial | (refine sI ?_; conv=>whnf))
   intro j hj JH;refine AWL.head E_ok Tryz.func41 2000 ?_;(conv=>whnf);have hj2:=hj.2.1;refine caseB_split (fun g5=>?_) (fun g5=>?_)
   ·have hlt:j<hosts.length:=by simpa using g5
    refine gO Tryz.func41 ?_;refine caseB_split (fun g6=>?_) (fun g6=>?_)
    ·have h70:j≤70:=by have:=of_decide_eq_true g6; omega
     obtain ⟨x,hx⟩:=some_of_lt hlt;refine gO Tryz.func41 ?_;refine elemP_at (e:=x.enc) (at_map hx) rfl ?_;refine gO Tryz.func41 ?_;refine caseB_split (fun g7=>?_) (fun g7=>?_)
     ·have hz:fewN x=false:=by rw [fewN,g7]; rfl
      refine gO Tryz.func41 ?_;rw [all_no (k:=j) (by rw [List.getElem?_take,if_pos (by omega)]; exact hx) hz,Bool.false_and]
     ·have hz:fewN x=true:=by rw [fewN,g7]; rfl
      refine gO Tryz.func41 ?_;refine AWL.back (JH (j+1) ⟨by omega,by omega,all_next hj.2.2 hx hz⟩ (by omega)) ?_;(conv=>whnf);repeat (first | exact trivial | (refine sI ?_; conv=>whnf))
    ·have h71:j=71:=by have:=of_decide_eq_false g6; omega
     have hall:(hosts.take 71).all fewN=true:=by rw [← h71]; exact hj.2.2
     rw [hall];refine gO Tryz.func41 ?_;clear IH JH;repeat' (first | with_reducible refine cY ?_ | with_reducible refine cN ?_ | with_reducible refine caseB_split (fun _=>?_) (fun _=>?_) | refine gA Tryz.func41 ?_ | refine gB ?_ | refine gC ?_ | with_reducible rfl)
     all_goals
      clear hall hcall hk hj;simp_all [fewL];try (first | omega | (rw [Bool.eq_iff_iff]; simp; omega))
   ·have hge:hosts.length≤j:=by simpa using g5
    have hall:(hosts.take 71).all fewN=true:=by
     have h1:=all_end hj.2.2 hge;rw [List.all_eq_true] at h1 ⊢;exact fun y hy=>h1 y (List.mem_of_mem_take hy)
    rw [hall];refine gO Tryz.func41 ?_;refine caseB_false ?_;refine gO Tryz.func41 ?_;clear IH JH;repeat' (first | with_reducible refine cY ?_ | with_reducible refine cN ?_ | with_reducible refine caseB_split (fun _=>?_) (fun _=>?_) | refine gA Tryz.func41 ?_ | refine gB ?_ | refine gC ?_ | with_reducible rfl)
    all_goals
     clear hall hcall hk hj;simp_all [fewL];try (first | omega | (rw [Bool.eq_iff_iff]; simp; omega))
 ·have hge:copies.length≤k:=by simpa using h5
  have hcall:(copies.take 21).all fewPl=true:=by
   have h1:=all_end hk.2.2 hge;rw [List.all_eq_true] at h1 ⊢;exact fun y hy=>h1 y (List.mem_of_mem_take hy)
  rw [hcall,Bool.true_and];refine gO Tryz.func41 ?_;refine caseB_false ?_;refine gO Tryz.func41 ?_;refine AWL.loop (κ:=Nat) ([2,5]++rg 37 19) (fun k=>[(5,.d (.int .i64 k))]) (fun _=>[]) (fun k=>k≤hosts.length∧k≤71∧(hosts.take k).all fewN=true) (fun k=>hosts.length - k) 0 ⟨Nat.zero_le _,by omega,rfl⟩ ?_ ?_
  ·(conv=>whnf);repeat (first | exact trivial | (refine sI ?_; conv=>whnf))
  intro j hj JH;refine AWL.head E_ok Tryz.func41 2000 ?_;(conv=>whnf);have hj2:=hj.2.1;refine caseB_split (fun g5=>?_) (fun g5=>?_)
  ·have hlt:j<hosts.length:=by simpa using g5
   refine gO Tryz.func41 ?_;refine caseB_split (fun g6=>?_) (fun g6=>?_)
   ·have h70:j≤70:=by have:=of_decide_eq_true g6; omega
    obtain ⟨x,hx⟩:=some_of_lt hlt;refine gO Tryz.func41 ?_;refine elemP_at (e:=x.enc) (at_map hx) rfl ?_;refine gO Tryz.func41 ?_;refine caseB_split (fun g7=>?_) (fun g7=>?_)
    ·have hz:fewN x=false:=by rw [fewN,g7]; rfl
     refine gO Tryz.func41 ?_;rw [all_no (k:=j) (by rw [List.getElem?_take,if_pos (by omega)]; exact hx) hz,Bool.false_and]
    ·have hz:fewN x=true:=by rw [fewN,g7]; rfl
     refine gO Tryz.func41 ?_;refine AWL.back (JH (j+1) ⟨by omega,by omega,all_next hj.2.2 hx hz⟩ (by omega)) ?_;(conv=>whnf);repeat (first | exact trivial | (refine sI ?_; conv=>whnf))
   ·have h71:j=71:=by have:=of_decide_eq_false g6; omega
    have hall:(hosts.take 71).all fewN=true:=by rw [← h71]; exact hj.2.2
    rw [hall];refine gO Tryz.func41 ?_;clear IH JH;repeat' (first | with_reducible refine cY ?_ | with_reducible refine cN ?_ | with_reducible refine caseB_split (fun _=>?_) (fun _=>?_) | refine gA Tryz.func41 ?_ | refine gB ?_ | refine gC ?_ | with_reducible rfl)
    all_goals
     clear hall hcall hk hj;simp_all [fewL];try (first | omega | (rw [Bool.eq_iff_iff]; simp; omega))
  ·have hge:hosts.length≤j:=by simpa using g5
   have hall:(hosts.take 71).all fewN=true:=by
    have h1:=all_end hj.2.2 hge;rw [List.all_eq_true] at h1 ⊢;exact fun y hy=>h1 y (List.mem_of_mem_take hy)
   rw [hall];refine gO Tryz.func41 ?_;refine caseB_false ?_;refine gO Tryz.func41 ?_;clear IH JH;repeat' (first | with_reducible refine cY ?_ | with_reducible refine cN ?_ | with_reducible refine caseB_split (fun _=>?_) (fun _=>?_) | refine gA Tryz.func41 ?_ | refine gB ?_ | refine gC ?_ | with_reducible rfl)
   all_goals
    clear hall hcall hk hj;simp_all [fewL];try (first | omega | (rw [Bool.eq_iff_iff]; simp; omega))
end Go.Proofs.YtajnanldmhpeaaaGreatDoor.P
