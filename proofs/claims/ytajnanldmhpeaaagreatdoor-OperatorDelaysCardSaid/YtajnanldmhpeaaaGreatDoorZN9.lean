/- Several texts of mine, one behind the other. Conditions: as each says. -/
import Derived.Test.YtajnanldmhpeaaaGreatDoorZN8
set_option linter.unusedVariables false
set_option linter.unusedSimpArgs false
section
namespace Go.Proofs.YtajnanldmhpeaaaGreatDoor.P
open Go Go.Eng
set_option maxRecDepth 100000
set_option maxHeartbeats 4000000
end Go.Proofs.YtajnanldmhpeaaaGreatDoor.P
end
section
namespace Go.Proofs.YtajnanldmhpeaaaGreatDoor.P
open Go Go.Eng
set_option maxRecDepth 100000
set_option maxHeartbeats 4000000
end Go.Proofs.YtajnanldmhpeaaaGreatDoor.P
end
section
namespace Go.Proofs.YtajnanldmhpeaaaGreatDoor.P
open Go Go.Eng
set_option maxRecDepth 100000
set_option maxHeartbeats 4000000
end Go.Proofs.YtajnanldmhpeaaaGreatDoor.P
end
section
namespace Go.Proofs.YtajnanldmhpeaaaGreatDoor.P
open Go Go.Eng
set_option maxRecDepth 100000
set_option maxHeartbeats 4000000
end Go.Proofs.YtajnanldmhpeaaaGreatDoor.P
end
section
namespace Go.Proofs.YtajnanldmhpeaaaGreatDoor.P
open Go Go.Eng
set_option maxRecDepth 100000
set_option maxHeartbeats 4000000
theorem rsameStage_p (a b:Stage) (hl:a.puts.length≤1000000) (ha:∀ p∈a.puts,p.zone.Lens):PCalls E 27 [a.enc,b.enc] (· = .bool (decide (a=b))):=by
 obtain ⟨a⟩:=a;obtain ⟨b⟩:=b;simp only at hl ha;have hd:decide ((⟨a⟩:Stage)=⟨b⟩)=decide (a=b):=by simp
 rw [hd];show PCalls E _ [DV.agg [.sl (a.map Placed.enc)],DV.agg [.sl (b.map Placed.enc)]] _;refine eP Tryz.func27 ?_;refine caseB_split (fun h4=>?_) (fun h4=>?_)
 ·refine gO Tryz.func27 ?_;rw [decide_eq_false];rintro rfl;simp at h4
 ·simp only [bne_eq_false_iff_eq,List.length_map] at h4;have hlab:a.length=b.length:=by omega
  refine gO Tryz.func27 ?_;refine AWL.loop (κ:=Nat) ([4,5]++rg 13 36) (fun k=>[(5,.d (.int .i64 k))]) (fun _=>[]) (fun k=>k≤a.length∧a.take k=b.take k) (fun k=>a.length - k) 0 ⟨Nat.zero_le _,rfl⟩ ?_ ?_
  ·(conv=>whnf);repeat (first | exact trivial | (refine sI ?_; conv=>whnf))
  ·intro k hk IH;refine AWL.head E_ok Tryz.func27 2000 ?_;(conv=>whnf);refine caseB_split (fun h5=>?_) (fun h5=>?_)
   ·have hlt:k<a.length:=by simpa using h5
    obtain ⟨x,hx⟩:=some_of_lt hlt;obtain ⟨y,hy⟩:=some_of_lt (l:=b) (k:=k) (by omega);have hxl:=ha x (List.mem_of_getElem? hx);refine gO Tryz.func27 ?_;refine AWL.draw E_ok E_mixed 29 2000 (by kernel_rfl) ?_;(conv=>whnf);refine elemP_at (e:=x.enc) (at_map hx) rfl ?_;refine gD ?_;refine elemP_at (e:=y.enc) (at_map hy) rfl ?_;refine gD ?_;refine caseB_split (fun h6=>?_) (fun h6=>?_)
    ·have hne:x≠y:=by rintro rfl; simp at h6
     refine gD ?_;refine gS ?_;refine gO Tryz.func27 ?_;refine caseB_true ?_;refine gO Tryz.func27 ?_;rw [decide_eq_false (ne_of_at hx hy hne)]
    ·have he:x.host=y.host:=by simpa using h6
     refine gD ?_;refine elemP_at (e:=x.enc) (at_map hx) rfl ?_;refine gD ?_;refine elemP_at (e:=y.enc) (at_map hy) rfl ?_;refine gD ?_;refine callP1_eq (rsameZone_p x.zone y.zone hxl) ?_;refine gD ?_;refine gS ?_;refine gO Tryz.func27 ?_;by_cases hz:x.zone=y.zone
     ·have hxy:x=y:=by
       obtain ⟨x1,x2⟩:=x;obtain ⟨y1,y2⟩:=y;simp only at he hz;rw [he,hz]
      refine caseB_no (by simp [hz]) ?_;refine gO Tryz.func27 ?_;refine AWL.back (IH (k+1) ⟨by omega,takeEq_next hk.2 hx hy hxy⟩ (by omega)) ?_;(conv=>whnf);repeat (first | exact trivial | (refine sI ?_; conv=>whnf))
     ·refine caseB_yes (by simp [hz]) ?_;refine gO Tryz.func27 ?_;rw [decide_eq_false (ne_of_at hx hy (fun e=>hz (e ▸ rfl)))]
   ·have hge:k=a.length:=by simp at h5; omega
    refine gO Tryz.func27 ?_;rw [decide_eq_true (takeEq_all hk.2 (by omega) (by omega))]
theorem rsameSteps_p (a b:List Step) (hl:a.length≤1000000) (ha:∀ s∈a,s.stage.puts.length≤1000000∧∀ p∈s.stage.puts,p.zone.Lens):PCalls E 20 [.sl (a.map Step.enc),.sl (b.map Step.enc)] (· = .bool (decide (a=b))):=by
 refine eP Tryz.func20 ?_;refine caseB_split (fun h4=>?_) (fun h4=>?_)
 ·refine gO Tryz.func20 ?_;rw [decide_eq_false];rintro rfl;simp at h4
 ·simp only [bne_eq_false_iff_eq,List.length_map] at h4;have hlab:a.length=b.length:=by omega
  refine gO Tryz.func20 ?_;refine AWL.loop (κ:=Nat) ([4,5]++rg 11 31) (fun k=>[(5,.d (.int .i64 k))]) (fun _=>[]) (fun k=>k≤a.length∧a.take k=b.take k) (fun k=>a.length - k) 0 ⟨Nat.zero_le _,rfl⟩ ?_ ?_
  ·(conv=>whnf);repeat (first | exact trivial | (refine sI ?_; conv=>whnf))
  ·intro k hk IH;refine AWL.head E_ok Tryz.func20 2000 ?_;(conv=>whnf);refine caseB_split (fun h5=>?_) (fun h5=>?_)
   ·have hlt:k<a.length:=by simpa using h5
    obtain ⟨x,hx⟩:=some_of_lt hlt;obtain ⟨y,hy⟩:=some_of_lt (l:=b) (k:=k) (by omega);have hxl:=ha x (List.mem_of_getElem? hx);refine gO Tryz.func20 ?_;refine AWL.draw E_ok E_mixed 25 2000 (by kernel_rfl) ?_;(conv=>whnf);refine elemP_at (e:=x.enc) (at_map hx) rfl ?_;refine gD ?_;refine elemP_at (e:=y.enc) (at_map hy) rfl ?_;refine gD ?_;refine caseB_split (fun h6=>?_) (fun h6=>?_)
    ·have hne:x≠y:=by rintro rfl; simp at h6
     refine gD ?_;refine gS ?_;refine gO Tryz.func20 ?_;refine caseB_true ?_;refine gO Tryz.func20 ?_;rw [decide_eq_false (ne_of_at hx hy hne)]
    ·have he:x.time=y.time:=by simpa using h6
     refine gD ?_;refine elemP_at (e:=x.enc) (at_map hx) rfl ?_;refine gD ?_;refine elemP_at (e:=y.enc) (at_map hy) rfl ?_;refine gD ?_;refine callP1_eq (rsameStage_p x.stage y.stage hxl.1 hxl.2) ?_;refine gD ?_;refine gS ?_;refine gO Tryz.func20 ?_;by_cases hz:x.stage=y.stage
     ·have hxy:x=y:=by
       obtain ⟨x1,x2⟩:=x;obtain ⟨y1,y2⟩:=y;simp only at he hz;rw [he,hz]
      refine caseB_no (by simp [hz]) ?_;refine gO Tryz.func20 ?_;refine AWL.back (IH (k+1) ⟨by omega,takeEq_next hk.2 hx hy hxy⟩ (by omega)) ?_;(conv=>whnf);repeat (first | exact trivial | (refine sI ?_; conv=>whnf))
     ·refine caseB_yes (by simp [hz]) ?_;refine gO Tryz.func20 ?_;rw [decide_eq_false (ne_of_at hx hy (fun e=>hz (e ▸ rfl)))]
   ·have hge:k=a.length:=by simp at h5; omega
    refine gO Tryz.func20 ?_;rw [decide_eq_true (takeEq_all hk.2 (by omega) (by omega))]
end Go.Proofs.YtajnanldmhpeaaaGreatDoor.P
end
section
namespace Go.Proofs.YtajnanldmhpeaaaGreatDoor.P
open Go Go.Eng
set_option maxRecDepth 100000
set_option maxHeartbeats 4000000
theorem rhosts35_p (a b:List Host) (x y:RSet) (c d:List Int) (hl:a.length≤1000000) (hc:c.length≤1000000) (hx:x.data.length≤2147483648):PCalls E 71 [.agg [.sl (a.map Host.enc),.nilsl,.str x.name,.int .i64 x.type,.int .i64 x.life,.sl (x.data.map Datum.enc),.sl (c.map (.int .i64))],.agg [.sl (b.map Host.enc),.nilsl,.str y.name,.int .i64 y.type,.int .i64 y.life,.sl (y.data.map Datum.enc),.sl (d.map (.int .i64))]] (· = .bool (decide (a=b)&&decide (c=d)&&decide (x=y))):=by
 refine eP Tryz.func71 ?_;refine caseB_split (fun h4=>?_) (fun h4=>?_)
 ·have hne:a≠b:=by rintro rfl; simp at h4
  rw [decide_eq_false hne];refine gO Tryz.func71 ?_;refine caseB_true ?_;refine gO Tryz.func71 ?_;refine caseB_true ?_;refine gO Tryz.func71 ?_;simp
 ·have hab:a.length=b.length:=by simp only [bne_eq_false_iff_eq,List.length_map] at h4; omega
  refine gO Tryz.func71 ?_;refine caseB_split (fun h5=>?_) (fun h5=>?_)
  ·have hne:c≠d:=by rintro rfl; simp at h5
   rw [decide_eq_false hne];refine gO Tryz.func71 ?_;refine caseB_true ?_;refine gO Tryz.func71 ?_;simp
  ·have hcd:c.length=d.length:=by simp only [bne_eq_false_iff_eq,List.length_map] at h5; omega
   refine gO Tryz.func71 ?_
   with_reducible refine callP_eq (rsame_p x y hx) ?_
   refine gO Tryz.func71 ?_;by_cases hxy:x=y
   ·refine caseB_no (by simp [hxy]) ?_;rw [decide_eq_true hxy];refine gO Tryz.func71 ?_;refine AWL.loop (κ:=Nat) ([4,5]++rg 31 18) (fun k=>[(5,.d (.int .i64 k))]) (fun _=>[]) (fun k=>k≤a.length∧a.take k=b.take k) (fun k=>a.length - k) 0 ⟨Nat.zero_le _,rfl⟩ ?_ ?_
    ·(conv=>whnf);repeat (first | exact trivial | (refine sI ?_; conv=>whnf))
    ·intro k hk IH;refine AWL.head E_ok Tryz.func71 2000 ?_;(conv=>whnf);refine caseB_split (fun h6=>?_) (fun h6=>?_)
     ·have hlt:k<a.length:=by simpa using h6
      obtain ⟨u,hu⟩:=some_of_lt hlt;obtain ⟨w,hw⟩:=some_of_lt (l:=b) (k:=k) (by omega);refine gO Tryz.func71 ?_;refine AWL.draw E_ok E_mixed 11 2000 (by kernel_rfl) ?_;(conv=>whnf);refine elemP_at (e:=u.enc) (at_map hu) rfl ?_;refine gD ?_;refine elemP_at (e:=w.enc) (at_map hw) rfl ?_;refine gD ?_;refine gS ?_;refine gO Tryz.func71 ?_;refine caseB_split (fun h7=>?_) (fun h7=>?_)
      ·have hne:u≠w:=by rintro rfl; simp at h7
       refine gO Tryz.func71 ?_;rw [decide_eq_false (ne_of_at hu hw hne)];simp
      ·have he:u=w:=by
        obtain ⟨u1,u2,u3⟩:=u;obtain ⟨w1,w2,w3⟩:=w;simp at h7;simp [h7]
       refine gO Tryz.func71 ?_;refine AWL.back (IH (k+1) ⟨by omega,takeEq_next hk.2 hu hw he⟩ (by omega)) ?_;(conv=>whnf);repeat (first | exact trivial | (refine sI ?_; conv=>whnf))
     ·have hge:k=a.length:=by simp at h6; omega
      have heab:a=b:=takeEq_all hk.2 (by omega) (by omega);rw [decide_eq_true heab];refine gO Tryz.func71 ?_;refine AWL.loop (κ:=Nat) ([4,6]++rg 49 18) (fun k=>[(6,.d (.int .i64 k))]) (fun _=>[]) (fun k=>k≤c.length∧c.take k=d.take k) (fun k=>c.length - k) 0 ⟨Nat.zero_le _,rfl⟩ ?_ ?_
      ·(conv=>whnf);repeat (first | exact trivial | (refine sI ?_; conv=>whnf))
      ·intro k hk IH;refine AWL.head E_ok Tryz.func71 2000 ?_;(conv=>whnf);refine caseB_split (fun h6=>?_) (fun h6=>?_)
       ·have hlt:k<c.length:=by simpa using h6
        obtain ⟨u,hu⟩:=some_of_lt hlt;obtain ⟨w,hw⟩:=some_of_lt (l:=d) (k:=k) (by omega);refine gO Tryz.func71 ?_;refine AWL.draw E_ok E_mixed 11 2000 (by kernel_rfl) ?_;(conv=>whnf);refine elemP_at (e := .int .i64 u) (at_map hu) rfl ?_;refine gD ?_;refine elemP_at (e := .int .i64 w) (at_map hw) rfl ?_;refine gD ?_;refine gS ?_;refine gO Tryz.func71 ?_;refine caseB_split (fun h7=>?_) (fun h7=>?_)
        ·have hne:u≠w:=by rintro rfl; simp at h7
         refine gO Tryz.func71 ?_;rw [decide_eq_false (ne_of_at hu hw hne)];simp
        ·have he:u=w:=by simpa using h7
         refine gO Tryz.func71 ?_;refine AWL.back (IH (k+1) ⟨by omega,takeEq_next hk.2 hu hw he⟩ (by omega)) ?_;(conv=>whnf);repeat (first | exact trivial | (refine sI ?_; conv=>whnf))
       ·have hge:k=c.length:=by simp at h6; omega
        have hecd:c=d:=takeEq_all hk.2 (by omega) (by omega);refine gO Tryz.func71 ?_;simp [hecd]
   ·refine caseB_yes (by simp [hxy]) ?_;rw [decide_eq_false hxy];refine gO Tryz.func71 ?_;simp
end Go.Proofs.YtajnanldmhpeaaaGreatDoor.P
end
section
namespace Go.Proofs.YtajnanldmhpeaaaGreatDoor.P
open Go Go.Eng
set_option maxRecDepth 100000
set_option maxHeartbeats 4000000
structure History.Lens (h:History):Prop where
 hosts:h.hosts.length≤1000000
 copies:h.copies.length≤1000000
 hints:h.hints.length≤1000000
 anchor:h.anchor.data.length≤2147483648
 zones:∀ c∈h.copies,c.zone.Lens
theorem rsame35_p (h g:History) (hf:h.Lens):PCalls E 23 [h.enc,g.enc] (· = .bool (decide (h=g))):=by
 obtain ⟨a,b,x,c,dr,fi⟩:=h;obtain ⟨a2,b2,x2,c2,dr2,fi2⟩:=g;obtain ⟨q1,q2,q3,q4,q5⟩:=hf;simp only at q1 q2 q3 q4 q5;have hd:decide ((⟨a,b,x,c,dr,fi⟩:History)=⟨a2,b2,x2,c2,dr2,fi2⟩)=(decide (dr=dr2)&&decide (fi=fi2)&&(decide (a=a2)&&decide (c=c2)&&decide (x=x2))&&decide (b=b2)):=by
  rw [Bool.eq_iff_iff];simp;constructor
  ·rintro ⟨h1,h2,h3,h4,h5,h6⟩; exact ⟨⟨⟨h5,h6⟩,⟨h1,h4⟩,h3⟩,h2⟩
  ·rintro ⟨⟨⟨h5,h6⟩,⟨h1,h4⟩,h3⟩,h2⟩; exact ⟨h1,h2,h3,h4,h5,h6⟩
 rw [hd];show PCalls E _ [DV.agg [.sl (a.map Host.enc),.sl (b.map Copy.enc),.str x.name,.int .i64 x.type,.int .i64 x.life,.sl (x.data.map Datum.enc),.sl (c.map (.int .i64)),.int .i64 dr,.int .i64 fi],DV.agg [.sl (a2.map Host.enc),.sl (b2.map Copy.enc),.str x2.name,.int .i64 x2.type,.int .i64 x2.life,.sl (x2.data.map Datum.enc),.sl (c2.map (.int .i64)),.int .i64 dr2,.int .i64 fi2]] _;have hho:=rhosts35_p a a2 x x2 c c2 q1 q3 q4;refine eP Tryz.func23 ?_;refine caseB_split (fun h4=>?_) (fun h4=>?_)
 ·have hne:dr≠dr2:=by rintro rfl; simp at h4
  rw [decide_eq_false hne];refine gO Tryz.func23 ?_;refine caseB_true ?_;refine gO Tryz.func23 ?_;refine caseB_true ?_;refine gO Tryz.func23 ?_;refine caseB_true ?_;refine gO Tryz.func23 ?_;simp
 ·have he1:dr=dr2:=by simpa using h4
  rw [decide_eq_true he1];refine gO Tryz.func23 ?_;refine caseB_split (fun h5=>?_) (fun h5=>?_)
  ·have hne:fi≠fi2:=by rintro rfl; simp at h5
   rw [decide_eq_false hne];refine gO Tryz.func23 ?_;refine caseB_true ?_;refine gO Tryz.func23 ?_;refine caseB_true ?_;refine gO Tryz.func23 ?_;simp
  ·have he2:fi=fi2:=by simpa using h5
   rw [decide_eq_true he2];refine gO Tryz.func23 ?_;refine caseB_split (fun h6=>?_) (fun h6=>?_)
   ·have hne:b≠b2:=by rintro rfl; simp at h6
    rw [decide_eq_false hne];refine gO Tryz.func23 ?_;refine caseB_true ?_;refine gO Tryz.func23 ?_;simp
   ·have hbb:b.length=b2.length:=by simp only [bne_eq_false_iff_eq,List.length_map] at h6; omega
    refine gO Tryz.func23 ?_
    with_reducible refine callP_eq (hho) ?_
    refine gO Tryz.func23 ?_;generalize (decide (a=a2)&&decide (c=c2)&&decide (x=x2))=W at *;cases W
    ·refine caseB_true ?_;refine gO Tryz.func23 ?_;simp
    ·refine caseB_false ?_;refine gO Tryz.func23 ?_;refine AWL.loop (κ:=Nat) (rg 4 4++rg 47 44) (fun k=>[(5,.d (.int .i64 k))]) (fun _=>[]) (fun k=>k≤b.length∧b.take k=b2.take k) (fun k=>b.length - k) 0 ⟨Nat.zero_le _,rfl⟩ ?_ ?_
     ·(conv=>whnf);repeat (first | exact trivial | (refine sI ?_; conv=>whnf))
     ·intro k hk IH;refine AWL.head E_ok Tryz.func23 2000 ?_;(conv=>whnf);refine caseB_split (fun h7=>?_) (fun h7=>?_)
      ·have hlt:k<b.length:=by simpa using h7
       obtain ⟨u,hu⟩:=some_of_lt hlt;obtain ⟨w,hw⟩:=some_of_lt (l:=b2) (k:=k) (by omega);have hul:=q5 u (List.mem_of_getElem? hu);refine gO Tryz.func23 ?_;refine elemP_at (e:=u.enc) (at_map hu) rfl ?_;refine gO Tryz.func23 ?_;refine elemP_at (e:=w.enc) (at_map hw) rfl ?_;refine gO Tryz.func23 ?_;refine caseB_split (fun h8=>?_) (fun h8=>?_)
       ·have hne:u≠w:=by rintro rfl; simp at h8
        refine gO Tryz.func23 ?_;refine caseB_true ?_;refine gO Tryz.func23 ?_;refine caseB_true ?_;refine gO Tryz.func23 ?_;refine caseB_true ?_;refine gO Tryz.func23 ?_;rw [decide_eq_false (ne_of_at hu hw hne)];simp
       ·have e1:u.host=w.host:=by simpa using h8
        refine gO Tryz.func23 ?_;refine caseB_split (fun h9=>?_) (fun h9=>?_)
        ·have hne:u≠w:=by rintro rfl; simp at h9
         refine gO Tryz.func23 ?_;refine caseB_true ?_;refine gO Tryz.func23 ?_;refine caseB_true ?_;refine gO Tryz.func23 ?_;rw [decide_eq_false (ne_of_at hu hw hne)];simp
        ·have e2:u.frm=w.frm:=by simpa using h9
         refine gO Tryz.func23 ?_;refine caseB_split (fun h10=>?_) (fun h10=>?_)
         ·have hne:u≠w:=by rintro rfl; simp at h10
          refine gO Tryz.func23 ?_;refine caseB_true ?_;refine gO Tryz.func23 ?_;rw [decide_eq_false (ne_of_at hu hw hne)];simp
         ·have e3:u.upto=w.upto:=by simpa using h10
          refine gO Tryz.func23 ?_
          with_reducible refine callP_eq (rsameZone_p u.zone w.zone hul) ?_
          refine gO Tryz.func23 ?_;by_cases hz:u.zone=w.zone
          ·have he:u=w:=by
            obtain ⟨u1,u2,u3,u4⟩:=u;obtain ⟨w1,w2,w3,w4⟩:=w;simp only at e1 e2 e3 hz;rw [e1,e2,e3,hz]
           refine caseB_no (by simp [hz]) ?_;refine gO Tryz.func23 ?_;refine AWL.back (IH (k+1) ⟨by omega,takeEq_next hk.2 hu hw he⟩ (by omega)) ?_;(conv=>whnf);repeat (first | exact trivial | (refine sI ?_; conv=>whnf))
          ·have hne:u≠w:=fun e=>hz (e ▸ rfl);refine caseB_yes (by simp [hz]) ?_;refine gO Tryz.func23 ?_;rw [decide_eq_false (ne_of_at hu hw hne)];simp
      ·have hge:k=b.length:=by simp at h7; omega
       have heb:b=b2:=takeEq_all hk.2 (by omega) (by omega);refine gO Tryz.func23 ?_;simp [heb]
end Go.Proofs.YtajnanldmhpeaaaGreatDoor.P
end
