/- Several texts of mine, one behind the other. Conditions: as each says. -/
import Derived.Test.YtajnanldmhpeaaaGreatDoorZN8
set_option linter.unusedVariables false
set_option linter.unusedSimpArgs false
section
namespace Go.Proofs.YtajnanldmhpeaaaGreatDoor.P
open Go Go.Eng
set_option maxRecDepth 100000
set_option maxHeartbeats 4000000
end Go.Proofs.YtajnanldmhpeaaaGreatDoor.P
end
section
namespace Go.Proofs.YtajnanldmhpeaaaGreatDoor.P
open Go Go.Eng
set_option maxRecDepth 100000
set_option maxHeartbeats 4000000
def placedOf (l:List Copy):List Placed:=l.map fun c=>⟨c.host,c.zone⟩
theorem rapexes16_p (l:List Placed) (hl:l.length≤1000000):PCalls E 99 [.sl (l.map Placed.enc)] (· = .sl ((nub [] (l.map (·.zone.apex))).map .str)):=by
 refine eP Tryz.func99 ?_;refine AWL.adopt 3 (9,1) (by decide) rfl ?_;(conv=>whnf);refine AWL.loop (κ:=Nat) (rg 3 41) (fun k=>[(4,.d (.int .i64 k)),(3,.own 0 1)]) (fun k=>[(0,.arr 1 (9,1) ((nub [] ((l.map (·.zone.apex)).take k)).map .str))]) (fun k=>k≤l.length) (fun k=>l.length - k) 0 (Nat.zero_le _) ?_ ?_
 ·(conv=>whnf);repeat (first | exact trivial | (refine sI ?_; conv=>whnf))
  refine And.intro rfl ?_;(conv=>whnf);repeat (first | exact trivial | (refine sI ?_; conv=>whnf))
 intro k hk IH;refine AWL.head E_ok Tryz.func99 2000 ?_;(conv=>whnf);refine caseB_split (fun h5=>?_) (fun h5=>?_)
 ·have hlt:k<l.length:=by simpa using h5
  obtain ⟨c,hc⟩:=some_of_lt hlt;have hT1:(l.map (·.zone.apex))[k]? = some c.zone.apex:=by simp [hc]
  have hnx:=nub_next hT1;have hln:=nub_len_le (l:=(l.map (·.zone.apex)).take k) (acc:=[]);have hmm:c.zone.apex∈nub [] ((l.map (·.zone.apex)).take k)↔c.zone.apex∈(l.map (·.zone.apex)).take k:=by rw [nub_mem]; simp
  rw [List.length_take,List.length_map,List.length_nil] at hln;generalize nub [] ((l.map (·.zone.apex)).take k)=C at *;refine gO Tryz.func99 ?_;refine AWL.loop (κ:=Nat) ([5,6]++rg 13 20) (fun j=>[(6,.d (.int .i64 j)),(5,.d (.bool (decide (c.zone.apex∈C.take j))))]) (fun j=>[]) (fun j=>j≤C.length) (fun j=>C.length - j) 0 (Nat.zero_le _) ?_ ?_
  ·(conv=>whnf);repeat (first | exact trivial | (refine sI ?_; conv=>whnf))
   refine And.intro (by simp) ?_;(conv=>whnf);repeat (first | exact trivial | (refine sI ?_; conv=>whnf))
  intro j hj JH;refine AWL.head E_ok Tryz.func99 2000 ?_;(conv=>whnf);refine caseB_split (fun h6=>?_) (fun h6=>?_)
  ·have hjlt:j<C.length:=by simpa using h6
   obtain ⟨t,ht⟩:=some_of_lt hjlt;have hb:0≤(j:Int)∧(j:Int)<((C.map DV.str).length:Int):=⟨by omega,by simp; omega⟩;have hmem:(c.zone.apex∈C.take (j+1))↔(c.zone.apex∈C.take j∨t=c.zone.apex):=by rw [take_next ht,List.mem_append]; simp [eq_comm]
   refine gO Tryz.func99 ?_;refine AWL.draw E_ok E_mixed 15 2000 (by kernel_rfl) ?_;(conv=>whnf);by_cases hm:c.zone.apex∈C.take j
   ·refine caseB_yes (decide_eq_true hm) ?_;have e1:decide (c.zone.apex∈C.take (j+1))=true:=by simp [hmem,hm]
    refine gD ?_;refine gS ?_;refine gO Tryz.func99 ?_;refine AWL.back (JH (j+1) (by omega) (by omega)) ?_;rw [e1];(conv=>whnf);repeat (first | exact trivial | (refine sI ?_; conv=>whnf))
   ·refine caseB_no (decide_eq_false hm) ?_;have e1:decide (c.zone.apex∈C.take (j+1))=(t==c.zone.apex):=by rw [Bool.eq_iff_iff]; simp [hmem,hm]
    refine gD ?_;refine need_intro hb ?_;refine gD ?_;refine elemP_at (e := .str t) (at_map ht) rfl ?_;refine gD ?_;refine elemP_at (e:=c.enc) (at_map hc) rfl ?_;refine gD ?_;refine gS ?_;refine gO Tryz.func99 ?_;refine AWL.back (JH (j+1) (by omega) (by omega)) ?_;rw [e1];(conv=>whnf);repeat (first | exact trivial | (refine sI ?_; conv=>whnf))
  ·have hge:C.length≤j:=by simpa using h6
   rw [List.take_of_length_le hge];refine gO Tryz.func99 ?_;by_cases hm:c.zone.apex∈C
   ·refine caseB_no (by simp [hm]) ?_;refine gO Tryz.func99 ?_;refine AWL.back (IH (k+1) (by omega) (by omega)) ?_;rw [hnx,if_pos (hmm.1 hm)];(conv=>whnf);repeat (first | exact trivial | (refine sI ?_; conv=>whnf))
   ·refine caseB_yes (by simp [hm]) ?_;refine gO Tryz.func99 ?_;refine elemP_at (e:=c.enc) (at_map hc) rfl ?_;refine gO Tryz.func99 ?_;refine need_intro ⟨by simp; omega,by simp [DV.cells]⟩ ?_;refine gO Tryz.func99 ?_;refine AWL.back (IH (k+1) (by omega) (by omega)) ?_;rw [hnx,if_neg (fun e=>hm (hmm.2 e))];(conv=>whnf);repeat (first | exact trivial | (refine sI ?_; conv=>whnf))
    refine And.intro (by simp) ?_;(conv=>whnf);repeat (first | exact trivial | (refine sI ?_; conv=>whnf))
 ·have hge:l.length≤k:=by simpa using h5
  rw [List.take_of_length_le (by simpa using hge)];refine gO Tryz.func99 ?_
  with_reducible rfl
end Go.Proofs.YtajnanldmhpeaaaGreatDoor.P
end
section
namespace Go.Proofs.YtajnanldmhpeaaaGreatDoor.P
open Go Go.Eng
set_option maxRecDepth 100000
set_option maxHeartbeats 4000000
end Go.Proofs.YtajnanldmhpeaaaGreatDoor.P
end
section
namespace Go.Proofs.YtajnanldmhpeaaaGreatDoor.P
open Go Go.Eng
set_option maxRecDepth 100000
set_option maxHeartbeats 4000000
end Go.Proofs.YtajnanldmhpeaaaGreatDoor.P
end
section
namespace Go.Proofs.YtajnanldmhpeaaaGreatDoor.P
open Go Go.Eng
set_option maxRecDepth 100000
set_option maxHeartbeats 4000000
end Go.Proofs.YtajnanldmhpeaaaGreatDoor.P
end
section
namespace Go.Proofs.YtajnanldmhpeaaaGreatDoor.P
open Go Go.Eng
set_option maxRecDepth 100000
set_option maxHeartbeats 4000000
theorem rhosts35_p (a b:List Host) (x y:RSet) (c d:List Int) (hl:a.length≤1000000) (hc:c.length≤1000000) (hx:x.data.length≤2147483648):PCalls E 71 [.agg [.sl (a.map Host.enc),.nilsl,.str x.name,.int .i64 x.type,.int .i64 x.life,.sl (x.data.map Datum.enc),.sl (c.map (.int .i64))],.agg [.sl (b.map Host.enc),.nilsl,.str y.name,.int .i64 y.type,.int .i64 y.life,.sl (y.data.map Datum.enc),.sl (d.map (.int .i64))]] (· = .bool (decide (a=b)&&decide (c=d)&&decide (x=y))):=by
 refine eP Tryz.func71 ?_;refine caseB_split (fun h4=>?_) (fun h4=>?_)
 ·have hne:a≠b:=by rintro rfl; simp at h4
  rw [decide_eq_false hne];refine gO Tryz.func71 ?_;refine caseB_true ?_;refine gO Tryz.func71 ?_;refine caseB_true ?_;refine gO Tryz.func71 ?_;simp
 ·have hab:a.length=b.length:=by simp only [bne_eq_false_iff_eq,List.length_map] at h4; omega
  refine gO Tryz.func71 ?_;refine caseB_split (fun h5=>?_) (fun h5=>?_)
  ·have hne:c≠d:=by rintro rfl; simp at h5
   rw [decide_eq_false hne];refine gO Tryz.func71 ?_;refine caseB_true ?_;refine gO Tryz.func71 ?_;simp
  ·have hcd:c.length=d.length:=by simp only [bne_eq_false_iff_eq,List.length_map] at h5; omega
   refine gO Tryz.func71 ?_
   with_reducible refine callP_eq (rsame_p x y hx) ?_
   refine gO Tryz.func71 ?_;by_cases hxy:x=y
   ·refine caseB_no (by simp [hxy]) ?_;rw [decide_eq_true hxy];refine gO Tryz.func71 ?_;refine AWL.loop (κ:=Nat) ([4,5]++rg 31 18) (fun k=>[(5,.d (.int .i64 k))]) (fun _=>[]) (fun k=>k≤a.length∧a.take k=b.take k) (fun k=>a.length - k) 0 ⟨Nat.zero_le _,rfl⟩ ?_ ?_
    ·(conv=>whnf);repeat (first | exact trivial | (refine sI ?_; conv=>whnf))
    ·intro k hk IH;refine AWL.head E_ok Tryz.func71 2000 ?_;(conv=>whnf);refine caseB_split (fun h6=>?_) (fun h6=>?_)
     ·have hlt:k<a.length:=by simpa using h6
      obtain ⟨u,hu⟩:=some_of_lt hlt;obtain ⟨w,hw⟩:=some_of_lt (l:=b) (k:=k) (by omega);refine gO Tryz.func71 ?_;refine AWL.draw E_ok E_mixed 11 2000 (by kernel_rfl) ?_;(conv=>whnf);refine elemP_at (e:=u.enc) (at_map hu) rfl ?_;refine gD ?_;refine elemP_at (e:=w.enc) (at_map hw) rfl ?_;refine gD ?_;refine gS ?_;refine gO Tryz.func71 ?_;refine caseB_split (fun h7=>?_) (fun h7=>?_)
      ·have hne:u≠w:=by rintro rfl; simp at h7
       refine gO Tryz.func71 ?_;rw [decide_eq_false (ne_of_at hu hw hne)];simp
      ·have he:u=w:=by
        obtain ⟨u1,u2,u3⟩:=u;obtain ⟨w1,w2,w3⟩:=w;simp at h7;simp [h7]
       refine gO Tryz.func71 ?_;refine AWL.back (IH (k+1) ⟨by omega,takeEq_next hk.2 hu hw he⟩ (by omega)) ?_;(conv=>whnf);repeat (first | exact trivial | (refine sI ?_; conv=>whnf))
     ·have hge:k=a.length:=by simp at h6; omega
      have heab:a=b:=takeEq_all hk.2 (by omega) (by omega);rw [decide_eq_true heab];refine gO Tryz.func71 ?_;refine AWL.loop (κ:=Nat) ([4,6]++rg 49 18) (fun k=>[(6,.d (.int .i64 k))]) (fun _=>[]) (fun k=>k≤c.length∧c.take k=d.take k) (fun k=>c.length - k) 0 ⟨Nat.zero_le _,rfl⟩ ?_ ?_
      ·(conv=>whnf);repeat (first | exact trivial | (refine sI ?_; conv=>whnf))
      ·intro k hk IH;refine AWL.head E_ok Tryz.func71 2000 ?_;(conv=>whnf);refine caseB_split (fun h6=>?_) (fun h6=>?_)
       ·have hlt:k<c.length:=by simpa using h6
        obtain ⟨u,hu⟩:=some_of_lt hlt;obtain ⟨w,hw⟩:=some_of_lt (l:=d) (k:=k) (by omega);refine gO Tryz.func71 ?_;refine AWL.draw E_ok E_mixed 11 2000 (by kernel_rfl) ?_;(conv=>whnf);refine elemP_at (e := .int .i64 u) (at_map hu) rfl ?_;refine gD ?_;refine elemP_at (e := .int .i64 w) (at_map hw) rfl ?_;refine gD ?_;refine gS ?_;refine gO Tryz.func71 ?_;refine caseB_split (fun h7=>?_) (fun h7=>?_)
        ·have hne:u≠w:=by rintro rfl; simp at h7
         refine gO Tryz.func71 ?_;rw [decide_eq_false (ne_of_at hu hw hne)];simp
        ·have he:u=w:=by simpa using h7
         refine gO Tryz.func71 ?_;refine AWL.back (IH (k+1) ⟨by omega,takeEq_next hk.2 hu hw he⟩ (by omega)) ?_;(conv=>whnf);repeat (first | exact trivial | (refine sI ?_; conv=>whnf))
       ·have hge:k=c.length:=by simp at h6; omega
        have hecd:c=d:=takeEq_all hk.2 (by omega) (by omega);refine gO Tryz.func71 ?_;simp [hecd]
   ·refine caseB_yes (by simp [hxy]) ?_;rw [decide_eq_false hxy];refine gO Tryz.func71 ?_;simp
end Go.Proofs.YtajnanldmhpeaaaGreatDoor.P
end
section
namespace Go.Proofs.YtajnanldmhpeaaaGreatDoor.P
open Go Go.Eng
set_option maxRecDepth 100000
set_option maxHeartbeats 4000000
structure History.Lens (h:History):Prop where
 hosts:h.hosts.length≤1000000
 copies:h.copies.length≤1000000
 hints:h.hints.length≤1000000
 anchor:h.anchor.data.length≤2147483648
 zones:∀ c∈h.copies,c.zone.Lens
theorem rsame35_p (h g:History) (hf:h.Lens):PCalls E 23 [h.enc,g.enc] (· = .bool (decide (h=g))):=by
 obtain ⟨a,b,x,c,dr,fi⟩:=h;obtain ⟨a2,b2,x2,c2,dr2,fi2⟩:=g;obtain ⟨q1,q2,q3,q4,q5⟩:=hf;simp only at q1 q2 q3 q4 q5;have hd:decide ((⟨a,b,x,c,dr,fi⟩:History)=⟨a2,b2,x2,c2,dr2,fi2⟩)=(decide (dr=dr2)&&decide (fi=fi2)&&(decide (a=a2)&&decide (c=c2)&&decide (x=x2))&&decide (b=b2)):=by
  rw [Bool.eq_iff_iff];simp;constructor
  ·rintro ⟨h1,h2,h3,h4,h5,h6⟩; exact ⟨⟨⟨h5,h6⟩,⟨h1,h4⟩,h3⟩,h2⟩
  ·rintro ⟨⟨⟨h5,h6⟩,⟨h1,h4⟩,h3⟩,h2⟩; exact ⟨h1,h2,h3,h4,h5,h6⟩
 rw [hd];show PCalls E _ [DV.agg [.sl (a.map Host.enc),.sl (b.map Copy.enc),.str x.name,.int .i64 x.type,.int .i64 x.life,.sl (x.data.map Datum.enc),.sl (c.map (.int .i64)),.int .i64 dr,.int .i64 fi],DV.agg [.sl (a2.map Host.enc),.sl (b2.map Copy.enc),.str x2.name,.int .i64 x2.type,.int .i64 x2.life,.sl (x2.data.map Datum.enc),.sl (c2.map (.int .i64)),.int .i64 dr2,.int .i64 fi2]] _;have hho:=rhosts35_p a a2 x x2 c c2 q1 q3 q4;refine eP Tryz.func23 ?_;refine caseB_split (fun h4=>?_) (fun h4=>?_)
 ·have hne:dr≠dr2:=by rintro rfl; simp at h4
  rw [decide_eq_false hne];refine gO Tryz.func23 ?_;refine caseB_true ?_;refine gO Tryz.func23 ?_;refine caseB_true ?_;refine gO Tryz.func23 ?_;refine caseB_true ?_;refine gO Tryz.func23 ?_;simp
 ·have he1:dr=dr2:=by simpa using h4
  rw [decide_eq_true he1];refine gO Tryz.func23 ?_;refine caseB_split (fun h5=>?_) (fun h5=>?_)
  ·have hne:fi≠fi2:=by rintro rfl; simp at h5
   rw [decide_eq_false hne];refine gO Tryz.func23 ?_;refine caseB_true ?_;refine gO Tryz.func23 ?_;refine caseB_true ?_;refine gO Tryz.func23 ?_;simp
  ·have he2:fi=fi2:=by simpa using h5
   rw [decide_eq_true he2];refine gO Tryz.func23 ?_;refine caseB_split (fun h6=>?_) (fun h6=>?_)
   ·have hne:b≠b2:=by rintro rfl; simp at h6
    rw [decide_eq_false hne];refine gO Tryz.func23 ?_;refine caseB_true ?_;refine gO Tryz.func23 ?_;simp
   ·have hbb:b.length=b2.length:=by simp only [bne_eq_false_iff_eq,List.length_map] at h6; omega
    refine gO Tryz.func23 ?_
    with_reducible refine callP_eq (hho) ?_
    refine gO Tryz.func23 ?_;generalize (decide (a=a2)&&decide (c=c2)&&decide (x=x2))=W at *;cases W
    ·refine caseB_true ?_;refine gO Tryz.func23 ?_;simp
    ·refine caseB_false ?_;refine gO Tryz.func23 ?_;refine AWL.loop (κ:=Nat) (rg 4 4++rg 47 44) (fun k=>[(5,.d (.int .i64 k))]) (fun _=>[]) (fun k=>k≤b.length∧b.take k=b2.take k) (fun k=>b.length - k) 0 ⟨Nat.zero_le _,rfl⟩ ?_ ?_
     ·(conv=>whnf);repeat (first | exact trivial | (refine sI ?_; conv=>whnf))
     ·intro k hk IH;refine AWL.head E_ok Tryz.func23 2000 ?_;(conv=>whnf);refine caseB_split (fun h7=>?_) (fun h7=>?_)
      ·have hlt:k<b.length:=by simpa using h7
       obtain ⟨u,hu⟩:=some_of_lt hlt;obtain ⟨w,hw⟩:=some_of_lt (l:=b2) (k:=k) (by omega);have hul:=q5 u (List.mem_of_getElem? hu);refine gO Tryz.func23 ?_;refine elemP_at (e:=u.enc) (at_map hu) rfl ?_;refine gO Tryz.func23 ?_;refine elemP_at (e:=w.enc) (at_map hw) rfl ?_;refine gO Tryz.func23 ?_;refine caseB_split (fun h8=>?_) (fun h8=>?_)
       ·have hne:u≠w:=by rintro rfl; simp at h8
        refine gO Tryz.func23 ?_;refine caseB_true ?_;refine gO Tryz.func23 ?_;refine caseB_true ?_;refine gO Tryz.func23 ?_;refine caseB_true ?_;refine gO Tryz.func23 ?_;rw [decide_eq_false (ne_of_at hu hw hne)];simp
       ·have e1:u.host=w.host:=by simpa using h8
        refine gO Tryz.func23 ?_;refine caseB_split (fun h9=>?_) (fun h9=>?_)
        ·have hne:u≠w:=by rintro rfl; simp at h9
         refine gO Tryz.func23 ?_;refine caseB_true ?_;refine gO Tryz.func23 ?_;refine caseB_true ?_;refine gO Tryz.func23 ?_;rw [decide_eq_false (ne_of_at hu hw hne)];simp
        ·have e2:u.frm=w.frm:=by simpa using h9
         refine gO Tryz.func23 ?_;refine caseB_split (fun h10=>?_) (fun h10=>?_)
         ·have hne:u≠w:=by rintro rfl; simp at h10
          refine gO Tryz.func23 ?_;refine caseB_true ?_;refine gO Tryz.func23 ?_;rw [decide_eq_false (ne_of_at hu hw hne)];simp
         ·have e3:u.upto=w.upto:=by simpa using h10
          refine gO Tryz.func23 ?_
          with_reducible refine callP_eq (rsameZone_p u.zone w.zone hul) ?_
          refine gO Tryz.func23 ?_;by_cases hz:u.zone=w.zone
          ·have he:u=w:=by
            obtain ⟨u1,u2,u3,u4⟩:=u;obtain ⟨w1,w2,w3,w4⟩:=w;simp only at e1 e2 e3 hz;rw [e1,e2,e3,hz]
           refine caseB_no (by simp [hz]) ?_;refine gO Tryz.func23 ?_;refine AWL.back (IH (k+1) ⟨by omega,takeEq_next hk.2 hu hw he⟩ (by omega)) ?_;(conv=>whnf);repeat (first | exact trivial | (refine sI ?_; conv=>whnf))
          ·have hne:u≠w:=fun e=>hz (e ▸ rfl);refine caseB_yes (by simp [hz]) ?_;refine gO Tryz.func23 ?_;rw [decide_eq_false (ne_of_at hu hw hne)];simp
      ·have hge:k=b.length:=by simp at h7; omega
       have heb:b=b2:=takeEq_all hk.2 (by omega) (by omega);refine gO Tryz.func23 ?_;simp [heb]
end Go.Proofs.YtajnanldmhpeaaaGreatDoor.P
end
