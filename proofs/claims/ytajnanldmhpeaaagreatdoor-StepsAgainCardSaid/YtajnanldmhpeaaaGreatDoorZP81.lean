/- Contracts by the engine: the reference's comparing of worlds, and small functions of the laws of steps. Conditions: lengths that Go allows. -/
import Derived.Test.YtajnanldmhpeaaaGreatDoorZP80
set_option linter.unusedVariables false
set_option linter.unusedSimpArgs false
namespace Go.Proofs.YtajnanldmhpeaaaGreatDoor.P
open Go Go.Eng
set_option maxRecDepth 100000
set_option maxHeartbeats 4000000
theorem rhostsZ_p (z1 z2:List Placed) (a b:List Host) (x y:RSet) (c d:List Int) (hl:a.length≤1000000) (hc:c.length≤1000000) (hx:x.data.length≤2147483648):PCalls E 71 [.agg [.sl (a.map Host.enc),.sl (z1.map Placed.enc),.str x.name,.int .i64 x.type,.int .i64 x.life,.sl (x.data.map Datum.enc),.sl (c.map (.int .i64))],.agg [.sl (b.map Host.enc),.sl (z2.map Placed.enc),.str y.name,.int .i64 y.type,.int .i64 y.life,.sl (y.data.map Datum.enc),.sl (d.map (.int .i64))]] (· = .bool (decide (a=b)&&decide (c=d)&&decide (x=y))):=by
 refine eP Tryz.func71 ?_;refine caseB_split (fun h4=>?_) (fun h4=>?_)
 ·have hne:a≠b:=by rintro rfl; simp at h4
  rw [decide_eq_false hne];refine gO Tryz.func71 ?_;refine caseB_true ?_;refine gO Tryz.func71 ?_;refine caseB_true ?_;refine gO Tryz.func71 ?_;simp
 ·have hab:a.length=b.length:=by simp only [bne_eq_false_iff_eq,List.length_map] at h4; omega
  refine gO Tryz.func71 ?_;refine caseB_split (fun h5=>?_) (fun h5=>?_)
  ·have hne:c≠d:=by rintro rfl; simp at h5
   rw [decide_eq_false hne];refine gO Tryz.func71 ?_;refine caseB_true ?_;refine gO Tryz.func71 ?_;simp
  ·have hcd:c.length=d.length:=by simp only [bne_eq_false_iff_eq,List.length_map] at h5; omega
   refine gO Tryz.func71 ?_
   with_reducible refine callP_eq (rsame_p x y hx) ?_
   refine gO Tryz.func71 ?_;by_cases hxy:x=y
   ·refine caseB_no (by simp [hxy]) ?_;rw [decide_eq_true hxy];refine gO Tryz.func71 ?_;refine AWL.loop (κ:=Nat) ([4,5]++rg 31 18) (fun k=>[(5,.d (.int .i64 k))]) (fun _=>[]) (fun k=>k≤a.length∧a.take k=b.take k) (fun k=>a.length - k) 0 ⟨Nat.zero_le _,rfl⟩ ?_ ?_
    ·(conv=>whnf);repeat (first | exact trivial | (refine sI ?_; conv=>whnf))
    ·intro k hk IH;refine AWL.head E_ok Tryz.func71 2000 ?_;(conv=>whnf);refine caseB_split (fun h6=>?_) (fun h6=>?_)
     ·have hlt:k<a.length:=by simpa using h6
      obtain ⟨u,hu⟩:=some_of_lt hlt;obtain ⟨w,hw⟩:=some_of_lt (l:=b) (k:=k) (by omega);refine gO Tryz.func71 ?_;refine AWL.draw E_ok E_mixed 11 2000 (by kernel_rfl) ?_;(conv=>whnf);refine elemP_at (e:=u.enc) (at_map hu) rfl ?_;refine gD ?_;refine elemP_at (e:=w.enc) (at_map hw) rfl ?_;refine gD ?_;refine gS ?_;refine gO Tryz.func71 ?_;refine caseB_split (fun h7=>?_) (fun h7=>?_)
      ·have hne:u≠w:=by rintro rfl; simp at h7
       refine gO Tryz.func71 ?_;rw [decide_eq_false (ne_of_at hu hw hne)];simp
      ·have he:u=w:=by
        obtain ⟨u1,u2,u3⟩:=u;obtain ⟨w1,w2,w3⟩:=w;simp at h7;simp [h7]
       refine gO Tryz.func71 ?_;refine AWL.back (IH (k+1) ⟨by omega,takeEq_next hk.2 hu hw he⟩ (by omega)) ?_;(conv=>whnf);repeat (first | exact trivial | (refine sI ?_; conv=>whnf))
     ·have hge:k=a.length:=by simp at h6; omega
      have heab:a=b:=takeEq_all hk.2 (by omega) (by omega);rw [decide_eq_true heab];refine gO Tryz.func71 ?_;refine AWL.loop (κ:=Nat) ([4,6]++rg 49 18) (fun k=>[(6,.d (.int .i64 k))]) (fun _=>[]) (fun k=>k≤c.length∧c.take k=d.take k) (fun k=>c.length - k) 0 ⟨Nat.zero_le _,rfl⟩ ?_ ?_
      ·(conv=>whnf);repeat (first | exact trivial | (refine sI ?_; conv=>whnf))
      ·intro k hk IH;refine AWL.head E_ok Tryz.func71 2000 ?_;(conv=>whnf);refine caseB_split (fun h6=>?_) (fun h6=>?_)
       ·have hlt:k<c.length:=by simpa using h6
        obtain ⟨u,hu⟩:=some_of_lt hlt;obtain ⟨w,hw⟩:=some_of_lt (l:=d) (k:=k) (by omega);refine gO Tryz.func71 ?_;refine AWL.draw E_ok E_mixed 11 2000 (by kernel_rfl) ?_;(conv=>whnf);refine elemP_at (e := .int .i64 u) (at_map hu) rfl ?_;refine gD ?_;refine elemP_at (e := .int .i64 w) (at_map hw) rfl ?_;refine gD ?_;refine gS ?_;refine gO Tryz.func71 ?_;refine caseB_split (fun h7=>?_) (fun h7=>?_)
        ·have hne:u≠w:=by rintro rfl; simp at h7
         refine gO Tryz.func71 ?_;rw [decide_eq_false (ne_of_at hu hw hne)];simp
        ·have he:u=w:=by simpa using h7
         refine gO Tryz.func71 ?_;refine AWL.back (IH (k+1) ⟨by omega,takeEq_next hk.2 hu hw he⟩ (by omega)) ?_;(conv=>whnf);repeat (first | exact trivial | (refine sI ?_; conv=>whnf))
       ·have hge:k=c.length:=by simp at h6; omega
        have hecd:c=d:=takeEq_all hk.2 (by omega) (by omega);refine gO Tryz.func71 ?_;simp [hecd]
   ·refine caseB_yes (by simp [hxy]) ?_;rw [decide_eq_false hxy];refine gO Tryz.func71 ?_;simp
def sameWB (a b:Wld):Bool:=decide (a.hosts=b.hosts)&&decide (a.hints=b.hints)&&decide (a.anchor=b.anchor)&&(decide (a.zones.length=b.zones.length)&&a.zones.all fun x=>b.zones.any fun y=>decide (x=y))
theorem sameWB_refl (a:Wld):sameWB a a=true:=by
 simp only [sameWB,decide_true,Bool.true_and,List.all_eq_true];intro x hx;exact List.any_eq_true.2 ⟨x,hx,decide_eq_true rfl⟩
structure Wld.Lens (w:Wld):Prop where
 hosts:w.hosts.length≤1000000
 zones:w.zones.length≤1000000
 hints:w.hints.length≤1000000
 anchor:w.anchor.data.length≤2147483648
 each:∀ p∈w.zones,p.zone.Lens
theorem anyP_next {α:Type} {P:α→Bool} {l:List α} {k:Nat} {x:α} (h:l[k]? = some x):(l.take (k+1)).any P=((l.take k).any P||P x):=by
 rw [take_next h,List.any_append]; simp
theorem placed_eq (x y:Placed):(decide (x.spot=y.spot)&&decide (x.zone=y.zone))=decide (x=y):=by
 obtain ⟨h1,z1⟩:=x;obtain ⟨h2,z2⟩:=y;rw [Bool.eq_iff_iff];simp [Placed.spot];rintro rfl _;rfl
theorem rsameWorld_p (v w:Wld) (hf:v.Lens) (hw:w.zones.length≤1000000):PCalls E 37 [v.enc,w.enc] (· = .bool (sameWB v w)):=by
 have hho:=rhostsZ_p v.zones w.zones v.hosts w.hosts v.anchor w.anchor v.hints w.hints hf.hosts hf.hints hf.anchor;have hdef:sameWB v w=(decide (v.hosts=w.hosts)&&decide (v.hints=w.hints)&&decide (v.anchor=w.anchor)&&(decide (v.zones.length=w.zones.length)&&v.zones.all fun x=>w.zones.any fun y=>decide (x=y))):=rfl;rw [hdef];generalize (decide (v.hosts=w.hosts)&&decide (v.hints=w.hints)&&decide (v.anchor=w.anchor))=B at *;obtain ⟨f1,f2,f3,f4,f5⟩:=hf;obtain ⟨a,A,x,c⟩:=v;obtain ⟨a2,C,x2,c2⟩:=w;simp only at f1 f2 f3 f4 f5 hw;show PCalls E _ [DV.agg [.sl (a.map Host.enc),.sl (A.map Placed.enc),.str x.name,.int .i64 x.type,.int .i64 x.life,.sl (x.data.map Datum.enc),.sl (c.map (.int .i64))],DV.agg [.sl (a2.map Host.enc),.sl (C.map Placed.enc),.str x2.name,.int .i64 x2.type,.int .i64 x2.life,.sl (x2.data.map Datum.enc),.sl (c2.map (.int .i64))]] (· = DV.bool (B&&(decide (A.length=C.length)&&A.all fun x=>C.any fun y=>decide (x=y))));clear hdef;refine eP Tryz.func37 ?_
 with_reducible refine callP_eq (hho) ?_
 refine gO Tryz.func37 ?_;cases B
 ·repeat' (first | with_reducible refine cY ?_ | with_reducible refine cN ?_ | with_reducible refine caseB_split (fun _=>?_) (fun _=>?_) | refine gA Tryz.func37 ?_ | refine gB ?_ | refine gC ?_ | with_reducible rfl)
  rfl
 refine caseB_false ?_;refine gO Tryz.func37 ?_;refine caseB_split (fun h1=>?_) (fun h1=>?_)
 ·have:A.length≠C.length:=by simp at h1; omega
  repeat' (first | with_reducible refine cY ?_ | with_reducible refine cN ?_ | with_reducible refine caseB_split (fun _=>?_) (fun _=>?_) | refine gA Tryz.func37 ?_ | refine gB ?_ | refine gC ?_ | with_reducible rfl)
  simp [this]
 have hlen:A.length=C.length:=by simp at h1; omega
 have e0:(true&&(decide (A.length=C.length)&&A.all fun x=>C.any fun y=>decide (x=y)))=A.all fun x=>C.any fun y=>decide (x=y):=by simp [hlen]
 rw [e0];refine gO Tryz.func37 ?_;refine AWL.loop (κ:=Nat) (rg 4 4++rg 21 45) (fun k=>[(5,.d (.int .i64 k)),(4,.d (.bool false))]) (fun _=>[]) (fun k=>k≤A.length∧(A.take k).all (fun x=>C.any fun y=>decide (x=y))=true) (fun k=>A.length - k) 0 ⟨Nat.zero_le _,rfl⟩ ?_ ?_
 ·(conv=>whnf);repeat (first | exact trivial | (refine sI ?_; conv=>whnf))
 rintro i ⟨hi,hall⟩ IH;refine AWL.head E_ok Tryz.func37 2000 ?_;(conv=>whnf);refine caseB_split (fun h5=>?_) (fun h5=>?_)
 ·have hlt:i<A.length:=by simpa using h5
  obtain ⟨p,hp⟩:=some_of_lt hlt;have hpl:=f5 p (List.mem_of_getElem? hp);refine gO Tryz.func37 ?_;refine AWL.loop (κ:=Nat) ([6,7]++rg 28 36) (fun k=>[(7,.d (.int .i64 k)),(6,.d (.bool ((C.take k).any fun y=>decide (p=y))))]) (fun _=>[]) (fun k=>k≤C.length) (fun k=>C.length - k) 0 (Nat.zero_le _) ?_ ?_
  ·(conv=>whnf);repeat (first | exact trivial | (refine sI ?_; conv=>whnf))
   refine And.intro rfl ?_;(conv=>whnf);repeat (first | exact trivial | (refine sI ?_; conv=>whnf))
  intro k hk JH;refine AWL.head E_ok Tryz.func37 2000 ?_;(conv=>whnf);refine caseB_split (fun h6=>?_) (fun h6=>?_)
  ·have hklt:k<C.length:=by simpa using h6
   obtain ⟨q,hq⟩:=some_of_lt hklt;have hnext:=anyP_next (P:=fun y=>decide (p=y)) hq;have hpe:=placed_eq p q;refine gO Tryz.func37 ?_;generalize ((C.take k).any fun y=>decide (p=y))=F at *;refine AWL.draw E_ok E_mixed 30 2000 (by kernel_rfl) ?_;(conv=>whnf);cases F
   ·refine caseB_false ?_;refine gD ?_;refine elemP_at (e:=p.enc) (at_map hp) rfl ?_;refine gD ?_;refine elemP_at (e:=q.enc) (at_map hq) rfl ?_;refine gD ?_
    with_reducible refine callP1_eq (rsameP_p p q) ?_
    refine gD ?_;refine caseB_split (fun h8=>?_) (fun h8=>?_)
    ·rw [h8,Bool.true_and] at hpe;refine gD ?_;refine elemP_at (e:=p.enc) (at_map hp) rfl ?_;refine gD ?_;refine elemP_at (e:=q.enc) (at_map hq) rfl ?_;refine gD ?_
     with_reducible refine callP1_eq (rsameZone_p p.zone q.zone hpl) ?_
     refine gD ?_;refine gS ?_;refine gO Tryz.func37 ?_;refine AWL.back (JH (k+1) (by omega) (by omega)) ?_;rw [hnext,Bool.false_or,← hpe];(conv=>whnf);repeat (first | exact trivial | (refine sI ?_; conv=>whnf))
    ·rw [h8,Bool.false_and] at hpe;refine gD ?_;refine gS ?_;refine gO Tryz.func37 ?_;refine AWL.back (JH (k+1) (by omega) (by omega)) ?_;rw [hnext,Bool.false_or,← hpe];(conv=>whnf);repeat (first | exact trivial | (refine sI ?_; conv=>whnf))
   ·refine caseB_true ?_;refine gD ?_;refine gS ?_;refine gO Tryz.func37 ?_;refine AWL.back (JH (k+1) (by omega) (by omega)) ?_;rw [hnext];(conv=>whnf);repeat (first | exact trivial | (refine sI ?_; conv=>whnf))
    refine And.intro (by simp) ?_;(conv=>whnf);repeat (first | exact trivial | (refine sI ?_; conv=>whnf))
  ·have hge:C.length≤k:=by simpa using h6
   rw [List.take_of_length_le hge];refine gO Tryz.func37 ?_;refine caseB_split (fun h7=>?_) (fun h7=>?_)
   ·refine gO Tryz.func37 ?_;have:(A.all fun x=>C.any fun y=>decide (x=y))=false:=all_no hp (by simpa using h7);rw [this]
   ·refine gO Tryz.func37 ?_;refine AWL.back (IH (i+1) ⟨by omega,all_next hall hp (by simpa using h7)⟩ (by omega)) ?_;(conv=>whnf);repeat (first | exact trivial | (refine sI ?_; conv=>whnf))
 ·have hge:A.length≤i:=by simpa using h5
  rw [List.take_of_length_le hge] at hall;refine gO Tryz.func37 ?_;rw [hall]
end Go.Proofs.YtajnanldmhpeaaaGreatDoor.P
