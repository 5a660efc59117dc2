/- Several texts of mine, one behind the other. Conditions: as each says. -/
import Derived.Test.YtfmdaiojokniiaaGreatDoorW29
import Derived.Test.YtfmdaiojokniiaaGreatDoorW30
set_option linter.unusedVariables false
set_option linter.unusedSimpArgs false
section
namespace Go.Proofs.YtfmdaiojokniiaaGreatDoor.P
open Go Go.aw
set_option maxRecDepth 100000
set_option maxHeartbeats 4000000
def kU (fin at_:Int) (l:List bj):List aX:=(l.filter (fun p => !jC p.ay)).map (fun p=>⟨p.host,at_,fin,p.ay⟩)
def w9 (fin:Int) (cs:List aX) (s:Step):List aX:=kT (s.dO.dq.map bj.spot) s.time cs++kU fin s.time s.dO.dq
def fH (fin:Int) (cs:List aX) (l:List Step):List aX:=l.foldl (w9 fin) cs
theorem I9 {fin:Int} {cs:List aX} {l:List Step} {k:Nat} {x:Step} (h:l[k]? = some x):fH fin cs (l.take (k+1))=w9 fin (fH fin cs (l.take k)) x:=by
 rw [dm h,fH,List.foldl_append]; rfl
theorem Rc {fin at_:Int} {l:List bj} {k:Nat} {x:bj} (h:l[k]? = some x):kU fin at_ (l.take (k+1))=kU fin at_ (l.take k)++(if jC x.ay then [] else [⟨x.host,at_,fin,x.ay⟩]):=by
 rw [dm h,kU,List.filter_append,List.map_append];cases hs:jC x.ay <;> simp [kU,hs]
theorem I' {fin at_:Int} {l:List bj}:(kU fin at_ l).length≤l.length:=by
 rw [kU,List.length_map]; exact List.length_filter_le ..
theorem Ja {fin:Int} {cs:List aX} {l:List Step} (hl:∀ s∈l,s.dO.dq.length≤500):∀ k,k≤l.length→(fH fin cs (l.take k)).length≤cs.length+500*k
 | 0,_=>by simp [fH]
 |k+1,h=>by
  obtain ⟨x,hx⟩:=aU (l:=l) (k:=k) (by omega);have ih:=Ja (fin:=fin) (cs:=cs) hl k (by omega);have h1:=hl x (List.mem_of_getElem? hx);rw [I9 hx,w9,List.length_append];have h2:=zH (ended:=x.dO.dq.map bj.spot) (at_:=x.time) (fH fin cs (l.take k));have h3:=I' (fin:=fin) (at_:=x.time) (l:=x.dO.dq);omega
theorem Re {P:aF→Prop} {ended:List cL} {at_:Int} {cs:List aX} (h:∀ c∈cs,P c.ay):∀ c∈kT ended at_ cs,P c.ay:=fun c hc=>by
 obtain ⟨d,hd,e⟩:=List.mem_flatMap.1 hc;unfold mz at e;split at e
 ·split at e
  ·simp at e
  ·simp at e;subst e;exact h d hd
 ·simp at e;subst e;exact h c hd
theorem Jb {P:aF→Prop} {fin:Int}:∀ {l:List Step} {cs:List aX},(∀ c∈cs,P c.ay)→(∀ s∈l,∀ p∈s.dO.dq,jC p.ay=false→P p.ay)→∀ c∈fH fin cs l,P c.ay
 | [],cs,h,_=>h
 |s::l,cs,h,hp=>by
  show ∀ c∈fH fin (w9 fin cs s) l,P c.ay;refine Jb (fun c hc=>?_) (fun t ht=>hp t (List.mem_cons_of_mem _ ht));rcases List.mem_append.1 hc with hc | hc
  ·exact Re h c hc
  ·obtain ⟨p,zj,e⟩:=List.mem_map.1 hc;obtain ⟨Rf,Rg⟩:=List.mem_filter.1 zj;subst e;exact hp s (List.mem_cons_self ..) p Rf (by simpa using Rg)
theorem Rh {h:bN} {l:List Step} (hv:my h l=true):(∀ c∈h.aG,ep c.ay=true)∧(∀ s∈l,∀ p∈s.dO.dq,jC p.ay=false→ep p.ay=true):=by
 simp only [my,ez,qb,Bool.and_eq_true,decide_eq_true_eq] at hv;obtain ⟨⟨⟨⟨⟨h1,h2⟩,h3⟩,h4⟩,h5⟩,h6,h7⟩:=hv;refine ⟨fun c hc=>?_,fun s hs p hp hn=>?_⟩
 ·have:=List.all_eq_true.1 h3 c hc;simp only [mv,Bool.and_eq_true] at this;exact this.2
 ·have:=wL h7 s hs;simp only [jf,lT,Bool.and_eq_true] at this;have:=List.all_eq_true.1 this.2.1.2 p hp;simp only [nI,Bool.and_eq_true,Bool.or_eq_true] at this;rcases this.2 with e | e
  ·rw [hn] at e; cases e
  ·exact e
theorem Ri {h:bN} {l:List Step} (hv:my h l=true):h.aG.length≤4000∧(∀ s∈l,s.dO.dq.length≤500)∧l.length≤400∧(∀ c∈fH h.fin h.aG l,c.ay.jA)∧h.anchor.data.length≤2147483648∧h.aB.length≤2147483648∧h.hints.length≤2147483648:=by
 obtain ⟨z1,z2⟩:=Rh hv;have hz:=Jb (fin:=h.fin) (P:=fun z=>ep z=true) z1 z2;simp only [my,ez,qb,fG,lR,Bool.and_eq_true,decide_eq_true_eq] at hv;obtain ⟨⟨⟨⟨⟨⟨⟨⟨⟨q1,q2⟩,q3⟩,q4⟩,q5⟩,⟨⟨q6,q7⟩,q8⟩,⟨⟨⟨⟨q9,VJ⟩,VK⟩,VM⟩,VN⟩,VO⟩,h3⟩,h4⟩,h5⟩,h6,h7⟩:=hv;have:=y0 q9;refine ⟨q5,fun s hs=>?_,h6,fun c hc=>IC (hz c hc),by omega,by omega,by omega⟩;have:=wL h7 s hs;simp only [jf,lT,Bool.and_eq_true,decide_eq_true_eq] at this;exact this.2.1.1
theorem Rj {l:List aX} {i:Nat} {x:aX} (h:l[i]? = some x):(l.map aX.enc).set i x.enc=l.map aX.enc:=by
 apply List.ext_getElem?;intro j;rw [List.getElem?_set];split
 ·rename_i e;subst e;have ah:=aP h;rw [if_pos (by simpa using ah),List.getElem?_map,h];rfl
 ·rfl
def Rk:bN:=⟨[],[],⟨[],0,0,[]⟩,[],0,0⟩
def applyN (h:bN) (l:List Step):Int:=if my h l then (if w8 (fH h.fin h.aG l) then 2 else 0) else 1
def ug (h:bN) (l:List Step):bN:=if applyN h l=0 then { h with aG:=fH h.fin h.aG l } else Rk
def oT (h:bN) (l:List Step):DV:=if applyN h l=0 then .az [(ug h l).enc,.int .i64 0] else .az [.agg [.aD,.aD,.str [],.int .i64 0,.int .i64 0,.aD,.aD,.int .i64 0,.int .i64 0],.int .i64 (applyN h l)]
theorem Rl (h:bN) (l:List Step) (hf:h.Fits) (dx:h.aG.length≤1000000) (hs:Steps.Fits l):au E 22 [h.enc,.sl (l.map Step.enc)] (· = oT h l):=by
 have tM:=I7 h l hf dx hs;cases hv:my h l
 ·have e1:applyN h l=1:=by simp [applyN,hv]
  have e2:oT h l = .az [.agg [.aD,.aD,.str [],.int .i64 0,.int .i64 0,.aD,.aD,.int .i64 0,.int .i64 0],.int .i64 1]:=by simp [oT,e1]
  rw [e2];rw [hv] at tM;obtain ⟨aB,aG,anchor,hints,bM,fin⟩:=h;show au E _ [DV.agg [.sl (aB.map Host.enc),.sl (aG.map aX.enc),.str anchor.name,.int .i64 anchor.type,.int .i64 anchor.cV,.sl (anchor.data.map Datum.enc),.sl (hints.map (.int .i64)),.int .i64 bM,.int .i64 fin],_] _;refine eP Tryz.func22 ?_
  with_reducible refine ar (tM) ?_
  refine gO Tryz.func22 ?_;refine aY ?_;refine gO Tryz.func22 ?_
  with_reducible rfl
 ·rw [hv] at tM;obtain ⟨aB,aG,anchor,hints,bM,fin⟩:=h;show au E _ [DV.agg [.sl (aB.map Host.enc),.sl (aG.map aX.enc),.str anchor.name,.int .i64 anchor.type,.int .i64 anchor.cV,.sl (anchor.data.map Datum.enc),.sl (hints.map (.int .i64)),.int .i64 bM,.int .i64 fin],_] _;refine eP Tryz.func22 ?_
  with_reducible refine ar (tM) ?_
  refine gO Tryz.func22 ?_;refine aN ?_;refine gO Tryz.func22 ?_;obtain ⟨Rm,l5,qB,Jc,DB,xb,DD⟩:=Ri hv;simp only at Rm l5 qB Jc DB xb DD;have wW:=Ja (fin:=fin) (cs:=aG) l5;refine I.loop (κ:=Nat) ([6,8,10]++rg 22 38) (fun k=>[(22,.d (.int .i64 k)),(6,.d (.sl ((fH fin aG (l.take k)).map aX.enc)))]) (fun k=>[]) (fun k=>k≤l.length) (fun k=>l.length - k) 0 (Nat.zero_le _) ?_ ?_
  ·(conv=>whnf);repeat (first | exact trivial | (refine sI ?_; conv=>whnf))
   refine And.intro rfl ?_;exact sZ
  intro k hk IH;refine I.head ag Tryz.func22 2000 ?_;(conv=>whnf);refine aj (fun h5=>?_) (fun h5=>?_)
  ·have ah:k<l.length:=by simpa using h5
   obtain ⟨x,hx⟩:=aU ah;have VP:=wW k hk;have jb:=l5 x (List.mem_of_getElem? hx);have bB:=I9 (fin:=fin) (cs:=aG) hx;refine gO Tryz.func22 ?_;refine aT (e:=x.enc) (bu hx) rfl ?_;refine gO Tryz.func22 ?_;refine I.bU ag bV 2000 (by kernel_rfl) ?_;(conv=>whnf);refine No (Q8 x.dO (hs.each x (List.mem_of_getElem? hx))) rfl ?_;refine gD ?_;refine B7 (Q9 ((fH fin aG (l.take k)).map aX.enc) (dK cL.en (x.dO.dq.map bj.spot)) x.time) ?_;refine gD ?_;refine B7 (Rb (fH fin aG (l.take k)) (x.dO.dq.map bj.spot) x.time (by omega)) ?_;refine gD ?_;refine And.intro (by kernel_rfl) ?_;(conv=>whnf);refine gO Tryz.func22 ?_;refine I.loop (κ:=Nat) ([33]++[6,10,38,39,40,41,42,43,44,45,46,47,48,49,50,51,52,53,54,55,56,57,58]) (fun j=>[(38,.d (.int .i64 j)),(6,.own 9 1)]) (fun j=>[(8,.gone),(9,.arr 1 (68,5) ((kT (x.dO.dq.map bj.spot) x.time (fH fin aG (l.take k))++kU fin x.time (x.dO.dq.take j)).map aX.enc))]) (fun j=>j≤x.dO.dq.length) (fun j=>x.dO.dq.length - j) 0 (Nat.zero_le _) ?_ ?_
   ·(conv=>whnf);repeat (first | exact trivial | (refine sI ?_; conv=>whnf))
    refine And.intro (by simp [kU]) ?_;exact sZ
   intro j hj JH;refine I.head ag Tryz.func22 2000 ?_;(conv=>whnf);refine aj (fun h6=>?_) (fun h6=>?_)
   ·have Rn:j<x.dO.dq.length:=by simpa using h6
    obtain ⟨p,hp⟩:=aU Rn;have Ro:=(hs.each x (List.mem_of_getElem? hx)).cW p (List.mem_of_getElem? hp);have gu:=Rc (fin:=fin) (at_:=x.time) hp;refine gO Tryz.func22 ?_;refine aT (e:=p.enc) (bu hp) rfl ?_;refine gO Tryz.func22 ?_
    with_reducible refine ar (Dz p.ay Ro) ?_
    refine gO Tryz.func22 ?_;cases Jd:jC p.ay
    ·have DE:kU fin x.time (x.dO.dq.take (j+1))=kU fin x.time (x.dO.dq.take j)++[⟨p.host,x.time,fin,p.ay⟩]:=by rw [gu,Jd]; rfl
     have qk:=zH (ended:=x.dO.dq.map bj.spot) (at_:=x.time) (fH fin aG (l.take k));have mL:=I' (fin:=fin) (at_:=x.time) (l:=x.dO.dq.take j);have VQ:(x.dO.dq.take j).length≤x.dO.dq.length:=by simp; omega
     refine bg rfl ?_;refine gO Tryz.func22 ?_;refine bp ⟨by simp; omega,by simp [DV.cells]⟩ ?_;refine gO Tryz.func22 ?_;refine I.back (JH (j+1) (by omega) (by omega)) ?_;rw [DE];(conv=>whnf);repeat (first | exact trivial | (refine sI ?_; conv=>whnf))
     refine And.intro (by simp) ?_;exact sZ
    ·have DE:kU fin x.time (x.dO.dq.take (j+1))=kU fin x.time (x.dO.dq.take j):=by rw [gu,Jd]; simp
     refine aW rfl ?_;refine gO Tryz.func22 ?_;refine I.back (JH (j+1) (by omega) (by omega)) ?_;rw [DE];exact sZ
   ·have aK:x.dO.dq.length≤j:=by simpa using h6
    rw [List.take_of_length_le aK];refine gO Tryz.func22 ?_;refine I.freeze 9 ?_;(conv=>whnf);refine I.back (IH (k+1) (by omega) (by omega)) ?_;rw [bB,w9];exact sZ
  ·have aK:l.length≤k:=by simpa using h5
   rw [List.take_of_length_le aK];refine gO Tryz.func22 ?_;have Rp:(fH fin aG l).length≤1000000:=by have:=wW l.length (Nat.le_refl _); rw [List.take_length] at this; omega
   with_reducible refine iT (Q1 (fH fin aG l) Rp) ?_
   rintro r h1 ⟨es,e1,e2⟩;subst e1;subst e2;cases hm:w8 (fH fin aG l)
   ·have e1:applyN ⟨aB,aG,anchor,hints,bM,fin⟩ l=0:=by simp [applyN,hv,hm]
    have e3:ug ⟨aB,aG,anchor,hints,bM,fin⟩ l=⟨aB,fH fin aG l,anchor,hints,bM,fin⟩:=by simp [ug,e1]
    have e2:oT ⟨aB,aG,anchor,hints,bM,fin⟩ l = .az [(⟨aB,fH fin aG l,anchor,hints,bM,fin⟩:bN).enc,.int .i64 0]:=by simp [oT,e1,e3]
    rw [e2];refine gO Tryz.func22 ?_;refine aN ?_;refine gO Tryz.func22 ?_;clear IH wW hm e1 e2 e3;generalize fH fin aG l=C at *;cases C with
    |nil =>
     refine ar (Qm [] (by simp) (by simp)) ?_;refine gO Tryz.func22 ?_;refine I.jV ?_;refine I.run ag Tryz.func22 2000 ?_;(conv=>whnf);refine aW (by simp) ?_;refine gO Tryz.func22 ?_
     with_reducible refine ar (Iz (aB.map Host.enc) (by simpa using xb) (fun e h=>by obtain ⟨c,_,rfl⟩:=List.mem_map.1 h; simp [DV.cells])) ?_
     refine gO Tryz.func22 ?_
     with_reducible refine ar (zx (anchor.data.map Datum.enc) (by simpa using DB) (fun e h=>by obtain ⟨c,_,rfl⟩:=List.mem_map.1 h; simp [DV.cells])) ?_
     refine gO Tryz.func22 ?_
     with_reducible refine ar (IA (hints.map (.int .i64)) (by simpa using DD) (fun e h=>by obtain ⟨c,_,rfl⟩:=List.mem_map.1 h; simp [DV.cells])) ?_
     refine gO Tryz.func22 ?_;rfl
    |cons c0 C =>
     have aE:c0::C≠[]:=by simp
     generalize c0::C=L at *;refine vH (Qn (L.map aX.enc) (by simpa using aE) (by simp; omega) (fun e h=>by obtain ⟨c,_,rfl⟩:=List.mem_map.1 h; rfl)) rfl ?_;refine gO Tryz.func22 ?_;refine I.loop (κ:=Nat) ([12]++rg 70 16) (fun k=>[(70,.d (.int .i64 k))]) (fun k=>[(3,.arr 1 (68,5) (L.map aX.enc))]) (fun k=>k≤L.length) (fun k=>L.length - k) 0 (Nat.zero_le _) ?_ ?_
     ·exact sZ
     intro k hk IH;refine I.head ag Tryz.func22 2000 ?_;(conv=>whnf);refine aj (fun h5=>?_) (fun h5=>?_)
     ·have ah:k<L.length:=by simpa using h5
      obtain ⟨x,hx⟩:=aU ah;have hb:0≤(k:Int)∧(k:Int)<((L.map aX.enc).length:Int):=⟨by omega,by simp; omega⟩;have jW:(L.map aX.enc).set (k:Int).toNat (DV.agg [.int .i64 x.host,.int .i64 x.bQ,.int .i64 x.upto,.str x.ay.ai,.sl (x.ay.ae.map Signed.enc)])=L.map aX.enc:=Rj hx;refine gO Tryz.func22 ?_;refine I.bU ag bV 2000 (by kernel_rfl) ?_;(conv=>whnf);refine bp hb ?_;refine gD ?_;refine aT (e:=x.enc) (bu hx) rfl ?_;refine gD ?_;refine aR (Qr x.ay (Jc x (List.mem_of_getElem? hx))) ?_;refine gD ?_;refine bp hb ?_;refine gD ?_;refine aT (e:=x.enc) (bu hx) rfl ?_;refine gD ?_;refine And.intro (by kernel_rfl) ?_;(conv=>whnf);rw [jW];refine gO Tryz.func22 ?_;refine I.back (IH (k+1) (by omega) (by omega)) ?_;exact sZ
     ·refine gO Tryz.func22 ?_
      with_reducible refine ar (Iz (aB.map Host.enc) (by simpa using xb) (fun e h=>by obtain ⟨c,_,rfl⟩:=List.mem_map.1 h; simp [DV.cells])) ?_
      refine gO Tryz.func22 ?_
      with_reducible refine ar (zx (anchor.data.map Datum.enc) (by simpa using DB) (fun e h=>by obtain ⟨c,_,rfl⟩:=List.mem_map.1 h; simp [DV.cells])) ?_
      refine gO Tryz.func22 ?_
      with_reducible refine ar (IA (hints.map (.int .i64)) (by simpa using DD) (fun e h=>by obtain ⟨c,_,rfl⟩:=List.mem_map.1 h; simp [DV.cells])) ?_
      refine gO Tryz.func22 ?_
      with_reducible rfl
   ·have e1:applyN ⟨aB,aG,anchor,hints,bM,fin⟩ l=2:=by simp [applyN,hv,hm]
    have e2:oT ⟨aB,aG,anchor,hints,bM,fin⟩ l = .az [.agg [.aD,.aD,.str [],.int .i64 0,.int .i64 0,.aD,.aD,.int .i64 0,.int .i64 0],.int .i64 2]:=by simp [oT,e1]
    rw [e2];refine gO Tryz.func22 ?_;refine aY ?_;refine gO Tryz.func22 ?_
    with_reducible rfl
theorem Rq (h:bN) (l:List Step) (hf:h.Fits) (dx:h.aG.length≤1000000) (hs:Steps.Fits l):au E 22 [h.enc,.sl (l.map Step.enc)] (· = .az [(ug h l).enc,.int .i64 (applyN h l)]):=by
 have H:=Rl h l hf dx hs;by_cases h0:applyN h l=0
 ·refine H.mono fun r e=>?_;rw [e,oT,if_pos h0,h0]
 ·refine au.norm (H.mono fun r e=>?_);rw [e,oT,if_neg h0,ug,if_neg h0];rfl
end Go.Proofs.YtfmdaiojokniiaaGreatDoor.P
end
section
section
namespace Go.Proofs.YtfmdaiojokniiaaGreatDoor.P
open Go Go.aw
set_option maxRecDepth 100000
set_option maxHeartbeats 4000000
end Go.Proofs.YtfmdaiojokniiaaGreatDoor.P
end
section
namespace Go.Proofs.YtfmdaiojokniiaaGreatDoor.P
open Go Go.aw
set_option maxRecDepth 100000
set_option maxHeartbeats 4000000
end Go.Proofs.YtfmdaiojokniiaaGreatDoor.P
end
section
namespace Go.Proofs.YtfmdaiojokniiaaGreatDoor.P
open Go Go.aw
set_option maxRecDepth 100000
set_option maxHeartbeats 4000000
end Go.Proofs.YtfmdaiojokniiaaGreatDoor.P
end
section
namespace Go.Proofs.YtfmdaiojokniiaaGreatDoor.P
open Go Go.aw
set_option maxRecDepth 100000
set_option maxHeartbeats 4000000
end Go.Proofs.YtfmdaiojokniiaaGreatDoor.P
end
section
namespace Go.Proofs.YtfmdaiojokniiaaGreatDoor.P
open Go Go.aw
set_option maxRecDepth 100000
set_option maxHeartbeats 4000000
end Go.Proofs.YtfmdaiojokniiaaGreatDoor.P
end
section
namespace Go.Proofs.YtfmdaiojokniiaaGreatDoor.P
open Go Go.aw
set_option maxRecDepth 100000
set_option maxHeartbeats 4000000
theorem Rr (a b:List Host) (x y:dc) (c d:List Int) (hl:a.length≤1000000) (hc:c.length≤1000000) (hx:x.data.length≤2147483648):au E 46 [.agg [.sl (a.map Host.enc),.aD,.str x.name,.int .i64 x.type,.int .i64 x.cV,.sl (x.data.map Datum.enc),.sl (c.map (.int .i64))],.agg [.sl (b.map Host.enc),.aD,.str y.name,.int .i64 y.type,.int .i64 y.cV,.sl (y.data.map Datum.enc),.sl (d.map (.int .i64))]] (· = .bool (decide (a=b)&&decide (c=d)&&decide (x=y))):=by
 refine eP Tryz.func46 ?_;refine aj (fun h4=>?_) (fun h4=>?_)
 ·have aE:a≠b:=by rintro rfl; simp at h4
  rw [decide_eq_false aE];refine gO Tryz.func46 ?_;refine aY ?_;refine gO Tryz.func46 ?_;refine aY ?_;refine gO Tryz.func46 ?_;simp
 ·have sQ:a.length=b.length:=by simp only [bne_eq_false_iff_eq,List.length_map] at h4; omega
  refine gO Tryz.func46 ?_;refine aj (fun h5=>?_) (fun h5=>?_)
  ·have aE:c≠d:=by rintro rfl; simp at h5
   rw [decide_eq_false aE];refine gO Tryz.func46 ?_;refine aY ?_;refine gO Tryz.func46 ?_;simp
  ·have DF:c.length=d.length:=by simp only [bne_eq_false_iff_eq,List.length_map] at h5; omega
   refine gO Tryz.func46 ?_
   with_reducible refine ar (Hv x y hx) ?_
   refine gO Tryz.func46 ?_;by_cases kM:x=y
   ·refine aW (by simp [kM]) ?_;rw [decide_eq_true kM];refine gO Tryz.func46 ?_;refine I.loop (κ:=Nat) ([4,5]++rg 31 18) (fun k=>[(5,.d (.int .i64 k))]) (fun _=>[]) (fun k=>k≤a.length∧a.take k=b.take k) (fun k=>a.length - k) 0 ⟨Nat.zero_le _,rfl⟩ ?_ ?_
    ·exact sZ
    ·intro k hk IH;refine I.head ag Tryz.func46 2000 ?_;(conv=>whnf);refine aj (fun h6=>?_) (fun h6=>?_)
     ·have ah:k<a.length:=by simpa using h6
      obtain ⟨u,hu⟩:=aU ah;obtain ⟨w,hw⟩:=aU (l:=b) (k:=k) (by omega);refine gO Tryz.func46 ?_;refine I.bU ag bV 2000 (by kernel_rfl) ?_;(conv=>whnf);refine aT (e:=u.enc) (bu hu) rfl ?_;refine gD ?_;refine aT (e:=w.enc) (bu hw) rfl ?_;refine gD ?_;refine gO Tryz.func46 ?_;refine aj (fun h7=>?_) (fun h7=>?_)
      ·have aE:u≠w:=by rintro rfl; simp at h7
       refine gO Tryz.func46 ?_;rw [decide_eq_false (lO hu hw aE)];simp
      ·have he:u=w:=by
        obtain ⟨u1,u2,u3⟩:=u;obtain ⟨w1,w2,w3⟩:=w;simp at h7;simp [h7]
       refine gO Tryz.func46 ?_;refine I.back (IH (k+1) ⟨by omega,oB hk.2 hu hw he⟩ (by omega)) ?_;exact sZ
     ·have aK:k=a.length:=by simp at h6; omega
      have Rs:a=b:=oC hk.2 (by omega) (by omega);rw [decide_eq_true Rs];refine gO Tryz.func46 ?_;refine I.loop (κ:=Nat) ([4,6]++rg 49 18) (fun k=>[(6,.d (.int .i64 k))]) (fun _=>[]) (fun k=>k≤c.length∧c.take k=d.take k) (fun k=>c.length - k) 0 ⟨Nat.zero_le _,rfl⟩ ?_ ?_
      ·exact sZ
      ·intro k hk IH;refine I.head ag Tryz.func46 2000 ?_;(conv=>whnf);refine aj (fun h6=>?_) (fun h6=>?_)
       ·have ah:k<c.length:=by simpa using h6
        obtain ⟨u,hu⟩:=aU ah;obtain ⟨w,hw⟩:=aU (l:=d) (k:=k) (by omega);refine gO Tryz.func46 ?_;refine I.bU ag bV 2000 (by kernel_rfl) ?_;(conv=>whnf);refine aT (e := .int .i64 u) (bu hu) rfl ?_;refine gD ?_;refine aT (e := .int .i64 w) (bu hw) rfl ?_;refine gD ?_;refine gO Tryz.func46 ?_;refine aj (fun h7=>?_) (fun h7=>?_)
        ·have aE:u≠w:=by rintro rfl; simp at h7
         refine gO Tryz.func46 ?_;rw [decide_eq_false (lO hu hw aE)];simp
        ·have he:u=w:=by simpa using h7
         refine gO Tryz.func46 ?_;refine I.back (IH (k+1) ⟨by omega,oB hk.2 hu hw he⟩ (by omega)) ?_;exact sZ
       ·have aK:k=c.length:=by simp at h6; omega
        have Rt:c=d:=oC hk.2 (by omega) (by omega);refine gO Tryz.func46 ?_;simp [Rt]
   ·refine bg (by simp [kM]) ?_;rw [decide_eq_false kM];refine gO Tryz.func46 ?_;simp
end Go.Proofs.YtfmdaiojokniiaaGreatDoor.P
end
section
namespace Go.Proofs.YtfmdaiojokniiaaGreatDoor.P
open Go Go.aw
set_option maxRecDepth 100000
set_option maxHeartbeats 4000000
structure bN.kb (h:bN):Prop where
 aB:h.aB.length≤1000000
 aG:h.aG.length≤1000000
 hints:h.hints.length≤1000000
 anchor:h.anchor.data.length≤2147483648
 cW:∀ c∈h.aG,c.ay.kb
theorem Ru (h g:bN) (hf:h.kb):au E 19 [h.enc,g.enc] (· = .bool (decide (h=g))):=by
 obtain ⟨a,b,x,c,dr,fi⟩:=h;obtain ⟨a2,b2,x2,c2,xc,xd⟩:=g;obtain ⟨q1,q2,q3,q4,q5⟩:=hf;simp only at q1 q2 q3 q4 q5;have hd:decide ((⟨a,b,x,c,dr,fi⟩:bN)=⟨a2,b2,x2,c2,xc,xd⟩)=(decide (dr=xc)&&decide (fi=xd)&&(decide (a=a2)&&decide (c=c2)&&decide (x=x2))&&decide (b=b2)):=by
  rw [Bool.eq_iff_iff];simp;constructor
  ·rintro ⟨h1,h2,h3,h4,h5,h6⟩; exact ⟨⟨⟨h5,h6⟩,⟨h1,h4⟩,h3⟩,h2⟩
  ·rintro ⟨⟨⟨h5,h6⟩,⟨h1,h4⟩,h3⟩,h2⟩; exact ⟨h1,h2,h3,h4,h5,h6⟩
 rw [hd];show au E _ [DV.agg [.sl (a.map Host.enc),.sl (b.map aX.enc),.str x.name,.int .i64 x.type,.int .i64 x.cV,.sl (x.data.map Datum.enc),.sl (c.map (.int .i64)),.int .i64 dr,.int .i64 fi],DV.agg [.sl (a2.map Host.enc),.sl (b2.map aX.enc),.str x2.name,.int .i64 x2.type,.int .i64 x2.cV,.sl (x2.data.map Datum.enc),.sl (c2.map (.int .i64)),.int .i64 xc,.int .i64 xd]] _;have xb:=Rr a a2 x x2 c c2 q1 q3 q4;refine eP Tryz.func19 ?_;refine aj (fun h4=>?_) (fun h4=>?_)
 ·have aE:dr≠xc:=by rintro rfl; simp at h4
  rw [decide_eq_false aE];refine gO Tryz.func19 ?_;refine aY ?_;refine gO Tryz.func19 ?_;refine aY ?_;refine gO Tryz.func19 ?_;refine aY ?_;refine gO Tryz.func19 ?_;simp
 ·have Rv:dr=xc:=by simpa using h4
  rw [decide_eq_true Rv];refine gO Tryz.func19 ?_;refine aj (fun h5=>?_) (fun h5=>?_)
  ·have aE:fi≠xd:=by rintro rfl; simp at h5
   rw [decide_eq_false aE];refine gO Tryz.func19 ?_;refine aY ?_;refine gO Tryz.func19 ?_;refine aY ?_;refine gO Tryz.func19 ?_;simp
  ·have Rw:fi=xd:=by simpa using h5
   rw [decide_eq_true Rw];refine gO Tryz.func19 ?_;refine aj (fun h6=>?_) (fun h6=>?_)
   ·have aE:b≠b2:=by rintro rfl; simp at h6
    rw [decide_eq_false aE];refine gO Tryz.func19 ?_;refine aY ?_;refine gO Tryz.func19 ?_;simp
   ·have od:b.length=b2.length:=by simp only [bne_eq_false_iff_eq,List.length_map] at h6; omega
    refine gO Tryz.func19 ?_
    with_reducible refine ar (xb) ?_
    refine gO Tryz.func19 ?_;generalize (decide (a=a2)&&decide (c=c2)&&decide (x=x2))=W at *;cases W
    ·refine aY ?_;refine gO Tryz.func19 ?_;simp
    ·refine aN ?_;refine gO Tryz.func19 ?_;refine I.loop (κ:=Nat) (rg 4 4++rg 47 44) (fun k=>[(5,.d (.int .i64 k))]) (fun _=>[]) (fun k=>k≤b.length∧b.take k=b2.take k) (fun k=>b.length - k) 0 ⟨Nat.zero_le _,rfl⟩ ?_ ?_
     ·exact sZ
     ·intro k hk IH;refine I.head ag Tryz.func19 2000 ?_;(conv=>whnf);refine aj (fun h7=>?_) (fun h7=>?_)
      ·have ah:k<b.length:=by simpa using h7
       obtain ⟨u,hu⟩:=aU ah;obtain ⟨w,hw⟩:=aU (l:=b2) (k:=k) (by omega);have iO:=q5 u (List.mem_of_getElem? hu);refine gO Tryz.func19 ?_;refine aT (e:=u.enc) (bu hu) rfl ?_;refine gO Tryz.func19 ?_;refine aT (e:=w.enc) (bu hw) rfl ?_;refine gO Tryz.func19 ?_;refine aj (fun h8=>?_) (fun h8=>?_)
       ·have aE:u≠w:=by rintro rfl; simp at h8
        refine gO Tryz.func19 ?_;refine aY ?_;refine gO Tryz.func19 ?_;refine aY ?_;refine gO Tryz.func19 ?_;refine aY ?_;refine gO Tryz.func19 ?_;rw [decide_eq_false (lO hu hw aE)];simp
       ·have e1:u.host=w.host:=by simpa using h8
        refine gO Tryz.func19 ?_;refine aj (fun h9=>?_) (fun h9=>?_)
        ·have aE:u≠w:=by rintro rfl; simp at h9
         refine gO Tryz.func19 ?_;refine aY ?_;refine gO Tryz.func19 ?_;refine aY ?_;refine gO Tryz.func19 ?_;rw [decide_eq_false (lO hu hw aE)];simp
        ·have e2:u.bQ=w.bQ:=by simpa using h9
         refine gO Tryz.func19 ?_;refine aj (fun DG=>?_) (fun DG=>?_)
         ·have aE:u≠w:=by rintro rfl; simp at DG
          refine gO Tryz.func19 ?_;refine aY ?_;refine gO Tryz.func19 ?_;rw [decide_eq_false (lO hu hw aE)];simp
         ·have e3:u.upto=w.upto:=by simpa using DG
          refine gO Tryz.func19 ?_
          with_reducible refine ar (OZ u.ay w.ay iO) ?_
          refine gO Tryz.func19 ?_;by_cases hz:u.ay=w.ay
          ·have he:u=w:=by
            obtain ⟨u1,u2,u3,u4⟩:=u;obtain ⟨w1,w2,w3,w4⟩:=w;simp only at e1 e2 e3 hz;rw [e1,e2,e3,hz]
           refine aW (by simp [hz]) ?_;refine gO Tryz.func19 ?_;refine I.back (IH (k+1) ⟨by omega,oB hk.2 hu hw he⟩ (by omega)) ?_;exact sZ
          ·have aE:u≠w:=fun e=>hz (e ▸ rfl);refine bg (by simp [hz]) ?_;refine gO Tryz.func19 ?_;rw [decide_eq_false (lO hu hw aE)];simp
      ·have aK:k=b.length:=by simp at h7; omega
       have rY:b=b2:=oC hk.2 (by omega) (by omega);refine gO Tryz.func19 ?_;simp [rY]
end Go.Proofs.YtfmdaiojokniiaaGreatDoor.P
end
end
