/- Several texts of mine, one behind the other. Conditions: as each says. -/
import Derived.Test.YtfmdaiojokniiaaGreatDoorV27
import Derived.Test.YtfmdaiojokniiaaGreatDoorV28
set_option linter.unusedVariables false
set_option linter.unusedSimpArgs false
section
namespace Go.Proofs.YtfmdaiojokniiaaGreatDoor.P
open Go Go.aw
set_option maxRecDepth 100000
set_option maxHeartbeats 4000000
def lV (fin at_:Int) (l:List bo):List aS:=(l.filter (fun p => !ke p.az)).map (fun p=>⟨p.host,at_,fin,p.az⟩)
def x8 (fin:Int) (cs:List aS) (s:Step):List aS:=lU (s.dV.du.map bo.spot) s.time cs++lV fin s.time s.dV.du
def fV (fin:Int) (cs:List aS) (l:List Step):List aS:=l.foldl (x8 fin) cs
theorem Ko {fin:Int} {cs:List aS} {l:List Step} {k:Nat} {x:Step} (h:l[k]? = some x):fV fin cs (l.take (k+1))=x8 fin (fV fin cs (l.take k)) x:=by
 rw [cI h,fV,List.foldl_append]; rfl
theorem SX {fin at_:Int} {l:List bo} {k:Nat} {x:bo} (h:l[k]? = some x):lV fin at_ (l.take (k+1))=lV fin at_ (l.take k)++(if ke x.az then [] else [⟨x.host,at_,fin,x.az⟩]):=by
 rw [cI h,lV,List.filter_append,List.map_append];cases hs:ke x.az <;> simp [lV,hs]
theorem Kp {fin at_:Int} {l:List bo}:(lV fin at_ l).length≤l.length:=by
 rw [lV,List.length_map]; exact List.length_filter_le ..
theorem Kq {fin:Int} {cs:List aS} {l:List Step} (hl:∀ s∈l,s.dV.du.length≤500):∀ k,k≤l.length→(fV fin cs (l.take k)).length≤cs.length+500*k
 | 0,_=>by simp [fV]
 |k+1,h=>by
  obtain ⟨x,hx⟩:=aL (l:=l) (k:=k) (by omega);have ih:=Kq (fin:=fin) (cs:=cs) hl k (by omega);have h1:=hl x (List.mem_of_getElem? hx);rw [Ko hx,x8,List.length_append];have h2:=AJ (ended:=x.dV.du.map bo.spot) (at_:=x.time) (fV fin cs (l.take k));have h3:=Kp (fin:=fin) (at_:=x.time) (l:=x.dV.du);omega
theorem SY {P:aG→Prop} {ended:List cP} {at_:Int} {cs:List aS} (h:∀ c∈cs,P c.az):∀ c∈lU ended at_ cs,P c.az:=fun c hc=>by
 obtain ⟨d,hd,e⟩:=List.mem_flatMap.1 hc;unfold nD at e;split at e
 ·split at e
  ·simp at e
  ·simp at e;subst e;exact h d hd
 ·simp at e;subst e;exact h c hd
theorem Kr {P:aG→Prop} {fin:Int}:∀ {l:List Step} {cs:List aS},(∀ c∈cs,P c.az)→(∀ s∈l,∀ p∈s.dV.du,ke p.az=false→P p.az)→∀ c∈fV fin cs l,P c.az
 | [],cs,h,_=>h
 |s::l,cs,h,hp=>by
  show ∀ c∈fV fin (x8 fin cs s) l,P c.az;refine Kr (fun c hc=>?_) (fun t ht=>hp t (List.mem_cons_of_mem _ ht));rcases List.mem_append.1 hc with hc | hc
  ·exact SY h c hc
  ·obtain ⟨p,sN,e⟩:=List.mem_map.1 hc;obtain ⟨SZ,S0⟩:=List.mem_filter.1 sN;subst e;exact hp s (List.mem_cons_self ..) p SZ (by simpa using S0)
theorem S1 {h:bJ} {l:List Step} (hv:nC h l=true):(∀ c∈h.aB,dE c.az=true)∧(∀ s∈l,∀ p∈s.dV.du,ke p.az=false→dE p.az=true):=by
 simp only [nC,dg,qZ,Bool.and_eq_true,decide_eq_true_eq] at hv;obtain ⟨⟨⟨⟨⟨h1,h2⟩,h3⟩,h4⟩,h5⟩,h6,h7⟩:=hv;refine ⟨fun c hc=>?_,fun s hs p hp hn=>?_⟩
 ·have:=List.all_eq_true.1 h3 c hc;simp only [gK,Bool.and_eq_true] at this;exact this.2
 ·have:=xG h7 s hs;simp only [jH,mN,Bool.and_eq_true] at this;have:=List.all_eq_true.1 this.2.1.2 p hp;simp only [oC,Bool.and_eq_true,Bool.or_eq_true] at this;rcases this.2 with e | e
  ·rw [hn] at e; cases e
  ·exact e
theorem S2 {h:bJ} {l:List Step} (hv:nC h l=true):h.aB.length≤4000∧(∀ s∈l,s.dV.du.length≤500)∧l.length≤400∧(∀ c∈fV h.fin h.aB l,c.az.jG)∧h.anchor.data.length≤2147483648∧h.aA.length≤2147483648∧h.hints.length≤2147483648:=by
 obtain ⟨z1,z2⟩:=S1 hv;have hz:=Kr (fin:=h.fin) (P:=fun z=>dE z=true) z1 z2;simp only [nC,dg,qZ,dW,gJ,Bool.and_eq_true,decide_eq_true_eq] at hv;obtain ⟨⟨⟨⟨⟨⟨⟨⟨⟨q1,q2⟩,q3⟩,q4⟩,q5⟩,⟨⟨q6,q7⟩,q8⟩,⟨⟨⟨⟨q9,XC⟩,XD⟩,XE⟩,XF⟩,XG⟩,h3⟩,h4⟩,h5⟩,h6,h7⟩:=hv;have:=xz q9;refine ⟨q5,fun s hs=>?_,h6,fun c hc=>Ei (hz c hc),by omega,by omega,by omega⟩;have:=xG h7 s hs;simp only [jH,mN,Bool.and_eq_true,decide_eq_true_eq] at this;exact this.2.1.1
theorem S3 {l:List aS} {i:Nat} {x:aS} (h:l[i]? = some x):(l.map aS.enc).set i x.enc=l.map aS.enc:=by
 apply List.ext_getElem?;intro j;rw [List.getElem?_set];split
 ·rename_i e;subst e;have aj:=aR h;rw [if_pos (by simpa using aj),List.getElem?_map,h];rfl
 ·rfl
def S4:bJ:=⟨[],[],⟨[],0,0,[]⟩,[],0,0⟩
def applyN (h:bJ) (l:List Step):Int:=if nC h l then (if x7 (fV h.fin h.aB l) then 2 else 0) else 1
def vk (h:bJ) (l:List Step):bJ:=if applyN h l=0 then { h with aB:=fV h.fin h.aB l } else S4
def pN (h:bJ) (l:List Step):DV:=if applyN h l=0 then .aD [(vk h l).enc,.int .i64 0] else .aD [.agg [.aH,.aH,.str [],.int .i64 0,.int .i64 0,.aH,.aH,.int .i64 0,.int .i64 0],.int .i64 (applyN h l)]
theorem S5 (h:bJ) (l:List Step) (hf:h.Fits) (cR:h.aB.length≤1000000) (hs:Steps.Fits l):aq E 22 [h.enc,.sl (l.map Step.enc)] (· = pN h l):=by
 have lJ:=Km h l hf cR hs;cases hv:nC h l
 ·have e1:applyN h l=1:=by simp [applyN,hv]
  have e2:pN h l = .aD [.agg [.aH,.aH,.str [],.int .i64 0,.int .i64 0,.aH,.aH,.int .i64 0,.int .i64 0],.int .i64 1]:=by simp [pN,e1]
  rw [e2];rw [hv] at lJ;obtain ⟨aA,aB,anchor,hints,bS,fin⟩:=h;show aq E _ [DV.agg [.sl (aA.map Host.enc),.sl (aB.map aS.enc),.str anchor.name,.int .i64 anchor.type,.int .i64 anchor.cD,.sl (anchor.data.map Datum.enc),.sl (hints.map (.int .i64)),.int .i64 bS,.int .i64 fin],_] _;refine eP Tryz.func22 ?_
  with_reducible refine ao (lJ) ?_
  refine gO Tryz.func22 ?_;refine aV ?_;refine gO Tryz.func22 ?_
  with_reducible rfl
 ·rw [hv] at lJ;obtain ⟨aA,aB,anchor,hints,bS,fin⟩:=h;show aq E _ [DV.agg [.sl (aA.map Host.enc),.sl (aB.map aS.enc),.str anchor.name,.int .i64 anchor.type,.int .i64 anchor.cD,.sl (anchor.data.map Datum.enc),.sl (hints.map (.int .i64)),.int .i64 bS,.int .i64 fin],_] _;refine eP Tryz.func22 ?_
  with_reducible refine ao (lJ) ?_
  refine gO Tryz.func22 ?_;refine aQ ?_;refine gO Tryz.func22 ?_;obtain ⟨S6,mZ,tF,Ks,EF,x9,EG⟩:=S2 hv;simp only at S6 mZ tF Ks EF x9 EG;have xR:=Kq (fin:=fin) (cs:=aB) mZ;refine I.loop (κ:=Nat) ([6,8,10]++rg 22 38) (fun k=>[(22,.d (.int .i64 k)),(6,.d (.sl ((fV fin aB (l.take k)).map aS.enc)))]) (fun k=>[]) (fun k=>k≤l.length) (fun k=>l.length - k) 0 (Nat.zero_le _) ?_ ?_
  ·(conv=>whnf);repeat (first | exact trivial | (refine sI ?_; conv=>whnf))
   refine And.intro rfl ?_;exact sZ
  intro k hk IH;refine I.head af Tryz.func22 2000 ?_;(conv=>whnf);refine ai (fun h5=>?_) (fun h5=>?_)
  ·have aj:k<l.length:=by simpa using h5
   obtain ⟨x,hx⟩:=aL aj;have XH:=xR k hk;have jC:=mZ x (List.mem_of_getElem? hx);have aF:=Ko (fin:=fin) (cs:=aB) hx;refine gO Tryz.func22 ?_;refine aE (e:=x.enc) (aX hx) rfl ?_;refine gO Tryz.func22 ?_;refine I.bH af bI 2000 (by kernel_rfl) ?_;(conv=>whnf);refine OI (SR x.dV (hs.each x (List.mem_of_getElem? hx))) rfl ?_;refine gD ?_;refine C0 (SS ((fV fin aB (l.take k)).map aS.enc) (dO cP.en (x.dV.du.map bo.spot)) x.time) ?_;refine gD ?_;refine C0 (SV (fV fin aB (l.take k)) (x.dV.du.map bo.spot) x.time (by omega)) ?_;refine gD ?_;refine And.intro (by kernel_rfl) ?_;(conv=>whnf);refine gO Tryz.func22 ?_;refine I.loop (κ:=Nat) ([33]++[6,10,38,39,40,41,42,43,44,45,46,47,48,49,50,51,52,53,54,55,56,57,58]) (fun j=>[(38,.d (.int .i64 j)),(6,.own 9 1)]) (fun j=>[(8,.gone),(9,.arr 1 (68,5) ((lU (x.dV.du.map bo.spot) x.time (fV fin aB (l.take k))++lV fin x.time (x.dV.du.take j)).map aS.enc))]) (fun j=>j≤x.dV.du.length) (fun j=>x.dV.du.length - j) 0 (Nat.zero_le _) ?_ ?_
   ·(conv=>whnf);repeat (first | exact trivial | (refine sI ?_; conv=>whnf))
    refine And.intro (by simp [lV]) ?_;exact sZ
   intro j hj JH;refine I.head af Tryz.func22 2000 ?_;(conv=>whnf);refine ai (fun h6=>?_) (fun h6=>?_)
   ·have EH:j<x.dV.du.length:=by simpa using h6
    obtain ⟨p,hp⟩:=aL EH;have S7:=(hs.each x (List.mem_of_getElem? hx)).da p (List.mem_of_getElem? hp);have gV:=SX (fin:=fin) (at_:=x.time) hp;refine gO Tryz.func22 ?_;refine aE (e:=p.enc) (aX hp) rfl ?_;refine gO Tryz.func22 ?_
    with_reducible refine ao (ED p.az S7) ?_
    refine gO Tryz.func22 ?_;cases Kt:ke p.az
    ·have EI:lV fin x.time (x.dV.du.take (j+1))=lV fin x.time (x.dV.du.take j)++[⟨p.host,x.time,fin,p.az⟩]:=by rw [gV,Kt]; rfl
     have rl:=AJ (ended:=x.dV.du.map bo.spot) (at_:=x.time) (fV fin aB (l.take k));have nO:=Kp (fin:=fin) (at_:=x.time) (l:=x.dV.du.take j);have XI:(x.dV.du.take j).length≤x.dV.du.length:=by simp; omega
     refine bh rfl ?_;refine gO Tryz.func22 ?_;refine a8 ⟨by simp; omega,by simp [DV.cells]⟩ ?_;refine gO Tryz.func22 ?_;refine I.back (JH (j+1) (by omega) (by omega)) ?_;rw [EI];(conv=>whnf);repeat (first | exact trivial | (refine sI ?_; conv=>whnf))
     refine And.intro (by simp) ?_;exact sZ
    ·have EI:lV fin x.time (x.dV.du.take (j+1))=lV fin x.time (x.dV.du.take j):=by rw [gV,Kt]; simp
     refine aZ rfl ?_;refine gO Tryz.func22 ?_;refine I.back (JH (j+1) (by omega) (by omega)) ?_;rw [EI];exact sZ
   ·have aC:x.dV.du.length≤j:=by simpa using h6
    rw [List.take_of_length_le aC];refine gO Tryz.func22 ?_;refine I.freeze 9 ?_;(conv=>whnf);refine I.back (IH (k+1) (by omega) (by omega)) ?_;rw [aF,x8];exact sZ
  ·have aC:l.length≤k:=by simpa using h5
   rw [List.take_of_length_le aC];refine gO Tryz.func22 ?_;have S8:(fV fin aB l).length≤1000000:=by have:=xR l.length (Nat.le_refl _); rw [List.take_length] at this; omega
   with_reducible refine jx (SK (fV fin aB l) S8) ?_
   rintro r h1 ⟨es,e1,e2⟩;subst e1;subst e2;cases hm:x7 (fV fin aB l)
   ·have e1:applyN ⟨aA,aB,anchor,hints,bS,fin⟩ l=0:=by simp [applyN,hv,hm]
    have e3:vk ⟨aA,aB,anchor,hints,bS,fin⟩ l=⟨aA,fV fin aB l,anchor,hints,bS,fin⟩:=by simp [vk,e1]
    have e2:pN ⟨aA,aB,anchor,hints,bS,fin⟩ l = .aD [(⟨aA,fV fin aB l,anchor,hints,bS,fin⟩:bJ).enc,.int .i64 0]:=by simp [pN,e1,e3]
    rw [e2];refine gO Tryz.func22 ?_;refine aQ ?_;refine gO Tryz.func22 ?_;clear IH xR hm e1 e2 e3;generalize fV fin aB l=C at *;cases C with
    |nil =>
     refine ao (RP [] (by simp) (by simp)) ?_;refine gO Tryz.func22 ?_;refine I.mw ?_;refine I.run af Tryz.func22 2000 ?_;(conv=>whnf);refine aZ (by simp) ?_;refine gO Tryz.func22 ?_
     with_reducible refine ao (Ef (aA.map Host.enc) (by simpa using x9) (fun e h=>by obtain ⟨c,_,rfl⟩:=List.mem_map.1 h; simp [DV.cells])) ?_
     refine gO Tryz.func22 ?_
     with_reducible refine ao (vb (anchor.data.map Datum.enc) (by simpa using EF) (fun e h=>by obtain ⟨c,_,rfl⟩:=List.mem_map.1 h; simp [DV.cells])) ?_
     refine gO Tryz.func22 ?_
     with_reducible refine ao (Eg (hints.map (.int .i64)) (by simpa using EG) (fun e h=>by obtain ⟨c,_,rfl⟩:=List.mem_map.1 h; simp [DV.cells])) ?_
     refine gO Tryz.func22 ?_;rfl
    |cons c0 C =>
     have aJ:c0::C≠[]:=by simp
     generalize c0::C=L at *;refine wM (RQ (L.map aS.enc) (by simpa using aJ) (by simp; omega) (fun e h=>by obtain ⟨c,_,rfl⟩:=List.mem_map.1 h; rfl)) rfl ?_;refine gO Tryz.func22 ?_;refine I.loop (κ:=Nat) ([12]++rg 70 16) (fun k=>[(70,.d (.int .i64 k))]) (fun k=>[(3,.arr 1 (68,5) (L.map aS.enc))]) (fun k=>k≤L.length) (fun k=>L.length - k) 0 (Nat.zero_le _) ?_ ?_
     ·exact sZ
     intro k hk IH;refine I.head af Tryz.func22 2000 ?_;(conv=>whnf);refine ai (fun h5=>?_) (fun h5=>?_)
     ·have aj:k<L.length:=by simpa using h5
      obtain ⟨x,hx⟩:=aL aj;have hb:0≤(k:Int)∧(k:Int)<((L.map aS.enc).length:Int):=⟨by omega,by simp; omega⟩;have iW:(L.map aS.enc).set (k:Int).toNat (DV.agg [.int .i64 x.host,.int .i64 x.bM,.int .i64 x.upto,.str x.az.ah,.sl (x.az.ab.map Signed.enc)])=L.map aS.enc:=S3 hx;refine gO Tryz.func22 ?_;refine I.bH af bI 2000 (by kernel_rfl) ?_;(conv=>whnf);refine a8 hb ?_;refine gD ?_;refine aE (e:=x.enc) (aX hx) rfl ?_;refine gD ?_;refine ay (RU x.az (Ks x (List.mem_of_getElem? hx))) ?_;refine gD ?_;refine a8 hb ?_;refine gD ?_;refine aE (e:=x.enc) (aX hx) rfl ?_;refine gD ?_;refine And.intro (by kernel_rfl) ?_;(conv=>whnf);rw [iW];refine gO Tryz.func22 ?_;refine I.back (IH (k+1) (by omega) (by omega)) ?_;exact sZ
     ·refine gO Tryz.func22 ?_
      with_reducible refine ao (Ef (aA.map Host.enc) (by simpa using x9) (fun e h=>by obtain ⟨c,_,rfl⟩:=List.mem_map.1 h; simp [DV.cells])) ?_
      refine gO Tryz.func22 ?_
      with_reducible refine ao (vb (anchor.data.map Datum.enc) (by simpa using EF) (fun e h=>by obtain ⟨c,_,rfl⟩:=List.mem_map.1 h; simp [DV.cells])) ?_
      refine gO Tryz.func22 ?_
      with_reducible refine ao (Eg (hints.map (.int .i64)) (by simpa using EG) (fun e h=>by obtain ⟨c,_,rfl⟩:=List.mem_map.1 h; simp [DV.cells])) ?_
      refine gO Tryz.func22 ?_
      with_reducible rfl
   ·have e1:applyN ⟨aA,aB,anchor,hints,bS,fin⟩ l=2:=by simp [applyN,hv,hm]
    have e2:pN ⟨aA,aB,anchor,hints,bS,fin⟩ l = .aD [.agg [.aH,.aH,.str [],.int .i64 0,.int .i64 0,.aH,.aH,.int .i64 0,.int .i64 0],.int .i64 2]:=by simp [pN,e1]
    rw [e2];refine gO Tryz.func22 ?_;refine aV ?_;refine gO Tryz.func22 ?_
    with_reducible rfl
theorem S9 (h:bJ) (l:List Step) (hf:h.Fits) (cR:h.aB.length≤1000000) (hs:Steps.Fits l):aq E 22 [h.enc,.sl (l.map Step.enc)] (· = .aD [(vk h l).enc,.int .i64 (applyN h l)]):=by
 have H:=S5 h l hf cR hs;by_cases h0:applyN h l=0
 ·refine H.mono fun r e=>?_;rw [e,pN,if_pos h0,h0]
 ·refine aq.norm (H.mono fun r e=>?_);rw [e,pN,if_neg h0,vk,if_neg h0];rfl
end Go.Proofs.YtfmdaiojokniiaaGreatDoor.P
end
section
section
namespace Go.Proofs.YtfmdaiojokniiaaGreatDoor.P
open Go Go.aw
set_option maxRecDepth 100000
set_option maxHeartbeats 4000000
end Go.Proofs.YtfmdaiojokniiaaGreatDoor.P
end
section
namespace Go.Proofs.YtfmdaiojokniiaaGreatDoor.P
open Go Go.aw
set_option maxRecDepth 100000
set_option maxHeartbeats 4000000
def vn (l:List aS):List bo:=l.map fun c=>⟨c.host,c.az⟩
end Go.Proofs.YtfmdaiojokniiaaGreatDoor.P
end
section
namespace Go.Proofs.YtfmdaiojokniiaaGreatDoor.P
open Go Go.aw
set_option maxRecDepth 100000
set_option maxHeartbeats 4000000
end Go.Proofs.YtfmdaiojokniiaaGreatDoor.P
end
section
namespace Go.Proofs.YtfmdaiojokniiaaGreatDoor.P
open Go Go.aw
set_option maxRecDepth 100000
set_option maxHeartbeats 4000000
end Go.Proofs.YtfmdaiojokniiaaGreatDoor.P
end
section
namespace Go.Proofs.YtfmdaiojokniiaaGreatDoor.P
open Go Go.aw
set_option maxRecDepth 100000
set_option maxHeartbeats 4000000
end Go.Proofs.YtfmdaiojokniiaaGreatDoor.P
end
section
namespace Go.Proofs.YtfmdaiojokniiaaGreatDoor.P
open Go Go.aw
set_option maxRecDepth 100000
set_option maxHeartbeats 4000000
theorem S' (a b:List Host) (x y:cS) (c d:List Int) (hl:a.length≤1000000) (hc:c.length≤1000000) (hx:x.data.length≤2147483648):aq E 46 [.agg [.sl (a.map Host.enc),.aH,.str x.name,.int .i64 x.type,.int .i64 x.cD,.sl (x.data.map Datum.enc),.sl (c.map (.int .i64))],.agg [.sl (b.map Host.enc),.aH,.str y.name,.int .i64 y.type,.int .i64 y.cD,.sl (y.data.map Datum.enc),.sl (d.map (.int .i64))]] (· = .bool (decide (a=b)&&decide (c=d)&&decide (x=y))):=by
 refine eP Tryz.func46 ?_;refine ai (fun h4=>?_) (fun h4=>?_)
 ·have aJ:a≠b:=by rintro rfl; simp at h4
  rw [decide_eq_false aJ];refine gO Tryz.func46 ?_;refine aV ?_;refine gO Tryz.func46 ?_;refine aV ?_;refine gO Tryz.func46 ?_;simp
 ·have nZ:a.length=b.length:=by simp only [bne_eq_false_iff_eq,List.length_map] at h4; omega
  refine gO Tryz.func46 ?_;refine ai (fun h5=>?_) (fun h5=>?_)
  ·have aJ:c≠d:=by rintro rfl; simp at h5
   rw [decide_eq_false aJ];refine gO Tryz.func46 ?_;refine aV ?_;refine gO Tryz.func46 ?_;simp
  ·have EJ:c.length=d.length:=by simp only [bne_eq_false_iff_eq,List.length_map] at h5; omega
   refine gO Tryz.func46 ?_
   with_reducible refine ao (IF x y hx) ?_
   refine gO Tryz.func46 ?_;by_cases lH:x=y
   ·refine aZ (by simp [lH]) ?_;rw [decide_eq_true lH];refine gO Tryz.func46 ?_;refine I.loop (κ:=Nat) ([4,5]++rg 31 18) (fun k=>[(5,.d (.int .i64 k))]) (fun _=>[]) (fun k=>k≤a.length∧a.take k=b.take k) (fun k=>a.length - k) 0 ⟨Nat.zero_le _,rfl⟩ ?_ ?_
    ·exact sZ
    ·intro k hk IH;refine I.head af Tryz.func46 2000 ?_;(conv=>whnf);refine ai (fun h6=>?_) (fun h6=>?_)
     ·have aj:k<a.length:=by simpa using h6
      obtain ⟨u,hu⟩:=aL aj;obtain ⟨w,hw⟩:=aL (l:=b) (k:=k) (by omega);refine gO Tryz.func46 ?_;refine I.bH af bI 2000 (by kernel_rfl) ?_;(conv=>whnf);refine aE (e:=u.enc) (aX hu) rfl ?_;refine gD ?_;refine aE (e:=w.enc) (aX hw) rfl ?_;refine gD ?_;refine gO Tryz.func46 ?_;refine ai (fun h7=>?_) (fun h7=>?_)
      ·have aJ:u≠w:=by rintro rfl; simp at h7
       refine gO Tryz.func46 ?_;rw [decide_eq_false (mH hu hw aJ)];simp
      ·have he:u=w:=by
        obtain ⟨u1,u2,u3⟩:=u;obtain ⟨w1,w2,w3⟩:=w;simp at h7;simp [h7]
       refine gO Tryz.func46 ?_;refine I.back (IH (k+1) ⟨by omega,pv hk.2 hu hw he⟩ (by omega)) ?_;exact sZ
     ·have aC:k=a.length:=by simp at h6; omega
      have Ta:a=b:=pw hk.2 (by omega) (by omega);rw [decide_eq_true Ta];refine gO Tryz.func46 ?_;refine I.loop (κ:=Nat) ([4,6]++rg 49 18) (fun k=>[(6,.d (.int .i64 k))]) (fun _=>[]) (fun k=>k≤c.length∧c.take k=d.take k) (fun k=>c.length - k) 0 ⟨Nat.zero_le _,rfl⟩ ?_ ?_
      ·exact sZ
      ·intro k hk IH;refine I.head af Tryz.func46 2000 ?_;(conv=>whnf);refine ai (fun h6=>?_) (fun h6=>?_)
       ·have aj:k<c.length:=by simpa using h6
        obtain ⟨u,hu⟩:=aL aj;obtain ⟨w,hw⟩:=aL (l:=d) (k:=k) (by omega);refine gO Tryz.func46 ?_;refine I.bH af bI 2000 (by kernel_rfl) ?_;(conv=>whnf);refine aE (e := .int .i64 u) (aX hu) rfl ?_;refine gD ?_;refine aE (e := .int .i64 w) (aX hw) rfl ?_;refine gD ?_;refine gO Tryz.func46 ?_;refine ai (fun h7=>?_) (fun h7=>?_)
        ·have aJ:u≠w:=by rintro rfl; simp at h7
         refine gO Tryz.func46 ?_;rw [decide_eq_false (mH hu hw aJ)];simp
        ·have he:u=w:=by simpa using h7
         refine gO Tryz.func46 ?_;refine I.back (IH (k+1) ⟨by omega,pv hk.2 hu hw he⟩ (by omega)) ?_;exact sZ
       ·have aC:k=c.length:=by simp at h6; omega
        have Tb:c=d:=pw hk.2 (by omega) (by omega);refine gO Tryz.func46 ?_;simp [Tb]
   ·refine bh (by simp [lH]) ?_;rw [decide_eq_false lH];refine gO Tryz.func46 ?_;simp
end Go.Proofs.YtfmdaiojokniiaaGreatDoor.P
end
section
namespace Go.Proofs.YtfmdaiojokniiaaGreatDoor.P
open Go Go.aw
set_option maxRecDepth 100000
set_option maxHeartbeats 4000000
structure bJ.kb (h:bJ):Prop where
 aA:h.aA.length≤1000000
 aB:h.aB.length≤1000000
 hints:h.hints.length≤1000000
 anchor:h.anchor.data.length≤2147483648
 da:∀ c∈h.aB,c.az.kb
theorem Tc (h g:bJ) (hf:h.kb):aq E 19 [h.enc,g.enc] (· = .bool (decide (h=g))):=by
 obtain ⟨a,b,x,c,dr,fi⟩:=h;obtain ⟨a2,b2,x2,c2,ya,yb⟩:=g;obtain ⟨q1,q2,q3,q4,q5⟩:=hf;simp only at q1 q2 q3 q4 q5;have hd:decide ((⟨a,b,x,c,dr,fi⟩:bJ)=⟨a2,b2,x2,c2,ya,yb⟩)=(decide (dr=ya)&&decide (fi=yb)&&(decide (a=a2)&&decide (c=c2)&&decide (x=x2))&&decide (b=b2)):=by
  rw [Bool.eq_iff_iff];simp;constructor
  ·rintro ⟨h1,h2,h3,h4,h5,h6⟩; exact ⟨⟨⟨h5,h6⟩,⟨h1,h4⟩,h3⟩,h2⟩
  ·rintro ⟨⟨⟨h5,h6⟩,⟨h1,h4⟩,h3⟩,h2⟩; exact ⟨h1,h2,h3,h4,h5,h6⟩
 rw [hd];show aq E _ [DV.agg [.sl (a.map Host.enc),.sl (b.map aS.enc),.str x.name,.int .i64 x.type,.int .i64 x.cD,.sl (x.data.map Datum.enc),.sl (c.map (.int .i64)),.int .i64 dr,.int .i64 fi],DV.agg [.sl (a2.map Host.enc),.sl (b2.map aS.enc),.str x2.name,.int .i64 x2.type,.int .i64 x2.cD,.sl (x2.data.map Datum.enc),.sl (c2.map (.int .i64)),.int .i64 ya,.int .i64 yb]] _;have x9:=S' a a2 x x2 c c2 q1 q3 q4;refine eP Tryz.func19 ?_;refine ai (fun h4=>?_) (fun h4=>?_)
 ·have aJ:dr≠ya:=by rintro rfl; simp at h4
  rw [decide_eq_false aJ];refine gO Tryz.func19 ?_;refine aV ?_;refine gO Tryz.func19 ?_;refine aV ?_;refine gO Tryz.func19 ?_;refine aV ?_;refine gO Tryz.func19 ?_;simp
 ·have Td:dr=ya:=by simpa using h4
  rw [decide_eq_true Td];refine gO Tryz.func19 ?_;refine ai (fun h5=>?_) (fun h5=>?_)
  ·have aJ:fi≠yb:=by rintro rfl; simp at h5
   rw [decide_eq_false aJ];refine gO Tryz.func19 ?_;refine aV ?_;refine gO Tryz.func19 ?_;refine aV ?_;refine gO Tryz.func19 ?_;simp
  ·have Te:fi=yb:=by simpa using h5
   rw [decide_eq_true Te];refine gO Tryz.func19 ?_;refine ai (fun h6=>?_) (fun h6=>?_)
   ·have aJ:b≠b2:=by rintro rfl; simp at h6
    rw [decide_eq_false aJ];refine gO Tryz.func19 ?_;refine aV ?_;refine gO Tryz.func19 ?_;simp
   ·have oZ:b.length=b2.length:=by simp only [bne_eq_false_iff_eq,List.length_map] at h6; omega
    refine gO Tryz.func19 ?_
    with_reducible refine ao (x9) ?_
    refine gO Tryz.func19 ?_;generalize (decide (a=a2)&&decide (c=c2)&&decide (x=x2))=W at *;cases W
    ·refine aV ?_;refine gO Tryz.func19 ?_;simp
    ·refine aQ ?_;refine gO Tryz.func19 ?_;refine I.loop (κ:=Nat) (rg 4 4++rg 47 44) (fun k=>[(5,.d (.int .i64 k))]) (fun _=>[]) (fun k=>k≤b.length∧b.take k=b2.take k) (fun k=>b.length - k) 0 ⟨Nat.zero_le _,rfl⟩ ?_ ?_
     ·exact sZ
     ·intro k hk IH;refine I.head af Tryz.func19 2000 ?_;(conv=>whnf);refine ai (fun h7=>?_) (fun h7=>?_)
      ·have aj:k<b.length:=by simpa using h7
       obtain ⟨u,hu⟩:=aL aj;obtain ⟨w,hw⟩:=aL (l:=b2) (k:=k) (by omega);have jo:=q5 u (List.mem_of_getElem? hu);refine gO Tryz.func19 ?_;refine aE (e:=u.enc) (aX hu) rfl ?_;refine gO Tryz.func19 ?_;refine aE (e:=w.enc) (aX hw) rfl ?_;refine gO Tryz.func19 ?_;refine ai (fun h8=>?_) (fun h8=>?_)
       ·have aJ:u≠w:=by rintro rfl; simp at h8
        refine gO Tryz.func19 ?_;refine aV ?_;refine gO Tryz.func19 ?_;refine aV ?_;refine gO Tryz.func19 ?_;refine aV ?_;refine gO Tryz.func19 ?_;rw [decide_eq_false (mH hu hw aJ)];simp
       ·have e1:u.host=w.host:=by simpa using h8
        refine gO Tryz.func19 ?_;refine ai (fun h9=>?_) (fun h9=>?_)
        ·have aJ:u≠w:=by rintro rfl; simp at h9
         refine gO Tryz.func19 ?_;refine aV ?_;refine gO Tryz.func19 ?_;refine aV ?_;refine gO Tryz.func19 ?_;rw [decide_eq_false (mH hu hw aJ)];simp
        ·have e2:u.bM=w.bM:=by simpa using h9
         refine gO Tryz.func19 ?_;refine ai (fun EK=>?_) (fun EK=>?_)
         ·have aJ:u≠w:=by rintro rfl; simp at EK
          refine gO Tryz.func19 ?_;refine aV ?_;refine gO Tryz.func19 ?_;rw [decide_eq_false (mH hu hw aJ)];simp
         ·have e3:u.upto=w.upto:=by simpa using EK
          refine gO Tryz.func19 ?_
          with_reducible refine ao (Qm u.az w.az jo) ?_
          refine gO Tryz.func19 ?_;by_cases hz:u.az=w.az
          ·have he:u=w:=by
            obtain ⟨u1,u2,u3,u4⟩:=u;obtain ⟨w1,w2,w3,w4⟩:=w;simp only at e1 e2 e3 hz;rw [e1,e2,e3,hz]
           refine aZ (by simp [hz]) ?_;refine gO Tryz.func19 ?_;refine I.back (IH (k+1) ⟨by omega,pv hk.2 hu hw he⟩ (by omega)) ?_;exact sZ
          ·have aJ:u≠w:=fun e=>hz (e ▸ rfl);refine bh (by simp [hz]) ?_;refine gO Tryz.func19 ?_;rw [decide_eq_false (mH hu hw aJ)];simp
      ·have aC:k=b.length:=by simp at h7; omega
       have s6:b=b2:=pw hk.2 (by omega) (by omega);refine gO Tryz.func19 ?_;simp [s6]
end Go.Proofs.YtfmdaiojokniiaaGreatDoor.P
end
end
