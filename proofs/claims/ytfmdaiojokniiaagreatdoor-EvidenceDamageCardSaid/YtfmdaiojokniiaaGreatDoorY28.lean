/- Several texts of mine, one behind the other. Conditions: as each says. -/
import Derived.Test.YtfmdaiojokniiaaGreatDoorY25
import Derived.Test.YtfmdaiojokniiaaGreatDoorY27
set_option linter.unusedVariables false
set_option linter.unusedSimpArgs false
section
namespace Go.Proofs.YtfmdaiojokniiaaGreatDoor.P
open Go Go.ax
set_option maxRecDepth 100000
set_option maxHeartbeats 4000000
def lv (fin at_:Int) (l:List bz):List a7:=(l.filter (fun p => !jz p.az)).map (fun p=>⟨p.host,at_,fin,p.az⟩)
def xC (fin:Int) (cs:List a7) (s:Step):List a7:=lu (s.cR.di.map bz.spot) s.time cs++lv fin s.time s.cR.di
def fN (fin:Int) (cs:List a7) (l:List Step):List a7:=l.foldl (xC fin) cs
theorem JV {fin:Int} {cs:List a7} {l:List Step} {k:Nat} {x:Step} (h:l[k]? = some x):fN fin cs (l.take (k+1))=xC fin (fN fin cs (l.take k)) x:=by
 rw [cQ h,fN,List.foldl_append]; rfl
theorem Sm {fin at_:Int} {l:List bz} {k:Nat} {x:bz} (h:l[k]? = some x):lv fin at_ (l.take (k+1))=lv fin at_ (l.take k)++(if jz x.az then [] else [⟨x.host,at_,fin,x.az⟩]):=by
 rw [cQ h,lv,List.filter_append,List.map_append];cases hs:jz x.az <;> simp [lv,hs]
theorem JW {fin at_:Int} {l:List bz}:(lv fin at_ l).length≤l.length:=by
 rw [lv,List.length_map]; exact List.length_filter_le ..
theorem JX {fin:Int} {cs:List a7} {l:List Step} (hl:∀ s∈l,s.cR.di.length≤500):∀ k,k≤l.length→(fN fin cs (l.take k)).length≤cs.length+500*k
 | 0,_=>by simp [fN]
 |k+1,h=>by
  obtain ⟨x,hx⟩:=aD (l:=l) (k:=k) (by omega);have ih:=JX (fin:=fin) (cs:=cs) hl k (by omega);have h1:=hl x (List.mem_of_getElem? hx);rw [JV hx,xC,List.length_append];have h2:=Am (ended:=x.cR.di.map bz.spot) (at_:=x.time) (fN fin cs (l.take k));have h3:=JW (fin:=fin) (at_:=x.time) (l:=x.cR.di);omega
theorem Sn {P:aR→Prop} {ended:List cS} {at_:Int} {cs:List a7} (h:∀ c∈cs,P c.az):∀ c∈lu ended at_ cs,P c.az:=fun c hc=>by
 obtain ⟨d,hd,e⟩:=List.mem_flatMap.1 hc;unfold mX at e;split at e
 ·split at e
  ·simp at e
  ·simp at e;subst e;exact h d hd
 ·simp at e;subst e;exact h c hd
theorem JY {P:aR→Prop} {fin:Int}:∀ {l:List Step} {cs:List a7},(∀ c∈cs,P c.az)→(∀ s∈l,∀ p∈s.cR.di,jz p.az=false→P p.az)→∀ c∈fN fin cs l,P c.az
 | [],cs,h,_=>h
 |s::l,cs,h,hp=>by
  show ∀ c∈fN fin (xC fin cs s) l,P c.az;refine JY (fun c hc=>?_) (fun t ht=>hp t (List.mem_cons_of_mem _ ht));rcases List.mem_append.1 hc with hc | hc
  ·exact Sn h c hc
  ·obtain ⟨p,se,e⟩:=List.mem_map.1 hc;obtain ⟨Sp,Sq⟩:=List.mem_filter.1 se;subst e;exact hp s (List.mem_cons_self ..) p Sp (by simpa using Sq)
theorem Sr {h:ca} {l:List Step} (hv:kH h l=true):(∀ c∈h.aI,dI c.az=true)∧(∀ s∈l,∀ p∈s.cR.di,jz p.az=false→dI p.az=true):=by
 simp only [kH,gd,nY,Bool.and_eq_true,decide_eq_true_eq] at hv;obtain ⟨⟨⟨⟨⟨h1,h2⟩,h3⟩,h4⟩,h5⟩,h6,h7⟩:=hv;refine ⟨fun c hc=>?_,fun s hs p hp hn=>?_⟩
 ·have:=List.all_eq_true.1 h3 c hc;simp only [jy,Bool.and_eq_true] at this;exact this.2
 ·have:=zP h7 s hs;simp only [dn,gV,Bool.and_eq_true] at this;have:=List.all_eq_true.1 this.2.1.2 p hp;simp only [gU,Bool.and_eq_true,Bool.or_eq_true] at this;rcases this.2 with e | e
  ·rw [hn] at e; cases e
  ·exact e
theorem Ss {h:ca} {l:List Step} (hv:kH h l=true):h.aI.length≤4000∧(∀ s∈l,s.cR.di.length≤500)∧l.length≤400∧(∀ c∈fN h.fin h.aI l,c.az.jW)∧h.anchor.data.length≤2147483648∧h.aA.length≤2147483648∧h.hints.length≤2147483648:=by
 obtain ⟨z1,z2⟩:=Sr hv;have hz:=JY (fin:=h.fin) (P:=fun z=>dI z=true) z1 z2;simp only [kH,gd,nY,fu,iY,Bool.and_eq_true,decide_eq_true_eq] at hv;obtain ⟨⟨⟨⟨⟨⟨⟨⟨⟨q1,q2⟩,q3⟩,q4⟩,q5⟩,⟨⟨q6,q7⟩,q8⟩,⟨⟨⟨⟨q9,Wd⟩,We⟩,Wf⟩,Wg⟩,Wh⟩,h3⟩,h4⟩,h5⟩,h6,h7⟩:=hv;have:=zC q9;refine ⟨q5,fun s hs=>?_,h6,fun c hc=>Jm (hz c hc),by omega,by omega,by omega⟩;have:=zP h7 s hs;simp only [dn,gV,Bool.and_eq_true,decide_eq_true_eq] at this;exact this.2.1.1
theorem St {l:List a7} {i:Nat} {x:a7} (h:l[i]? = some x):(l.map a7.enc).set i x.enc=l.map a7.enc:=by
 apply List.ext_getElem?;intro j;rw [List.getElem?_set];split
 ·rename_i e;subst e;have ai:=aT h;rw [if_pos (by simpa using ai),List.getElem?_map,h];rfl
 ·rfl
def xD:ca:=⟨[],[],⟨[],0,0,[]⟩,[],0,0⟩
def applyN (h:ca) (l:List Step):Int:=if kH h l then (if xA (fN h.fin h.aI l) then 2 else 0) else 1
def uM (h:ca) (l:List Step):ca:=if applyN h l=0 then { h with aI:=fN h.fin h.aI l } else xD
def pg (h:ca) (l:List Step):DV:=if applyN h l=0 then .aF [(uM h l).enc,.int .i64 0] else .aF [.agg [.aL,.aL,.str [],.int .i64 0,.int .i64 0,.aL,.aL,.int .i64 0,.int .i64 0],.int .i64 (applyN h l)]
theorem Su (h:ca) (l:List Step) (hf:h.Fits) (cZ:h.aI.length≤1000000) (hs:Steps.Fits l):aq E 22 [h.enc,.sl (l.map Step.enc)] (· = pg h l):=by
 have uj:=JQ h l hf cZ hs;cases hv:kH h l
 ·have e1:applyN h l=1:=by simp [applyN,hv]
  have e2:pg h l = .aF [.agg [.aL,.aL,.str [],.int .i64 0,.int .i64 0,.aL,.aL,.int .i64 0,.int .i64 0],.int .i64 1]:=by simp [pg,e1]
  rw [e2];rw [hv] at uj;obtain ⟨aA,aI,anchor,hints,bT,fin⟩:=h;show aq E _ [DV.agg [.sl (aA.map Host.enc),.sl (aI.map a7.enc),.str anchor.name,.int .i64 anchor.type,.int .i64 anchor.cD,.sl (anchor.data.map Datum.enc),.sl (hints.map (.int .i64)),.int .i64 bT,.int .i64 fin],_] _;refine eP Tryz.func22 ?_
  with_reducible refine ao (uj) ?_
  refine gO Tryz.func22 ?_;refine aY ?_;refine gO Tryz.func22 ?_
  with_reducible rfl
 ·rw [hv] at uj;obtain ⟨aA,aI,anchor,hints,bT,fin⟩:=h;show aq E _ [DV.agg [.sl (aA.map Host.enc),.sl (aI.map a7.enc),.str anchor.name,.int .i64 anchor.type,.int .i64 anchor.cD,.sl (anchor.data.map Datum.enc),.sl (hints.map (.int .i64)),.int .i64 bT,.int .i64 fin],_] _;refine eP Tryz.func22 ?_
  with_reducible refine ao (uj) ?_
  refine gO Tryz.func22 ?_;refine aQ ?_;refine gO Tryz.func22 ?_;obtain ⟨Sv,iD,s6,JZ,Ee,xE,Ef⟩:=Ss hv;simp only at Sv iD s6 JZ Ee xE Ef;have xq:=JX (fin:=fin) (cs:=aI) iD;refine I.loop (κ:=Nat) ([6,8,10]++rg 22 38) (fun k=>[(22,.d (.int .i64 k)),(6,.d (.sl ((fN fin aI (l.take k)).map a7.enc)))]) (fun k=>[]) (fun k=>k≤l.length) (fun k=>l.length - k) 0 (Nat.zero_le _) ?_ ?_
  ·(conv=>whnf);repeat (first | exact trivial | (refine sI ?_; conv=>whnf))
   refine And.intro rfl ?_;exact sZ
  intro k hk IH;refine I.head af Tryz.func22 2000 ?_;(conv=>whnf);refine ah (fun h5=>?_) (fun h5=>?_)
  ·have ai:k<l.length:=by simpa using h5
   obtain ⟨x,hx⟩:=aD ai;have Wi:=xq k hk;have mh:=iD x (List.mem_of_getElem? hx);have aE:=JV (fin:=fin) (cs:=aI) hx;refine gO Tryz.func22 ?_;refine aB (e:=x.enc) (aN hx) rfl ?_;refine gO Tryz.func22 ?_;refine I.bH af bI 2000 (by kernel_rfl) ?_;(conv=>whnf);refine NQ (Si x.cR (hs.each x (List.mem_of_getElem? hx))) rfl ?_;refine gD ?_;refine Cz (Sj ((fN fin aI (l.take k)).map a7.enc) (dJ cS.en (x.cR.di.map bz.spot)) x.time) ?_;refine gD ?_;refine Cz (Sl (fN fin aI (l.take k)) (x.cR.di.map bz.spot) x.time (by omega)) ?_;refine gD ?_;refine And.intro (by kernel_rfl) ?_;(conv=>whnf);refine gO Tryz.func22 ?_;refine I.loop (κ:=Nat) ([33]++[6,10,38,39,40,41,42,43,44,45,46,47,48,49,50,51,52,53,54,55,56,57,58]) (fun j=>[(38,.d (.int .i64 j)),(6,.own 9 1)]) (fun j=>[(8,.gone),(9,.arr 1 (68,5) ((lu (x.cR.di.map bz.spot) x.time (fN fin aI (l.take k))++lv fin x.time (x.cR.di.take j)).map a7.enc))]) (fun j=>j≤x.cR.di.length) (fun j=>x.cR.di.length - j) 0 (Nat.zero_le _) ?_ ?_
   ·(conv=>whnf);repeat (first | exact trivial | (refine sI ?_; conv=>whnf))
    refine And.intro (by simp [lv]) ?_;exact sZ
   intro j hj JH;refine I.head af Tryz.func22 2000 ?_;(conv=>whnf);refine ah (fun h6=>?_) (fun h6=>?_)
   ·have Sw:j<x.cR.di.length:=by simpa using h6
    obtain ⟨p,hp⟩:=aD Sw;have Sx:=(hs.each x (List.mem_of_getElem? hx)).jw p (List.mem_of_getElem? hp);have gF:=Sm (fin:=fin) (at_:=x.time) hp;refine gO Tryz.func22 ?_;refine aB (e:=p.enc) (aN hp) rfl ?_;refine gO Tryz.func22 ?_
    with_reducible refine ao (Ed p.az Sx) ?_
    refine gO Tryz.func22 ?_;cases xB:jz p.az
    ·have Eg:lv fin x.time (x.cR.di.take (j+1))=lv fin x.time (x.cR.di.take j)++[⟨p.host,x.time,fin,p.az⟩]:=by rw [gF,xB]; rfl
     have qD:=Am (ended:=x.cR.di.map bz.spot) (at_:=x.time) (fN fin aI (l.take k));have nh:=JW (fin:=fin) (at_:=x.time) (l:=x.cR.di.take j);have Wj:(x.cR.di.take j).length≤x.cR.di.length:=by simp; omega
     refine aV rfl ?_;refine gO Tryz.func22 ?_;refine bc ⟨by simp; omega,by simp [DV.cells]⟩ ?_;refine gO Tryz.func22 ?_;refine I.back (JH (j+1) (by omega) (by omega)) ?_;rw [Eg];(conv=>whnf);repeat (first | exact trivial | (refine sI ?_; conv=>whnf))
     refine And.intro (by simp) ?_;exact sZ
    ·have Eg:lv fin x.time (x.cR.di.take (j+1))=lv fin x.time (x.cR.di.take j):=by rw [gF,xB]; simp
     refine aW rfl ?_;refine gO Tryz.func22 ?_;refine I.back (JH (j+1) (by omega) (by omega)) ?_;rw [Eg];exact sZ
   ·have aC:x.cR.di.length≤j:=by simpa using h6
    rw [List.take_of_length_le aC];refine gO Tryz.func22 ?_;refine I.freeze 9 ?_;(conv=>whnf);refine I.back (IH (k+1) (by omega) (by omega)) ?_;rw [aE,xC];exact sZ
  ·have aC:l.length≤k:=by simpa using h5
   rw [List.take_of_length_le aC];refine gO Tryz.func22 ?_;have Sy:(fN fin aI l).length≤1000000:=by have:=xq l.length (Nat.le_refl _); rw [List.take_length] at this; omega
   with_reducible refine jK (R4 (fN fin aI l) Sy) ?_
   rintro r h1 ⟨es,e1,e2⟩;subst e1;subst e2;cases hm:xA (fN fin aI l)
   ·have e1:applyN ⟨aA,aI,anchor,hints,bT,fin⟩ l=0:=by simp [applyN,hv,hm]
    have e3:uM ⟨aA,aI,anchor,hints,bT,fin⟩ l=⟨aA,fN fin aI l,anchor,hints,bT,fin⟩:=by simp [uM,e1]
    have e2:pg ⟨aA,aI,anchor,hints,bT,fin⟩ l = .aF [(⟨aA,fN fin aI l,anchor,hints,bT,fin⟩:ca).enc,.int .i64 0]:=by simp [pg,e1,e3]
    rw [e2];refine gO Tryz.func22 ?_;refine aQ ?_;refine gO Tryz.func22 ?_;clear IH xq hm e1 e2 e3;generalize fN fin aI l=C at *;cases C with
    |nil =>
     refine ao (Q7 [] (by simp) (by simp)) ?_;refine gO Tryz.func22 ?_;refine I.l4 ?_;refine I.run af Tryz.func22 2000 ?_;(conv=>whnf);refine aW (by simp) ?_;refine gO Tryz.func22 ?_
     with_reducible refine ao (Jj (aA.map Host.enc) (by simpa using xE) (fun e h=>by obtain ⟨c,_,rfl⟩:=List.mem_map.1 h; simp [DV.cells])) ?_
     refine gO Tryz.func22 ?_
     with_reducible refine ao (z8 (anchor.data.map Datum.enc) (by simpa using Ee) (fun e h=>by obtain ⟨c,_,rfl⟩:=List.mem_map.1 h; simp [DV.cells])) ?_
     refine gO Tryz.func22 ?_
     with_reducible refine ao (Jk (hints.map (.int .i64)) (by simpa using Ef) (fun e h=>by obtain ⟨c,_,rfl⟩:=List.mem_map.1 h; simp [DV.cells])) ?_
     refine gO Tryz.func22 ?_;rfl
    |cons c0 C =>
     have aJ:c0::C≠[]:=by simp
     generalize c0::C=L at *;refine wm (Q8 (L.map a7.enc) (by simpa using aJ) (by simp; omega) (fun e h=>by obtain ⟨c,_,rfl⟩:=List.mem_map.1 h; rfl)) rfl ?_;refine gO Tryz.func22 ?_;refine I.loop (κ:=Nat) ([12]++rg 70 16) (fun k=>[(70,.d (.int .i64 k))]) (fun k=>[(3,.arr 1 (68,5) (L.map a7.enc))]) (fun k=>k≤L.length) (fun k=>L.length - k) 0 (Nat.zero_le _) ?_ ?_
     ·exact sZ
     intro k hk IH;refine I.head af Tryz.func22 2000 ?_;(conv=>whnf);refine ah (fun h5=>?_) (fun h5=>?_)
     ·have ai:k<L.length:=by simpa using h5
      obtain ⟨x,hx⟩:=aD ai;have hb:0≤(k:Int)∧(k:Int)<((L.map a7.enc).length:Int):=⟨by omega,by simp; omega⟩;have iN:(L.map a7.enc).set (k:Int).toNat (DV.agg [.int .i64 x.host,.int .i64 x.cj,.int .i64 x.upto,.str x.az.aj,.sl (x.az.ab.map Signed.enc)])=L.map a7.enc:=St hx;refine gO Tryz.func22 ?_;refine I.bH af bI 2000 (by kernel_rfl) ?_;(conv=>whnf);refine bc hb ?_;refine gD ?_;refine aB (e:=x.enc) (aN hx) rfl ?_;refine gD ?_;refine au (Rb x.az (JZ x (List.mem_of_getElem? hx))) ?_;refine gD ?_;refine bc hb ?_;refine gD ?_;refine aB (e:=x.enc) (aN hx) rfl ?_;refine gD ?_;refine And.intro (by kernel_rfl) ?_;(conv=>whnf);rw [iN];refine gO Tryz.func22 ?_;refine I.back (IH (k+1) (by omega) (by omega)) ?_;exact sZ
     ·refine gO Tryz.func22 ?_
      with_reducible refine ao (Jj (aA.map Host.enc) (by simpa using xE) (fun e h=>by obtain ⟨c,_,rfl⟩:=List.mem_map.1 h; simp [DV.cells])) ?_
      refine gO Tryz.func22 ?_
      with_reducible refine ao (z8 (anchor.data.map Datum.enc) (by simpa using Ee) (fun e h=>by obtain ⟨c,_,rfl⟩:=List.mem_map.1 h; simp [DV.cells])) ?_
      refine gO Tryz.func22 ?_
      with_reducible refine ao (Jk (hints.map (.int .i64)) (by simpa using Ef) (fun e h=>by obtain ⟨c,_,rfl⟩:=List.mem_map.1 h; simp [DV.cells])) ?_
      refine gO Tryz.func22 ?_
      with_reducible rfl
   ·have e1:applyN ⟨aA,aI,anchor,hints,bT,fin⟩ l=2:=by simp [applyN,hv,hm]
    have e2:pg ⟨aA,aI,anchor,hints,bT,fin⟩ l = .aF [.agg [.aL,.aL,.str [],.int .i64 0,.int .i64 0,.aL,.aL,.int .i64 0,.int .i64 0],.int .i64 2]:=by simp [pg,e1]
    rw [e2];refine gO Tryz.func22 ?_;refine aY ?_;refine gO Tryz.func22 ?_
    with_reducible rfl
theorem Sz (h:ca) (l:List Step) (hf:h.Fits) (cZ:h.aI.length≤1000000) (hs:Steps.Fits l):aq E 22 [h.enc,.sl (l.map Step.enc)] (· = .aF [(uM h l).enc,.int .i64 (applyN h l)]):=by
 have H:=Su h l hf cZ hs;by_cases h0:applyN h l=0
 ·refine H.mono fun r e=>?_;rw [e,pg,if_pos h0,h0]
 ·refine aq.norm (H.mono fun r e=>?_);rw [e,pg,if_neg h0,uM,if_neg h0];rfl
end Go.Proofs.YtfmdaiojokniiaaGreatDoor.P
end
section
section
namespace Go.Proofs.YtfmdaiojokniiaaGreatDoor.P
open Go Go.ax
set_option maxRecDepth 100000
set_option maxHeartbeats 4000000
end Go.Proofs.YtfmdaiojokniiaaGreatDoor.P
end
section
namespace Go.Proofs.YtfmdaiojokniiaaGreatDoor.P
open Go Go.ax
set_option maxRecDepth 100000
set_option maxHeartbeats 4000000
end Go.Proofs.YtfmdaiojokniiaaGreatDoor.P
end
section
namespace Go.Proofs.YtfmdaiojokniiaaGreatDoor.P
open Go Go.ax
set_option maxRecDepth 100000
set_option maxHeartbeats 4000000
end Go.Proofs.YtfmdaiojokniiaaGreatDoor.P
end
section
namespace Go.Proofs.YtfmdaiojokniiaaGreatDoor.P
open Go Go.ax
set_option maxRecDepth 100000
set_option maxHeartbeats 4000000
end Go.Proofs.YtfmdaiojokniiaaGreatDoor.P
end
section
namespace Go.Proofs.YtfmdaiojokniiaaGreatDoor.P
open Go Go.ax
set_option maxRecDepth 100000
set_option maxHeartbeats 4000000
end Go.Proofs.YtfmdaiojokniiaaGreatDoor.P
end
section
namespace Go.Proofs.YtfmdaiojokniiaaGreatDoor.P
open Go Go.ax
set_option maxRecDepth 100000
set_option maxHeartbeats 4000000
theorem SA (a b:List Host) (x y:cP) (c d:List Int) (hl:a.length≤1000000) (hc:c.length≤1000000) (hx:x.data.length≤2147483648):aq E 46 [.agg [.sl (a.map Host.enc),.aL,.str x.name,.int .i64 x.type,.int .i64 x.cD,.sl (x.data.map Datum.enc),.sl (c.map (.int .i64))],.agg [.sl (b.map Host.enc),.aL,.str y.name,.int .i64 y.type,.int .i64 y.cD,.sl (y.data.map Datum.enc),.sl (d.map (.int .i64))]] (· = .bool (decide (a=b)&&decide (c=d)&&decide (x=y))):=by
 refine eP Tryz.func46 ?_;refine ah (fun h4=>?_) (fun h4=>?_)
 ·have aJ:a≠b:=by rintro rfl; simp at h4
  rw [decide_eq_false aJ];refine gO Tryz.func46 ?_;refine aY ?_;refine gO Tryz.func46 ?_;refine aY ?_;refine gO Tryz.func46 ?_;simp
 ·have tq:a.length=b.length:=by simp only [bne_eq_false_iff_eq,List.length_map] at h4; omega
  refine gO Tryz.func46 ?_;refine ah (fun h5=>?_) (fun h5=>?_)
  ·have aJ:c≠d:=by rintro rfl; simp at h5
   rw [decide_eq_false aJ];refine gO Tryz.func46 ?_;refine aY ?_;refine gO Tryz.func46 ?_;simp
  ·have Eh:c.length=d.length:=by simp only [bne_eq_false_iff_eq,List.length_map] at h5; omega
   refine gO Tryz.func46 ?_
   with_reducible refine ao (H5 x y hx) ?_
   refine gO Tryz.func46 ?_;by_cases lg:x=y
   ·refine aW (by simp [lg]) ?_;rw [decide_eq_true lg];refine gO Tryz.func46 ?_;refine I.loop (κ:=Nat) ([4,5]++rg 31 18) (fun k=>[(5,.d (.int .i64 k))]) (fun _=>[]) (fun k=>k≤a.length∧a.take k=b.take k) (fun k=>a.length - k) 0 ⟨Nat.zero_le _,rfl⟩ ?_ ?_
    ·exact sZ
    ·intro k hk IH;refine I.head af Tryz.func46 2000 ?_;(conv=>whnf);refine ah (fun h6=>?_) (fun h6=>?_)
     ·have ai:k<a.length:=by simpa using h6
      obtain ⟨u,hu⟩:=aD ai;obtain ⟨w,hw⟩:=aD (l:=b) (k:=k) (by omega);refine gO Tryz.func46 ?_;refine I.bH af bI 2000 (by kernel_rfl) ?_;(conv=>whnf);refine aB (e:=u.enc) (aN hu) rfl ?_;refine gD ?_;refine aB (e:=w.enc) (aN hw) rfl ?_;refine gD ?_;refine gO Tryz.func46 ?_;refine ah (fun h7=>?_) (fun h7=>?_)
      ·have aJ:u≠w:=by rintro rfl; simp at h7
       refine gO Tryz.func46 ?_;rw [decide_eq_false (me hu hw aJ)];simp
      ·have he:u=w:=by
        obtain ⟨u1,u2,u3⟩:=u;obtain ⟨w1,w2,w3⟩:=w;simp at h7;simp [h7]
       refine gO Tryz.func46 ?_;refine I.back (IH (k+1) ⟨by omega,oX hk.2 hu hw he⟩ (by omega)) ?_;exact sZ
     ·have aC:k=a.length:=by simp at h6; omega
      have SB:a=b:=oY hk.2 (by omega) (by omega);rw [decide_eq_true SB];refine gO Tryz.func46 ?_;refine I.loop (κ:=Nat) ([4,6]++rg 49 18) (fun k=>[(6,.d (.int .i64 k))]) (fun _=>[]) (fun k=>k≤c.length∧c.take k=d.take k) (fun k=>c.length - k) 0 ⟨Nat.zero_le _,rfl⟩ ?_ ?_
      ·exact sZ
      ·intro k hk IH;refine I.head af Tryz.func46 2000 ?_;(conv=>whnf);refine ah (fun h6=>?_) (fun h6=>?_)
       ·have ai:k<c.length:=by simpa using h6
        obtain ⟨u,hu⟩:=aD ai;obtain ⟨w,hw⟩:=aD (l:=d) (k:=k) (by omega);refine gO Tryz.func46 ?_;refine I.bH af bI 2000 (by kernel_rfl) ?_;(conv=>whnf);refine aB (e := .int .i64 u) (aN hu) rfl ?_;refine gD ?_;refine aB (e := .int .i64 w) (aN hw) rfl ?_;refine gD ?_;refine gO Tryz.func46 ?_;refine ah (fun h7=>?_) (fun h7=>?_)
        ·have aJ:u≠w:=by rintro rfl; simp at h7
         refine gO Tryz.func46 ?_;rw [decide_eq_false (me hu hw aJ)];simp
        ·have he:u=w:=by simpa using h7
         refine gO Tryz.func46 ?_;refine I.back (IH (k+1) ⟨by omega,oX hk.2 hu hw he⟩ (by omega)) ?_;exact sZ
       ·have aC:k=c.length:=by simp at h6; omega
        have SC:c=d:=oY hk.2 (by omega) (by omega);refine gO Tryz.func46 ?_;simp [SC]
   ·refine aV (by simp [lg]) ?_;rw [decide_eq_false lg];refine gO Tryz.func46 ?_;simp
end Go.Proofs.YtfmdaiojokniiaaGreatDoor.P
end
section
namespace Go.Proofs.YtfmdaiojokniiaaGreatDoor.P
open Go Go.ax
set_option maxRecDepth 100000
set_option maxHeartbeats 4000000
structure ca.mf (h:ca):Prop where
 aA:h.aA.length≤1000000
 aI:h.aI.length≤1000000
 hints:h.hints.length≤1000000
 anchor:h.anchor.data.length≤2147483648
 jw:∀ c∈h.aI,c.az.mf
theorem SD (h g:ca) (hf:h.mf):aq E 19 [h.enc,g.enc] (· = .bool (decide (h=g))):=by
 obtain ⟨a,b,x,c,dr,fi⟩:=h;obtain ⟨a2,b2,x2,c2,xF,xG⟩:=g;obtain ⟨q1,q2,q3,q4,q5⟩:=hf;simp only at q1 q2 q3 q4 q5;have hd:decide ((⟨a,b,x,c,dr,fi⟩:ca)=⟨a2,b2,x2,c2,xF,xG⟩)=(decide (dr=xF)&&decide (fi=xG)&&(decide (a=a2)&&decide (c=c2)&&decide (x=x2))&&decide (b=b2)):=by
  rw [Bool.eq_iff_iff];simp;constructor
  ·rintro ⟨h1,h2,h3,h4,h5,h6⟩; exact ⟨⟨⟨h5,h6⟩,⟨h1,h4⟩,h3⟩,h2⟩
  ·rintro ⟨⟨⟨h5,h6⟩,⟨h1,h4⟩,h3⟩,h2⟩; exact ⟨h1,h2,h3,h4,h5,h6⟩
 rw [hd];show aq E _ [DV.agg [.sl (a.map Host.enc),.sl (b.map a7.enc),.str x.name,.int .i64 x.type,.int .i64 x.cD,.sl (x.data.map Datum.enc),.sl (c.map (.int .i64)),.int .i64 dr,.int .i64 fi],DV.agg [.sl (a2.map Host.enc),.sl (b2.map a7.enc),.str x2.name,.int .i64 x2.type,.int .i64 x2.cD,.sl (x2.data.map Datum.enc),.sl (c2.map (.int .i64)),.int .i64 xF,.int .i64 xG]] _;have xE:=SA a a2 x x2 c c2 q1 q3 q4;refine eP Tryz.func19 ?_;refine ah (fun h4=>?_) (fun h4=>?_)
 ·have aJ:dr≠xF:=by rintro rfl; simp at h4
  rw [decide_eq_false aJ];refine gO Tryz.func19 ?_;refine aY ?_;refine gO Tryz.func19 ?_;refine aY ?_;refine gO Tryz.func19 ?_;refine aY ?_;refine gO Tryz.func19 ?_;simp
 ·have SE:dr=xF:=by simpa using h4
  rw [decide_eq_true SE];refine gO Tryz.func19 ?_;refine ah (fun h5=>?_) (fun h5=>?_)
  ·have aJ:fi≠xG:=by rintro rfl; simp at h5
   rw [decide_eq_false aJ];refine gO Tryz.func19 ?_;refine aY ?_;refine gO Tryz.func19 ?_;refine aY ?_;refine gO Tryz.func19 ?_;simp
  ·have SF:fi=xG:=by simpa using h5
   rw [decide_eq_true SF];refine gO Tryz.func19 ?_;refine ah (fun h6=>?_) (fun h6=>?_)
   ·have aJ:b≠b2:=by rintro rfl; simp at h6
    rw [decide_eq_false aJ];refine gO Tryz.func19 ?_;refine aY ?_;refine gO Tryz.func19 ?_;simp
   ·have oB:b.length=b2.length:=by simp only [bne_eq_false_iff_eq,List.length_map] at h6; omega
    refine gO Tryz.func19 ?_
    with_reducible refine ao (xE) ?_
    refine gO Tryz.func19 ?_;generalize (decide (a=a2)&&decide (c=c2)&&decide (x=x2))=W at *;cases W
    ·refine aY ?_;refine gO Tryz.func19 ?_;simp
    ·refine aQ ?_;refine gO Tryz.func19 ?_;refine I.loop (κ:=Nat) (rg 4 4++rg 47 44) (fun k=>[(5,.d (.int .i64 k))]) (fun _=>[]) (fun k=>k≤b.length∧b.take k=b2.take k) (fun k=>b.length - k) 0 ⟨Nat.zero_le _,rfl⟩ ?_ ?_
     ·exact sZ
     ·intro k hk IH;refine I.head af Tryz.func19 2000 ?_;(conv=>whnf);refine ah (fun h7=>?_) (fun h7=>?_)
      ·have ai:k<b.length:=by simpa using h7
       obtain ⟨u,hu⟩:=aD ai;obtain ⟨w,hw⟩:=aD (l:=b2) (k:=k) (by omega);have jf:=q5 u (List.mem_of_getElem? hu);refine gO Tryz.func19 ?_;refine aB (e:=u.enc) (aN hu) rfl ?_;refine gO Tryz.func19 ?_;refine aB (e:=w.enc) (aN hw) rfl ?_;refine gO Tryz.func19 ?_;refine ah (fun h8=>?_) (fun h8=>?_)
       ·have aJ:u≠w:=by rintro rfl; simp at h8
        refine gO Tryz.func19 ?_;refine aY ?_;refine gO Tryz.func19 ?_;refine aY ?_;refine gO Tryz.func19 ?_;refine aY ?_;refine gO Tryz.func19 ?_;rw [decide_eq_false (me hu hw aJ)];simp
       ·have e1:u.host=w.host:=by simpa using h8
        refine gO Tryz.func19 ?_;refine ah (fun h9=>?_) (fun h9=>?_)
        ·have aJ:u≠w:=by rintro rfl; simp at h9
         refine gO Tryz.func19 ?_;refine aY ?_;refine gO Tryz.func19 ?_;refine aY ?_;refine gO Tryz.func19 ?_;rw [decide_eq_false (me hu hw aJ)];simp
        ·have e2:u.cj=w.cj:=by simpa using h9
         refine gO Tryz.func19 ?_;refine ah (fun sy=>?_) (fun sy=>?_)
         ·have aJ:u≠w:=by rintro rfl; simp at sy
          refine gO Tryz.func19 ?_;refine aY ?_;refine gO Tryz.func19 ?_;rw [decide_eq_false (me hu hw aJ)];simp
         ·have e3:u.upto=w.upto:=by simpa using sy
          refine gO Tryz.func19 ?_
          with_reducible refine ao (Pw u.az w.az jf) ?_
          refine gO Tryz.func19 ?_;by_cases hz:u.az=w.az
          ·have he:u=w:=by
            obtain ⟨u1,u2,u3,u4⟩:=u;obtain ⟨w1,w2,w3,w4⟩:=w;simp only at e1 e2 e3 hz;rw [e1,e2,e3,hz]
           refine aW (by simp [hz]) ?_;refine gO Tryz.func19 ?_;refine I.back (IH (k+1) ⟨by omega,oX hk.2 hu hw he⟩ (by omega)) ?_;exact sZ
          ·have aJ:u≠w:=fun e=>hz (e ▸ rfl);refine aV (by simp [hz]) ?_;refine gO Tryz.func19 ?_;rw [decide_eq_false (me hu hw aJ)];simp
      ·have aC:k=b.length:=by simp at h7; omega
       have sA:b=b2:=oY hk.2 (by omega) (by omega);refine gO Tryz.func19 ?_;simp [sA]
end Go.Proofs.YtfmdaiojokniiaaGreatDoor.P
end
end
