/- Lemmas of mine. Conditions: as stated. -/
import Derived.Test.YtfmdaiojokniiaaGreatDoorU13
import Derived.Test.YtfmdaiojokniiaaGreatDoorU15
set_option linter.unusedVariables false
set_option linter.unusedSimpArgs false
section
namespace Go.Proofs.YtfmdaiojokniiaaGreatDoor.P
open Go Go.ay
set_option maxRecDepth 100000
set_option maxHeartbeats 4000000
def mG(fin at_:Int)(l:List bc):List aY:=(l.filter (fun p => !kV p.aw)).map (fun p=>⟨p.host,at_,fin,p.aw⟩)
def tn(fin:Int)(cs:List aY)(s:Step):List aY:=lS (s.cb.cA.map bc.spot) s.time cs++mG fin s.time s.cb.cA
def fw(fin:Int)(cs:List aY)(l:List Step):List aY:=l.foldl (tn fin) cs
theorem Nl{fin:Int}{cs:List aY}{l:List Step}{k:Nat}{x:Step}(h:l[k]?=some x):fw fin cs (l.take (k+1))=tn fin (fw fin cs (l.take k)) x:=by
 rw[cK h,fw,List.foldl_append];rfl
theorem WL{fin at_:Int}{l:List bc}{k:Nat}{x:bc}(h:l[k]?=some x):mG fin at_ (l.take (k+1))=mG fin at_ (l.take k)++(if kV x.aw then[]else[⟨x.host,at_,fin,x.aw⟩]):=by
 rw[cK h,mG,List.filter_append,List.map_append];cases hs:kV x.aw<;>simp[mG,hs]
theorem Nn{fin at_:Int}{l:List bc}:(mG fin at_ l).length<=l.length:=by
 rw[mG,List.length_map];exact List.length_filter_le ..
theorem Hg{fin:Int}{cs:List aY}{l:List Step}(hl:∀ s∈l,s.cb.cA.length<=500):∀ k,k<=l.length->(fw fin cs (l.take k)).length<=cs.length+500*k
 |0,_=>by simp[fw]
 |k+1,h=>by
  obtain⟨x,hx⟩:=aG (l:=l) (k:=k) (by omega);have ih:=Hg (fin:=fin) (cs:=cs) hl k (by omega);have h1:=hl x (List.mem_of_getElem? hx);rw[Nl hx,tn,List.length_append];have h2:=C' (ended:=x.cb.cA.map bc.spot) (at_:=x.time) (fw fin cs (l.take k));have h3:=Nn (fin:=fin) (at_:=x.time) (l:=x.cb.cA);omega
theorem WM{P:aX->Prop}{ended:List dj}{at_:Int}{cs:List aY}(h:∀ c∈cs,P c.aw):∀ c∈lS ended at_ cs,P c.aw:=fun c hc=>by
 obtain⟨d,hd,e⟩:=List.mem_flatMap.1 hc;unfold ot at e;split at e
 ·split at e
  ·simp at e
  ·simp at e;subst e;exact h d hd
 ·simp at e;subst e;exact h c hd
theorem Hh{P:aX->Prop}{fin:Int}:∀ {l:List Step} {cs:List aY},(∀ c∈cs,P c.aw)->(∀ s∈l,∀ p∈s.cb.cA,kV p.aw=false->P p.aw)->∀ c∈fw fin cs l,P c.aw
 |[],cs,h,_=>h
 |s::l,cs,h,hp=>by
  show ∀ c∈fw fin (tn fin cs s) l,P c.aw;refine Hh (fun c hc=>?_) (fun t ht=>hp t (List.mem_cons_of_mem _ ht));rcases List.mem_append.1 hc with hc|hc
  ·exact WM h c hc
  ·obtain⟨p,ve,e⟩:=List.mem_map.1 hc;obtain⟨Da,WN⟩:=List.mem_filter.1 ve;subst e;exact hp s (List.mem_cons_self ..) p Da (by simpa using WN)
theorem WO{h:bZ}{l:List Step}(hv:fq h l=true):(∀ c∈h.aE,eB c.aw=true)/\(∀ s∈l,∀ p∈s.cb.cA,kV p.aw=false->eB p.aw=true):=by
 simp only[fq,gz,mF,Bool.and_eq_true,decide_eq_true_eq]at hv;obtain⟨⟨⟨⟨⟨h1,h2⟩,h3⟩,h4⟩,h5⟩,h6,h7⟩:=hv;refine⟨fun c hc=>?_,fun s hs p hp hn=>?_⟩
 ·have:=List.all_eq_true.1 h3 c hc;simp only[kU,Bool.and_eq_true]at this;exact this.2
 ·have:=CK h7 s hs;simp only[dC,iG,Bool.and_eq_true]at this;have:=List.all_eq_true.1 this.2.1.2 p hp;simp only[je,Bool.and_eq_true,Bool.or_eq_true]at this;rcases this.2 with e|e
  ·rw[hn]at e;cases e
  ·exact e
theorem WQ{h:bZ}{l:List Step}(hv:fq h l=true):h.aE.length<=4000/\(∀ s∈l,s.cb.cA.length<=500)/\l.length<=400/\(∀ c∈fw h.fin h.aE l,c.aw.lP)/\h.anchor.data.length<=2147483648/\h.aC.length<=2147483648/\h.hints.length<=2147483648:=by
 obtain⟨z1,z2⟩:=WO hv;have hz:=Hh (fin:=h.fin) (P:=fun z=>eB z=true) z1 z2;simp only[fq,gz,mF,gy,kh,Bool.and_eq_true,decide_eq_true_eq]at hv;obtain⟨⟨⟨⟨⟨⟨⟨⟨⟨q1,q2⟩,q3⟩,q4⟩,q5⟩,⟨⟨q6,q7⟩,q8⟩,⟨⟨⟨⟨q9,q10⟩,q11⟩,q12⟩,q13⟩,q14⟩,h3⟩,h4⟩,h5⟩,h6,h7⟩:=hv;have:=xr q9;refine⟨q5,fun s hs=>?_,h6,fun c hc=>MV (hz c hc),by omega,by omega,by omega⟩;have:=CK h7 s hs;simp only[dC,iG,Bool.and_eq_true,decide_eq_true_eq]at this;exact this.2.1.1
theorem WR{l:List aY}{i:Nat}{x:aY}(h:l[i]?=some x):(l.map aY.enc).set i x.enc=l.map aY.enc:=by
 apply List.ext_getElem?;intro j;rw[List.getElem?_set];split
 ·rename_i e;subst e;have ah:=aQ h;rw[if_pos (by simpa using ah),List.getElem?_map,h];rfl
 ·rfl
def tp:bZ:=⟨[],[],⟨[],0,0,[]⟩,[],0,0⟩
def applyN(h:bZ)(l:List Step):Int:=if fq h l then(if vx (fw h.fin h.aE l)then 2 else 0)else 1
def fQ(h:bZ)(l:List Step):bZ:=if applyN h l=0 then{ h with aE:=fw h.fin h.aE l }else tp
def rD(h:bZ)(l:List Step):DV:=if applyN h l=0 then .aD [(fQ h l).enc,.int .i64 0]else .aD [.agg [.aH,.aH,.str [],.int .i64 0,.int .i64 0,.aH,.aH,.int .i64 0,.int .i64 0],.int .i64 (applyN h l)]
theorem WS(h:bZ)(l:List Step)(hf:h.Fits)(dz:h.aE.length<=1000000)(hs:Steps.Fits l):aq E 22 [h.enc,.sl (l.map Step.enc)] (· = rD h l):=by
 have xp:=Hf h l hf dz hs;cases hv:fq h l
 ·have e1:applyN h l=1:=by simp[applyN,hv]
  have e2:rD h l=.aD [.agg [.aH,.aH,.str [],.int .i64 0,.int .i64 0,.aH,.aH,.int .i64 0,.int .i64 0],.int .i64 1]:=by simp[rD,e1]
  rw[e2];rw[hv]at xp;obtain⟨aC,aE,anchor,hints,bN,fin⟩:=h;show aq E _ [DV.agg [.sl (aC.map Host.enc),.sl (aE.map aY.enc),.str anchor.name,.int .i64 anchor.type,.int .i64 anchor.cy,.sl (anchor.data.map Datum.enc),.sl (hints.map (.int .i64)),.int .i64 bN,.int .i64 fin],_] _;refine eP F22 ?_
  with_reducible refine ao (xp) ?_
  refine gO F22 ?_;refine bj ?_;refine gO F22 ?_
  with_reducible rfl
 ·rw[hv]at xp;obtain⟨aC,aE,anchor,hints,bN,fin⟩:=h;show aq E _ [DV.agg [.sl (aC.map Host.enc),.sl (aE.map aY.enc),.str anchor.name,.int .i64 anchor.type,.int .i64 anchor.cy,.sl (anchor.data.map Datum.enc),.sl (hints.map (.int .i64)),.int .i64 bN,.int .i64 fin],_] _;refine eP F22 ?_
  with_reducible refine ao (xp) ?_
  refine gO F22 ?_;refine aR ?_;refine gO F22 ?_;obtain⟨WT,jJ,l4,No,Hi,Ap,Hj⟩:=WQ hv;simp only at WT jJ l4 No Hi Ap Hj;have uV:=Hg (fin:=fin) (cs:=aE) jJ;refine I.loop (κ:=Nat) ([6,8,10]++rg 22 38) (fun k=>[(22,.d (.int .i64 k)),(6,.d (.sl ((fw fin aE (l.take k)).map aY.enc)))]) (fun k=>[]) (fun k=>k<=l.length) (fun k=>l.length-k) 0 (Nat.zero_le _) ?_ ?_
  ·(conv=>whnf);repeat (first|exact trivial|(refine sI ?_;conv=>whnf))
   refine And.intro rfl ?_;exact sZ
  intro k hk IH;refine I.head ab F22 2000 ?_;(conv=>whnf);refine ai (fun h5=>?_) (fun h5=>?_)
  ·have ah:k<l.length:=by simpa using h5
   obtain⟨x,hx⟩:=aG ah;have zR:=uV k hk;have og:=jJ x (List.mem_of_getElem? hx);have aF:=Nl (fin:=fin) (cs:=aE) hx;refine gO F22 ?_;refine aB (e:=x.enc) (aN hx) rfl ?_;refine gO F22 ?_;refine I.bJ ab bG 2000 (by kernel_rfl) ?_;(conv=>whnf);refine RU (WH x.cb (hs.each x (List.mem_of_getElem? hx))) rfl ?_;refine gD ?_;refine zx (WI ((fw fin aE (l.take k)).map aY.enc) (ek dj.en (x.cb.cA.map bc.spot)) x.time) ?_;refine gD ?_;refine zx (WK (fw fin aE (l.take k)) (x.cb.cA.map bc.spot) x.time (by omega)) ?_;refine gD ?_;refine And.intro (by kernel_rfl) ?_;(conv=>whnf);refine gO F22 ?_;refine I.loop (κ:=Nat) ([33]++[6,10,38,39,40,41,42,43,44,45,46,47,48,49,50,51,52,53,54,55,56,57,58]) (fun j=>[(38,.d (.int .i64 j)),(6,.own 9 1)]) (fun j=>[(8,.gone),(9,.arr 1 (68,5) ((lS (x.cb.cA.map bc.spot) x.time (fw fin aE (l.take k))++mG fin x.time (x.cb.cA.take j)).map aY.enc))]) (fun j=>j<=x.cb.cA.length) (fun j=>x.cb.cA.length-j) 0 (Nat.zero_le _) ?_ ?_
   ·(conv=>whnf);repeat (first|exact trivial|(refine sI ?_;conv=>whnf))
    refine And.intro (by simp[mG]) ?_;exact sZ
   intro j hj JH;refine I.head ab F22 2000 ?_;(conv=>whnf);refine ai (fun h6=>?_) (fun h6=>?_)
   ·have Hk:j<x.cb.cA.length:=by simpa using h6
    obtain⟨p,hp⟩:=aG Hk;have WU:=(hs.each x (List.mem_of_getElem? hx)).jB p (List.mem_of_getElem? hp);have eb:=WL (fin:=fin) (at_:=x.time) hp;refine gO F22 ?_;refine aB (e:=p.enc) (aN hp) rfl ?_;refine gO F22 ?_
    with_reducible refine ao (He p.aw WU) ?_
    refine gO F22 ?_;cases Ao:kV p.aw
    ·have Hl:mG fin x.time (x.cb.cA.take (j+1))=mG fin x.time (x.cb.cA.take j)++[⟨p.host,x.time,fin,p.aw⟩]:=by rw[eb,Ao];rfl
     have rP:=C' (ended:=x.cb.cA.map bc.spot) (at_:=x.time) (fw fin aE (l.take k));have oE:=Nn (fin:=fin) (at_:=x.time) (l:=x.cb.cA.take j);have hl3:(x.cb.cA.take j).length<=x.cb.cA.length:=by simp;omega
     refine aU rfl ?_;refine gO F22 ?_;refine aV ⟨by simp;omega,by simp[DV.cells]⟩ ?_;refine gO F22 ?_;refine I.back (JH (j+1) (by omega) (by omega)) ?_;rw[Hl];(conv=>whnf);repeat (first|exact trivial|(refine sI ?_;conv=>whnf))
     refine And.intro (by simp) ?_;exact sZ
    ·have Hl:mG fin x.time (x.cb.cA.take (j+1))=mG fin x.time (x.cb.cA.take j):=by rw[eb,Ao];simp
     refine aW rfl ?_;refine gO F22 ?_;refine I.back (JH (j+1) (by omega) (by omega)) ?_;rw[Hl];exact sZ
   ·have aA:x.cb.cA.length<=j:=by simpa using h6
    rw[List.take_of_length_le aA];refine gO F22 ?_;refine I.freeze 9 ?_;(conv=>whnf);refine I.back (IH (k+1) (by omega) (by omega)) ?_;rw[aF,tn];exact sZ
  ·have aA:l.length<=k:=by simpa using h5
   rw[List.take_of_length_le aA];refine gO F22 ?_;have WV:(fw fin aE l).length<=1000000:=by have:=uV l.length (Nat.le_refl _);rw[List.take_length]at this;omega
   with_reducible refine jv (WD (fw fin aE l) WV) ?_
   rintro r h1 ⟨es,e1,e2⟩;subst e1;subst e2;cases hm:vx (fw fin aE l)
   ·have e1:applyN ⟨aC,aE,anchor,hints,bN,fin⟩ l=0:=by simp[applyN,hv,hm]
    have e3:fQ ⟨aC,aE,anchor,hints,bN,fin⟩ l=⟨aC,fw fin aE l,anchor,hints,bN,fin⟩:=by simp[fQ,e1]
    have e2:rD ⟨aC,aE,anchor,hints,bN,fin⟩ l=.aD [(⟨aC,fw fin aE l,anchor,hints,bN,fin⟩:bZ).enc,.int .i64 0]:=by simp[rD,e1,e3]
    rw[e2];refine gO F22 ?_;refine aR ?_;refine gO F22 ?_;clear IH uV hm e1 e2 e3;generalize fw fin aE l=C at *;cases C with
    |nil =>
     refine ao (VF [] (by simp) (by simp)) ?_;refine gO F22 ?_;refine I.mg ?_;refine I.run ab F22 2000 ?_;(conv=>whnf);refine aW (by simp) ?_;refine gO F22 ?_
     with_reducible refine ao (MS (aC.map Host.enc) (by simpa using Ap) (fun e h=>by obtain⟨c,_,rfl⟩:=List.mem_map.1 h;simp[DV.cells])) ?_
     refine gO F22 ?_
     with_reducible refine ao (C0 (anchor.data.map Datum.enc) (by simpa using Hi) (fun e h=>by obtain⟨c,_,rfl⟩:=List.mem_map.1 h;simp[DV.cells])) ?_
     refine gO F22 ?_
     with_reducible refine ao (MT (hints.map (.int .i64)) (by simpa using Hj) (fun e h=>by obtain⟨c,_,rfl⟩:=List.mem_map.1 h;simp[DV.cells])) ?_
     refine gO F22 ?_;rfl
    |cons c0 C =>
     have aI:c0::C≠[]:=by simp
     generalize c0::C=L at *;refine wV (VG (L.map aY.enc) (by simpa using aI) (by simp;omega) (fun e h=>by obtain⟨c,_,rfl⟩:=List.mem_map.1 h;rfl)) rfl ?_;refine gO F22 ?_;refine I.loop (κ:=Nat) ([12]++rg 70 16) (fun k=>[(70,.d (.int .i64 k))]) (fun k=>[(3,.arr 1 (68,5) (L.map aY.enc))]) (fun k=>k<=L.length) (fun k=>L.length-k) 0 (Nat.zero_le _) ?_ ?_
     ·exact sZ
     intro k hk IH;refine I.head ab F22 2000 ?_;(conv=>whnf);refine ai (fun h5=>?_) (fun h5=>?_)
     ·have ah:k<L.length:=by simpa using h5
      obtain⟨x,hx⟩:=aG ah;have hb:0<=(k:Int)/\(k:Int)<((L.map aY.enc).length:Int):=⟨by omega,by simp;omega⟩;have dM:(L.map aY.enc).set (k:Int).toNat (DV.agg [.int .i64 x.host,.int .i64 x.cu,.int .i64 x.upto,.str x.aw.aj,.sl (x.aw.ae.map Signed.enc)])=L.map aY.enc:=WR hx;refine gO F22 ?_;refine I.bJ ab bG 2000 (by kernel_rfl) ?_;(conv=>whnf);refine aV hb ?_;refine gD ?_;refine aB (e:=x.enc) (aN hx) rfl ?_;refine gD ?_;refine au (VJ x.aw (No x (List.mem_of_getElem? hx))) ?_;refine gD ?_;refine aV hb ?_;refine gD ?_;refine aB (e:=x.enc) (aN hx) rfl ?_;refine gD ?_;refine And.intro (by kernel_rfl) ?_;(conv=>whnf);rw[dM];refine gO F22 ?_;refine I.back (IH (k+1) (by omega) (by omega)) ?_;exact sZ
     ·refine gO F22 ?_
      with_reducible refine ao (MS (aC.map Host.enc) (by simpa using Ap) (fun e h=>by obtain⟨c,_,rfl⟩:=List.mem_map.1 h;simp[DV.cells])) ?_
      refine gO F22 ?_
      with_reducible refine ao (C0 (anchor.data.map Datum.enc) (by simpa using Hi) (fun e h=>by obtain⟨c,_,rfl⟩:=List.mem_map.1 h;simp[DV.cells])) ?_
      refine gO F22 ?_
      with_reducible refine ao (MT (hints.map (.int .i64)) (by simpa using Hj) (fun e h=>by obtain⟨c,_,rfl⟩:=List.mem_map.1 h;simp[DV.cells])) ?_
      refine gO F22 ?_
      with_reducible rfl
   ·have e1:applyN ⟨aC,aE,anchor,hints,bN,fin⟩ l=2:=by simp[applyN,hv,hm]
    have e2:rD ⟨aC,aE,anchor,hints,bN,fin⟩ l=.aD [.agg [.aH,.aH,.str [],.int .i64 0,.int .i64 0,.aH,.aH,.int .i64 0,.int .i64 0],.int .i64 2]:=by simp[rD,e1]
    rw[e2];refine gO F22 ?_;refine bj ?_;refine gO F22 ?_
    with_reducible rfl
theorem Db(h:bZ)(l:List Step)(hf:h.Fits)(dz:h.aE.length<=1000000)(hs:Steps.Fits l):aq E 22 [h.enc,.sl (l.map Step.enc)] (· = .aD [(fQ h l).enc,.int .i64 (applyN h l)]):=by
 have H:=WS h l hf dz hs;by_cases h0:applyN h l=0
 ·refine H.mono fun r e=>?_;rw[e,rD,if_pos h0,h0]
 ·refine aq.norm (H.mono fun r e=>?_);rw[e,rD,if_neg h0,fQ,if_neg h0];rfl





theorem WW(a b:List Host)(x y:cM)(c d:List Int)(hl:a.length<=1000000)(hc:c.length<=1000000)(hx:x.data.length<=2147483648):aq E 46 [.agg [.sl (a.map Host.enc),.aH,.str x.name,.int .i64 x.type,.int .i64 x.cy,.sl (x.data.map Datum.enc),.sl (c.map (.int .i64))],.agg [.sl (b.map Host.enc),.aH,.str y.name,.int .i64 y.type,.int .i64 y.cy,.sl (y.data.map Datum.enc),.sl (d.map (.int .i64))]] (· = .bool (decide (a=b)&&decide (c=d)&&decide (x=y))):=by
 refine eP F46 ?_;refine ai (fun h4=>?_) (fun h4=>?_)
 ·have aI:a≠b:=by rintro rfl;simp at h4
  rw[decide_eq_false aI];refine gO F46 ?_;refine bj ?_;refine gO F46 ?_;refine bj ?_;refine gO F46 ?_;simp
 ·have qu:a.length=b.length:=by simp only[bne_eq_false_iff_eq,List.length_map]at h4;omega
  refine gO F46 ?_;refine ai (fun h5=>?_) (fun h5=>?_)
  ·have aI:c≠d:=by rintro rfl;simp at h5
   rw[decide_eq_false aI];refine gO F46 ?_;refine bj ?_;refine gO F46 ?_;simp
  ·have Hm:c.length=d.length:=by simp only[bne_eq_false_iff_eq,List.length_map]at h5;omega
   refine gO F46 ?_
   with_reducible refine ao (LK x y hx) ?_
   refine gO F46 ?_;by_cases ni:x=y
   ·refine aW (by simp[ni]) ?_;rw[decide_eq_true ni];refine gO F46 ?_;refine I.loop (κ:=Nat) ([4,5]++rg 31 18) (fun k=>[(5,.d (.int .i64 k))]) (fun _=>[]) (fun k=>k<=a.length/\a.take k=b.take k) (fun k=>a.length-k) 0 ⟨Nat.zero_le _,rfl⟩ ?_ ?_
    ·exact sZ
    ·intro k hk IH;refine I.head ab F46 2000 ?_;(conv=>whnf);refine ai (fun h6=>?_) (fun h6=>?_)
     ·have ah:k<a.length:=by simpa using h6
      obtain⟨u,hu⟩:=aG ah;obtain⟨w,hw⟩:=aG (l:=b) (k:=k) (by omega);refine gO F46 ?_;refine I.bJ ab bG 2000 (by kernel_rfl) ?_;(conv=>whnf);refine aB (e:=u.enc) (aN hu) rfl ?_;refine gD ?_;refine aB (e:=w.enc) (aN hw) rfl ?_;refine gD ?_;refine gO F46 ?_;refine ai (fun h7=>?_) (fun h7=>?_)
      ·have aI:u≠w:=by rintro rfl;simp at h7
       refine gO F46 ?_;rw[decide_eq_false (od hu hw aI)];simp
      ·have he:u=w:=by
        obtain⟨u1,u2,u3⟩:=u;obtain⟨w1,w2,w3⟩:=w;simp at h7;simp[h7]
       refine gO F46 ?_;refine I.back (IH (k+1) ⟨by omega,qX hk.2 hu hw he⟩ (by omega)) ?_;exact sZ
     ·have aA:k=a.length:=by simp at h6;omega
      have WX:a=b:=qY hk.2 (by omega) (by omega);rw[decide_eq_true WX];refine gO F46 ?_;refine I.loop (κ:=Nat) ([4,6]++rg 49 18) (fun k=>[(6,.d (.int .i64 k))]) (fun _=>[]) (fun k=>k<=c.length/\c.take k=d.take k) (fun k=>c.length-k) 0 ⟨Nat.zero_le _,rfl⟩ ?_ ?_
      ·exact sZ
      ·intro k hk IH;refine I.head ab F46 2000 ?_;(conv=>whnf);refine ai (fun h6=>?_) (fun h6=>?_)
       ·have ah:k<c.length:=by simpa using h6
        obtain⟨u,hu⟩:=aG ah;obtain⟨w,hw⟩:=aG (l:=d) (k:=k) (by omega);refine gO F46 ?_;refine I.bJ ab bG 2000 (by kernel_rfl) ?_;(conv=>whnf);refine aB (e := .int .i64 u) (aN hu) rfl ?_;refine gD ?_;refine aB (e := .int .i64 w) (aN hw) rfl ?_;refine gD ?_;refine gO F46 ?_;refine ai (fun h7=>?_) (fun h7=>?_)
        ·have aI:u≠w:=by rintro rfl;simp at h7
         refine gO F46 ?_;rw[decide_eq_false (od hu hw aI)];simp
        ·have he:u=w:=by simpa using h7
         refine gO F46 ?_;refine I.back (IH (k+1) ⟨by omega,qX hk.2 hu hw he⟩ (by omega)) ?_;exact sZ
       ·have aA:k=c.length:=by simp at h6;omega
        have WY:c=d:=qY hk.2 (by omega) (by omega);refine gO F46 ?_;simp[WY]
   ·refine aU (by simp[ni]) ?_;rw[decide_eq_false ni];refine gO F46 ?_;simp
structure bZ.kS(h:bZ):Prop where
 aC:h.aC.length<=1000000
 aE:h.aE.length<=1000000
 hints:h.hints.length<=1000000
 anchor:h.anchor.data.length<=2147483648
 jB:∀ c∈h.aE,c.aw.kS
theorem Hn(h g:bZ)(hf:h.kS):aq E 19 [h.enc,g.enc] (· = .bool (decide (h=g))):=by
 obtain⟨a,b,x,c,dr,fi⟩:=h;obtain⟨a2,b2,x2,c2,Aq,Ar⟩:=g;obtain⟨q1,q2,q3,q4,q5⟩:=hf;simp only at q1 q2 q3 q4 q5;have hd:decide ((⟨a,b,x,c,dr,fi⟩:bZ)=⟨a2,b2,x2,c2,Aq,Ar⟩)=(decide (dr=Aq)&&decide (fi=Ar)&&(decide (a=a2)&&decide (c=c2)&&decide (x=x2))&&decide (b=b2)):=by
  rw[Bool.eq_iff_iff];simp;constructor
  ·rintro⟨h1,h2,h3,h4,h5,h6⟩;exact⟨⟨⟨h5,h6⟩,⟨h1,h4⟩,h3⟩,h2⟩
  ·rintro⟨⟨⟨h5,h6⟩,⟨h1,h4⟩,h3⟩,h2⟩;exact⟨h1,h2,h3,h4,h5,h6⟩
 rw[hd];show aq E _ [DV.agg [.sl (a.map Host.enc),.sl (b.map aY.enc),.str x.name,.int .i64 x.type,.int .i64 x.cy,.sl (x.data.map Datum.enc),.sl (c.map (.int .i64)),.int .i64 dr,.int .i64 fi],DV.agg [.sl (a2.map Host.enc),.sl (b2.map aY.enc),.str x2.name,.int .i64 x2.type,.int .i64 x2.cy,.sl (x2.data.map Datum.enc),.sl (c2.map (.int .i64)),.int .i64 Aq,.int .i64 Ar]] _;have Ap:=WW a a2 x x2 c c2 q1 q3 q4;refine eP F19 ?_;refine ai (fun h4=>?_) (fun h4=>?_)
 ·have aI:dr≠Aq:=by rintro rfl;simp at h4
  rw[decide_eq_false aI];refine gO F19 ?_;refine bj ?_;refine gO F19 ?_;refine bj ?_;refine gO F19 ?_;refine bj ?_;refine gO F19 ?_;simp
 ·have WZ:dr=Aq:=by simpa using h4
  rw[decide_eq_true WZ];refine gO F19 ?_;refine ai (fun h5=>?_) (fun h5=>?_)
  ·have aI:fi≠Ar:=by rintro rfl;simp at h5
   rw[decide_eq_false aI];refine gO F19 ?_;refine bj ?_;refine gO F19 ?_;refine bj ?_;refine gO F19 ?_;simp
  ·have W2:fi=Ar:=by simpa using h5
   rw[decide_eq_true W2];refine gO F19 ?_;refine ai (fun h6=>?_) (fun h6=>?_)
   ·have aI:b≠b2:=by rintro rfl;simp at h6
    rw[decide_eq_false aI];refine gO F19 ?_;refine bj ?_;refine gO F19 ?_;simp
   ·have qA:b.length=b2.length:=by simp only[bne_eq_false_iff_eq,List.length_map]at h6;omega
    refine gO F19 ?_
    with_reducible refine ao (Ap) ?_
    refine gO F19 ?_;generalize (decide (a=a2)&&decide (c=c2)&&decide (x=x2))=W at *;cases W
    ·refine bj ?_;refine gO F19 ?_;simp
    ·refine aR ?_;refine gO F19 ?_;refine I.loop (κ:=Nat) (rg 4 4++rg 47 44) (fun k=>[(5,.d (.int .i64 k))]) (fun _=>[]) (fun k=>k<=b.length/\b.take k=b2.take k) (fun k=>b.length-k) 0 ⟨Nat.zero_le _,rfl⟩ ?_ ?_
     ·exact sZ
     ·intro k hk IH;refine I.head ab F19 2000 ?_;(conv=>whnf);refine ai (fun h7=>?_) (fun h7=>?_)
      ·have ah:k<b.length:=by simpa using h7
       obtain⟨u,hu⟩:=aG ah;obtain⟨w,hw⟩:=aG (l:=b2) (k:=k) (by omega);have kx:=q5 u (List.mem_of_getElem? hu);refine gO F19 ?_;refine aB (e:=u.enc) (aN hu) rfl ?_;refine gO F19 ?_;refine aB (e:=w.enc) (aN hw) rfl ?_;refine gO F19 ?_;refine ai (fun h8=>?_) (fun h8=>?_)
       ·have aI:u≠w:=by rintro rfl;simp at h8
        refine gO F19 ?_;refine bj ?_;refine gO F19 ?_;refine bj ?_;refine gO F19 ?_;refine bj ?_;refine gO F19 ?_;rw[decide_eq_false (od hu hw aI)];simp
       ·have e1:u.host=w.host:=by simpa using h8
        refine gO F19 ?_;refine ai (fun h9=>?_) (fun h9=>?_)
        ·have aI:u≠w:=by rintro rfl;simp at h9
         refine gO F19 ?_;refine bj ?_;refine gO F19 ?_;refine bj ?_;refine gO F19 ?_;rw[decide_eq_false (od hu hw aI)];simp
        ·have e2:u.cu=w.cu:=by simpa using h9
         refine gO F19 ?_;refine ai (fun vw=>?_) (fun vw=>?_)
         ·have aI:u≠w:=by rintro rfl;simp at vw
          refine gO F19 ?_;refine bj ?_;refine gO F19 ?_;rw[decide_eq_false (od hu hw aI)];simp
         ·have e3:u.upto=w.upto:=by simpa using vw
          refine gO F19 ?_
          with_reducible refine ao (UA u.aw w.aw kx) ?_
          refine gO F19 ?_;by_cases hz:u.aw=w.aw
          ·have he:u=w:=by
            obtain⟨u1,u2,u3,u4⟩:=u;obtain⟨w1,w2,w3,w4⟩:=w;simp only at e1 e2 e3 hz;rw[e1,e2,e3,hz]
           refine aW (by simp[hz]) ?_;refine gO F19 ?_;refine I.back (IH (k+1) ⟨by omega,qX hk.2 hu hw he⟩ (by omega)) ?_;exact sZ
          ·have aI:u≠w:=fun e=>hz (e ▸ rfl);refine aU (by simp[hz]) ?_;refine gO F19 ?_;rw[decide_eq_false (od hu hw aI)];simp
      ·have aA:k=b.length:=by simp at h7;omega
       have vy:b=b2:=qY hk.2 (by omega) (by omega);refine gO F19 ?_;simp[vy]
end Go.Proofs.YtfmdaiojokniiaaGreatDoor.P
end
