/- Lemmas of mine. Conditions: as stated. -/
import Derived.Test.YtlhehdgciafakaaGreatDoorQ14
import Derived.Test.YtlhehdgciafakaaGreatDoorQ15
set_option linter.unusedVariables false
set_option linter.unusedSimpArgs false
open Bool renaming false_and->ald,eq_iff_iff->akN,true_and->aja,and_false->ale
open List renaming getElem?_take->ahS,mem_of_getElem?->aiQ,all_eq_true->ahH,mem_of_mem_take->akx,map_append->aih,mem_map->ahY,drop_eq_nil_of_le->amU
open Nat renaming zero_le->ai4
section
namespace Go.Proofs.YtlhehdgciafakaaGreatDoor.P
open Go Go.az
set_option maxRecDepth 100000
set_option maxHeartbeats 4000000
def sf(s:mv):Bool:=decide (s.cQ.length<=20)&&s.cQ.all fun p=>nh p.ar
theorem aa3(s:mv):aq E 48 [s.enc] (· = .bool (sf s)):=by
 obtain⟨l⟩:=s;unfold sf;simp only;show aq E _ [DV.agg [.sl (l.map aH.enc)]] _;refine eP F48.h ?_;refine I.lP l.length (rg 2 21) (fun k=>[(3,.d (.int .i64 k))]) (fun _=>[]) (fun k=>k<=l.length/\k<=20/\(l.take k).all (fun p=>nh p.ar)=true) ⟨ai4 _,by omega,rfl⟩ ?_ ?_
 ·exact sZ
 intro k hk IH;refine zA ?_ ?_<;>intro h5
 ·have ai:k<l.length:=zD h5
  refine gC ?_;apply ah<;>intro h6
  ·have vw:k<20:=by have:=of_decide_eq_true h6;omega
   obtain⟨x,hx⟩:=aI ai;refine gC ?_;refine eM hx (gC ?_)
   with_reducible refine ao (I0 x.ar) ?_
   refine gC ?_;cases hz:nh x.ar
   ·refine vT ?_;rw[dK (p:=fun p=>nh p.ar) hx hz,ale]
   ·refine vF ?_;exact I.back (IH (k+1) ⟨by omega,by omega,ea (p:=fun p=>nh p.ar) hk.2.2 hx hz⟩ oM) sZ
  ·have vw:¬ k<20:=by have:=of_decide_eq_false h6;omega
   have fq:=hk.2.1;have hle:¬ l.length<=20:=by omega
   refine gC ?_;rw[decide_eq_false hle,ald];simp;omega
 ·have aA:l.length<=k:=zD h5
  have fq:=hk.2.1;have hle:l.length<=20:=by omega
  rw[nb (p:=fun p=>nh p.ar) hk.2.2 aA,decide_eq_true hle];refine gC ?_;refine vF ?_;have:decide (((l.map aH.enc).length:Int)<=20)=true:=by simp;omega
  rw[this];rfl
def zQ(l:List Step):Bool:=decide (l.length<=20)&&l.all fun s=>sf s.cE
theorem aa4(l:List Step):aq E 21 [.sl (l.map Step.enc)] (· = .bool (zQ l)):=by
 unfold zQ;refine eP F21.h ?_;refine I.lP l.length (rg 2 19) (fun k=>[(3,.d (.int .i64 k))]) (fun _=>[]) (fun k=>k<=l.length/\k<=20/\(l.take k).all (fun p=>sf p.cE)=true) ⟨ai4 _,by omega,rfl⟩ ?_ ?_
 ·exact sZ
 intro k hk IH;refine zA ?_ ?_<;>intro h5
 ·have ai:k<l.length:=zD h5
  refine gC ?_;apply ah<;>intro h6
  ·have vw:k<20:=by have:=of_decide_eq_true h6;omega
   obtain⟨x,hx⟩:=aI ai;refine gC ?_;refine eM hx (gC ?_)
   with_reducible refine ao (aa3 x.cE) ?_
   refine gC ?_;cases hz:sf x.cE
   ·refine vT ?_;rw[dK (p:=fun p=>sf p.cE) hx hz,ale]
   ·refine vF ?_;exact I.back (IH (k+1) ⟨by omega,by omega,ea (p:=fun p=>sf p.cE) hk.2.2 hx hz⟩ oM) sZ
  ·have vw:¬ k<20:=by have:=of_decide_eq_false h6;omega
   have fq:=hk.2.1;have hle:¬ l.length<=20:=by omega
   refine gC ?_;rw[decide_eq_false hle,ald];simp;omega
 ·have aA:l.length<=k:=zD h5
  have fq:=hk.2.1;have hle:l.length<=20:=by omega
  rw[nb (p:=fun p=>sf p.cE) hk.2.2 aA,decide_eq_true hle];refine gC ?_;refine vF ?_;have:decide (((l.map Step.enc).length:Int)<=20)=true:=by simp;omega
  rw[this];rfl
def qO(c:aT):Bool:=nh c.ar && !(decide ((c.ar.af.length:Int)>100))
def zR(h:bB):Bool:=(h.aw.take 21).all qO&&(h.ay.take 71).all nn&&zJ h.aw.length h.ay.length h.hints.length h.anchor.data.length
theorem Q1(h:bB):aq E 6 [h.enc] (· = .bool (zR h)):=by
 obtain⟨ay,aw,anchor,hints,bq,fin⟩:=h;unfold zR;simp only;show aq E _ [HD ay aw anchor hints bq fin] _;refine eP F6.h ?_;refine I.lP aw.length ([2,3]++rg 5 30) (fun k=>[(3,.d (.int .i64 k))]) (fun _=>[]) (fun k=>k<=aw.length/\k<=21/\(aw.take k).all qO=true) ⟨ai4 _,by omega,rfl⟩ ?_ ?_
 ·exact sZ
 intro k hk IH;refine zT ?_;have fq:=hk.2.1;apply ah<;>intro h5
 ·have ai:k<aw.length:=zD h5
  refine gC ?_;apply ah<;>intro h6
  ·have vw:k<=20:=by have:=of_decide_eq_true h6;omega
   obtain⟨x,hx⟩:=aI ai;refine gC ?_;refine eM hx (gC ?_)
   with_reducible refine ao (I0 x.ar) ?_
   refine gC ?_;cases hz:nh x.ar
   ·have iW:qO x=false:=by rw[qO,hz];rfl
    refine vT ?_;refine vT ?_;rw[dK (k:=k) (by rw[ahS,if_pos oM];exact hx) iW,ald,ald]
   ·refine vF ?_;refine eM hx (gC ?_);apply ah<;>intro h7
    ·have iW:qO x=false:=by rw[qO,hz,h7];rfl
     refine gC ?_;rw[dK (k:=k) (by rw[ahS,if_pos oM];exact hx) iW,ald,ald]
    ·have iW:qO x=true:=by rw[qO,hz,h7];rfl
     refine gC ?_;exact I.back (IH (k+1) ⟨by omega,by omega,ea hk.2.2 hx iW⟩ oM) sZ
  ·have h21:k=21:=by have:=of_decide_eq_false h6;omega
   have iZ:(aw.take 21).all qO=true:=by rw[<- h21];exact hk.2.2
   rw[iZ,aja];refine gC ?_;refine I.lP ay.length ([2,4]++rg 35 19) (fun k=>[(4,.d (.int .i64 k))]) (fun _=>[]) (fun k=>k<=ay.length/\k<=71/\(ay.take k).all nn=true) ⟨ai4 _,by omega,rfl⟩ ?_ ?_
   ·exact sZ
   intro j hj JH;refine zT ?_;have Cs:=hj.2.1;apply ah<;>intro g5
   ·have ai:j<ay.length:=zD g5
    refine gC ?_;apply ah<;>intro g6
    ·have h70:j<=70:=by have:=of_decide_eq_true g6;omega
     obtain⟨x,hx⟩:=aI ai;refine gC ?_;refine eM hx (gC ?_);apply ah<;>intro g7
     ·have hz:nn x=false:=by rw[nn,g7];rfl
      refine gC ?_;rw[dK (k:=j) (by rw[ahS,if_pos oM];exact hx) hz,ald]
     ·have hz:nn x=true:=by rw[nn,g7];rfl
      refine gC ?_;exact I.back (JH (j+1) ⟨by omega,by omega,ea hj.2.2 hx hz⟩ oM) sZ
    ·have J7:j=71:=by have:=of_decide_eq_false g6;omega
     have aM:(ay.take 71).all nn=true:=by rw[<- J7];exact hj.2.2
     rw[aM];refine gC ?_;clear IH JH;repeat' (first|with_reducible(first|refine cX ?_|apply ah<;>intro)|refine gE ?_|with_reducible rfl)
     all_goals
      clear aM iZ hk hj;simp_all[zJ];try (first|omega|(rw[akN];simp;omega))
   ·have aA:ay.length<=j:=zD g5
    have aM:(ay.take 71).all nn=true:=by
     have h1:=nb hj.2.2 aA;rw[ahH]at h1 ⊢;exact fun y hy=>h1 y (akx hy)
    rw[aM];refine gC ?_;refine vF ?_;clear IH JH;repeat' (first|with_reducible(first|refine cX ?_|apply ah<;>intro)|refine gE ?_|with_reducible rfl)
    all_goals
     clear aM iZ hk hj;simp_all[zJ];try (first|omega|(rw[akN];simp;omega))
 ·have aA:aw.length<=k:=zD h5
  have iZ:(aw.take 21).all qO=true:=by
   have h1:=nb hk.2.2 aA;rw[ahH]at h1 ⊢;exact fun y hy=>h1 y (akx hy)
  rw[iZ,aja];refine gC ?_;refine vF ?_;refine I.lP ay.length ([2,4]++rg 35 19) (fun k=>[(4,.d (.int .i64 k))]) (fun _=>[]) (fun k=>k<=ay.length/\k<=71/\(ay.take k).all nn=true) ⟨ai4 _,by omega,rfl⟩ ?_ ?_
  ·exact sZ
  intro j hj JH;refine zT ?_;have Cs:=hj.2.1;apply ah<;>intro g5
  ·have ai:j<ay.length:=zD g5
   refine gC ?_;apply ah<;>intro g6
   ·have h70:j<=70:=by have:=of_decide_eq_true g6;omega
    obtain⟨x,hx⟩:=aI ai;refine gC ?_;refine eM hx (gC ?_);apply ah<;>intro g7
    ·have hz:nn x=false:=by rw[nn,g7];rfl
     refine gC ?_;rw[dK (k:=j) (by rw[ahS,if_pos oM];exact hx) hz,ald]
    ·have hz:nn x=true:=by rw[nn,g7];rfl
     refine gC ?_;exact I.back (JH (j+1) ⟨by omega,by omega,ea hj.2.2 hx hz⟩ oM) sZ
   ·have J7:j=71:=by have:=of_decide_eq_false g6;omega
    have aM:(ay.take 71).all nn=true:=by rw[<- J7];exact hj.2.2
    rw[aM];refine gC ?_;clear IH JH;repeat' (first|with_reducible(first|refine cX ?_|apply ah<;>intro)|refine gE ?_|with_reducible rfl)
    all_goals
     clear aM iZ hk hj;simp_all[zJ];try (first|omega|(rw[akN];simp;omega))
  ·have aA:ay.length<=j:=zD g5
   have aM:(ay.take 71).all nn=true:=by
    have h1:=nb hj.2.2 aA;rw[ahH]at h1 ⊢;exact fun y hy=>h1 y (akx hy)
   rw[aM];refine gC ?_;refine vF ?_;clear IH JH;repeat' (first|with_reducible(first|refine cX ?_|apply ah<;>intro)|refine gE ?_|with_reducible rfl)
   all_goals
    clear aM iZ hk hj;simp_all[zJ];try (first|omega|(rw[akN];simp;omega))
abbrev qP:=Int × Int × Text
@[reducible] def qP.en (p : qP) : DV := .agg [.int .i64 p.1, .int .i64 p.2.1, .str p.2.2]
theorem Q2(a b:qP):fy (qP.en a) (qP.en b)=decide (a=b):=by
 show((a.1==b.1)&&((a.2.1==b.2.1)&&((a.2.2==b.2.2)&&true)))=_;rw[akN];simp[Prod.ext_iff]
theorem Q3{es:List (DV × DV)}(h:nX qP.en es):∀ p∈es,eo E.T (TK.struct [(0,3),(1,3),(2,9)]) p.1:=fun p hp=>by
 obtain⟨a,e⟩:=h p hp;rw[e];exact⟨_,rfl,rfl,⟨_,rfl,_,rfl⟩,rfl,⟨_,rfl,_,rfl⟩,rfl,⟨_,rfl,_,rfl⟩,trivial⟩
def Claim.key(c:Claim):qP:=(c.host,c.time,c.ar.af)
def tV(n:Nat)(fin t:Int)(S:List qP)(c:Claim):Bool:=ky n ⟨c.host,c.ar⟩&&decide (t<=c.time)&&decide (c.time<fin)&&decide (c.key ∉ S)
def oc(n:Nat)(fin:Int):Int->List qP->List Claim->Bool
 |_,_,[]=>true
 |t,S,c::l=>tV n fin t S c&&oc n fin c.time (S++[c.key]) l
def xH(h:bB)(l:List Claim):Bool:=decide (l.length<=4000)&&oc h.ay.length h.fin 0 [] l
def fP(l:List Claim)(k:Nat):Int:=match bS l k with
 |none=>0
 |some q=>q.time
theorem Q4{n:Nat}{fin:Int}{l:List Claim}{k:Nat}{x:Claim}(hx:l[k]?=some x):oc n fin (fP l k) ((l.take k).map Claim.key) (l.drop k)=(tV n fin (fP l k) ((l.take k).map Claim.key) x&&oc n fin (fP l (k+1)) ((l.take (k+1)).map Claim.key) (l.drop (k+1))):=by
 obtain⟨hk,e⟩:=List.getElem?_eq_some_iff.1 hx;have e2:fP l (k+1)=x.time:=by simp[fP,bS,hx]
 rw[List.drop_eq_getElem_cons hk,e,oc,cj hx,aih,e2];rfl
def qQ.Fits(l:List Claim):Prop:=l.length<=maxLen/\∀ c∈l,c.ar.Fits
theorem aa7(z:aK)(hf:z.Fits):aq E 102 [z.enc] (· = .bool (jz z)):=by
 have c1:=iP z.af hf.af;have e2:z.J.isEmpty=(((z.J.map Signed.enc).length:Int)==0):=by
  rw[akN];simp[List.isEmpty_iff]
 unfold jz;rw[e2];cases h1:Nm.valid z.af
 ·rw[h1]at c1;refine eP F102.h ?_;repeat' (first|with_reducible(first|refine cC c1 ?_|refine cX ?_|apply ah<;>intro)|refine gE ?_|with_reducible rfl)
  all_goals simp_all
 rw[h1]at c1;rw[Jd h1];have h2:=Nm.Og _ h1;obtain⟨af,l⟩:=z;simp only at c1 h2 ⊢;cases af with
 |nil=>simp at h2
 |cons c r =>
  show aq E _ [DV.agg [.str (c::r),.sl (l.map Signed.enc)]] _;have e:((c.toNat:Int) != 42) = !(c==42):=by
   rw[akN];simp only[bne_iff_ne,ne_eq,Bool.not_eq_true',beq_eq_false_iff_ne];exact not_congr ⟨fun h=>UInt8.toNat_inj.1 (Int.ofNat.inj h),fun h=>h ▸ rfl⟩
  refine eP F102.h ?_;repeat' (first|with_reducible(first|refine cC c1 ?_|refine cX ?_|apply ah<;>intro)|refine gE ?_|with_reducible rfl)
  all_goals try (simp_all;done)
  refine mR c dC rfl (gC ?_);rw[e];refine congrArg DV.bool ?_;simp_all[Nm.jS]
theorem aa8(h:bB)(l:List Claim)(hf:qQ.Fits l):aq E 44 [h.enc,.sl (l.map Claim.enc)] (· = .bool (xH h l)):=by
 obtain⟨ay,aw,anchor,hints,bq,fin⟩:=h;obtain⟨hl,hz⟩:=hf;unfold maxLen at hl;unfold xH;simp only;show aq E _ [HD ay aw anchor hints bq fin,_] _;refine eP F44.h ?_;refine I.lP l.length (rg 4 90) (fun k=>[(5,.d (.int .i64 k))]) (fun _=>[]) (fun k=>k<=l.length/\oc ay.length fin 0 [] l=oc ay.length fin (fP l k) ((l.take k).map Claim.key) (l.drop k)/\0<=fP l k) ⟨ai4 _,rfl,Int.le_refl 0⟩ ?_ ?_
 ·exact sZ
 rintro i ⟨hi,kz,db⟩ IH;refine zA ?_ ?_<;>intro h5
 ·have ai:i<l.length:=zD h5
  obtain⟨x,hx⟩:=aI ai;have gw:=hz x (aiQ hx);rw[Q4 hx]at kz;have bc:aq E 114 [.int .i64 ((ay.map Host.enc).length:Nat),.agg [.sl [.agg [.int .i64 x.host,.str x.ar.af,.sl (x.ar.J.map Signed.enc)]]]] (· = .bool (ky ay.length ⟨x.host,x.ar⟩)):=by
   have:=Qt ⟨[⟨x.host,x.ar⟩]⟩ (ay.map Host.enc).length ⟨fun p hp=>by simp at hp;subst hp;exact gw,by simp⟩
   rwa [show jV (ay.map Host.enc).length ⟨[⟨x.host,x.ar⟩]⟩=ky ay.length ⟨x.host,x.ar⟩ by simp[jV]]at this
  refine gC ?_;refine eM hx (gC ?_);have E4:∀ b r,oc ay.length fin 0 [] l=(b&&r)->b=false->DV.bool false=DV.bool (decide (l.length<=4000)&&oc ay.length fin 0 [] l):=fun b r h1 h2=>by rw[h1,h2];simp
  obtain⟨q,hq⟩:∃ q,0<i->l[i-1]?=some q/\fP l i=q.time:=by
   by_cases h0:0<i
   ·obtain⟨q,h1,h2⟩:=tF h0 hi;exact⟨q,fun _=>⟨h1,by rw[fP,h2]⟩⟩
   ·exact⟨x,fun h=>absurd h h0⟩
  have hq0:¬ 0<i->fP l i=0:=fun h=>by rw[show i=0 by omega];rfl
  have bad:=fun h=>E4 _ _ kz h;have pos:decide ((i:Int)>0)=true->0<i:=fun h=>zD h
  have aa':decide ((i:Int)>0)=true->vf (l.map Claim.enc) (IntKind.i64.wrap ((i:Int)-1)) q.enc:=fun h=>by
   have h0:=pos h;rw[wrap64 oM oM,show(i:Int)-1=((i-1:Nat):Int) by omega];exact bC (hq h0).1
  have lL:decide ((i:Int)>0)=true->fP l i=q.time:=fun h=>(hq (pos h)).2;have Pt:decide ((i:Int)>0)=false->fP l i=0:=fun h=>hq0 (zD h);have zS:tV ay.length fin (fP l i) ((l.take i).map Claim.key) x=(ky ay.length ⟨x.host,x.ar⟩&&decide (fP l i<=x.time)&&decide (x.time<fin)&&decide (x.key ∉ (l.take i).map Claim.key)):=rfl;refine dU ?_;repeat' (first|with_reducible(first|refine cC bc ?_|refine aR (aa' (by assumption)) rfl ?_|refine cX ?_|apply ah<;>intro)|refine gE ?_|with_reducible rfl)
  all_goals try (exact bad (by rw[zS];simp_all;try omega))
  all_goals
   have hk:tV ay.length fin (fP l i) ((l.take i).map Claim.key) x=decide (x.key ∉ (l.take i).map Claim.key):=by
    rw[zS];have:ky ay.length ⟨x.host,x.ar⟩=true/\fP l i<=x.time/\x.time<fin:=by refine⟨?_,?_,?_⟩<;>simp_all<;>omega
    simp[this.1,this.2.1,this.2.2]
   have ht:0<=x.time:=by simp_all
   refine gC ?_;refine I.lP i ([4,8]++rg 59 35) (fun j=>[(8,.d (.int .i64 j))]) (fun _=>[]) (fun j=>j<=i/\∀ m y,m<j->l[m]?=some y->y.key≠x.key) ⟨ai4 _,fun m y h=>by omega⟩ ?_ ?_
   ·exact sZ
   rintro j ⟨hj,bI⟩ JH;refine zA ?_ ?_<;>intro h8
   ·have lz:j<i:=zD h8
    obtain⟨y,hy⟩:=aI (l:=l) (k:=j) oM;have Q5:y.key=x.key↔y.host=x.host/\y.time=x.time/\y.ar.af=x.ar.af:=by simp[Claim.key]
    have aba:y.key=x.key->tV ay.length fin (fP l i) ((l.take i).map Claim.key) x=false:=fun e=>by
     rw[hk,decide_eq_false_iff_not,Classical.not_not,<- e];exact ahY.2 ⟨y,aiQ (by rw[ahS,if_pos lz];exact hy),rfl⟩
    refine gC ?_;refine dU ?_;repeat' (first|with_reducible(first|refine aR (bC hy) rfl ?_|refine cX ?_|apply ah<;>intro)|refine gE ?_|with_reducible rfl)
    all_goals try (exact bad (aba (Q5.2 ⟨by simp_all,by simp_all,by simp_all⟩)))
    all_goals
     have aL:y.key≠x.key:=fun e=>by
      have:=Q5.1 e;simp_all
     refine gC ?_;refine I.back (JH (j+1) ⟨by omega,fun m z hm hz=>(Nat.lt_succ_iff_lt_or_eq.1 hm).elim (bI m z · hz) (fun e=>by subst e;rw[hy]at hz;cases hz;exact aL)⟩ oM) ?_;exact sZ
   ·have aA:j=i:=by simp at h8;omega
    subst aA;have aV:tV ay.length fin (fP l j) ((l.take j).map Claim.key) x=true:=by
     rw[hk,decide_eq_true_eq];intro hm;obtain⟨y,hy,e⟩:=ahY.1 hm;obtain⟨m,hm⟩:=List.getElem?_of_mem hy;have hmj:=aW hm;rw[List.length_take]at hmj;rw[ahS,if_pos oM]at hm;exact bI m y oM hm e
    refine gC ?_;refine I.back (IH (j+1) ⟨by omega,by rw[kz,aV];rfl,by simp[fP,bS,hx,ht]⟩ oM) ?_;exact sZ
 ·have aA:l.length<=i:=zD h5
  rw[amU aA]at kz;refine gC ?_;rw[kz];simp[oc];try omega
def xI(e:iR):Bool:=(e.dA.take 21).all (fun c=>nh c.ar)&&(e.mw.take 11).all tU&&zR e.before&&zQ e.steps&&decide ((e.dA.length:Int)<=20)&&decide ((e.mw.length:Int)<=10)
def dO.Q6(t:dO):Prop:=t.cache.list.length<=maxLen/\t.heard.length<=maxLen/\(∀ x∈t.heard,x.answer.J.length<=maxLen)/\t.result.J.length<=maxLen
theorem abc(e:iR)(h1:e.dA.length<=maxLen)(h2:e.mw.length<=maxLen)(h3:∀ t∈e.mw,t.Q6):aq E 5 [e.enc] (· = .bool (xI e)):=by
 have c1:=Q1 e.before;have c2:=aa4 e.steps;obtain⟨⟨ay,aw,anchor,hints,bq,fin⟩,sl,cl,tl⟩:=e;unfold xI;simp only at c1 c2 h1 h2 h3 ⊢;unfold maxLen at h1 h2;show aq E _ [HE ay aw anchor hints bq fin sl cl tl] _;refine eP F5.h ?_;refine I.lP cl.length ([2,3,4]++rg 7 20) (fun k=>[(3,.d (.int .i64 k))]) (fun _=>[]) (fun k=>k<=cl.length/\k<=21/\(cl.take k).all (fun c=>nh c.ar)=true) ⟨ai4 _,by omega,rfl⟩ ?_ ?_
 ·exact sZ
 rintro k ⟨hk,fq,aM⟩ IH;refine zT ?_;by_cases ai:k<cl.length/\k<21
 ·obtain⟨x,hx⟩:=aI ai.1;have no:=fun h=>dK (l:=cl.take 21) (k:=k) (p:=fun c:Claim=>nh c.ar) (by rw[ahS,if_pos ai.2];exact hx) h;have back:=fun h=>IH (k+1) ⟨by omega,by omega,ea aM hx h⟩ oM;have c3:=I0 x.ar;refine aN (by simp;omega) ?_;refine gC ?_;refine aN (by simp;omega) ?_;refine gC ?_;repeat' (first|with_reducible(first|refine aR (bC hx) rfl ?_|refine cC c3 ?_|refine cX ?_|apply ah<;>intro)|refine gE ?_|with_reducible rfl)
  all_goals try (rw[no (by simp_all)];simp;done)
  refine gC ?_;exact I.back (back (by simp_all)) sZ
 ·rw[Cq aM ai fq];by_cases h:k<cl.length
  case pos =>
   refine aN (zD h) (gC ?_);refine aP (by simp;omega) ?_;refine gC ?_;refine I.lP tl.length ([2,5,6]++rg 27 19) (fun k=>[(5,.d (.int .i64 k))]) (fun _=>[]) (fun k=>k<=tl.length/\k<=11/\(tl.take k).all tU=true) ⟨ai4 _,by omega,rfl⟩ ?_ ?_
   ·exact sZ
   clear IH;rintro j ⟨hj,Cs,xB⟩ JH;refine zT ?_;by_cases tW:j<tl.length/\j<11
   ·obtain⟨x,hx⟩:=aI tW.1;have no:=fun h=>dK (l:=tl.take 11) (k:=j) (p:=tU) (by rw[ahS,if_pos tW.2];exact hx) h;have back:=fun h=>JH (j+1) ⟨by omega,by omega,ea xB hx h⟩ oM;obtain⟨g1,g2,g3,g4⟩:=h3 x (aiQ hx);have c3:=Q0 x g1 g2 g3 g4;refine aN (by simp;omega) ?_;refine gC ?_;refine aN (by simp;omega) ?_;refine gC ?_;repeat' (first|with_reducible(first|refine aR (bC hx) rfl ?_|refine cC c3 ?_|refine cX ?_|apply ah<;>intro)|refine gE ?_|with_reducible rfl)
    all_goals try (rw[no (by simp_all)];simp;done)
    refine gC ?_;exact I.back (back (by simp_all)) sZ
   ·rw[Cq xB tW Cs];by_cases h:j<tl.length
    ·refine aN (zD h) (gC ?_);refine aP (by simp;omega) ?_;refine gC ?_;repeat' (first|with_reducible(first|refine cC c1 ?_|refine cC c2 ?_|refine cX ?_|apply ah<;>intro)|refine gE ?_|with_reducible rfl)
     all_goals (refine congrArg DV.bool ?_;simp_all;try omega)
    ·refine aP (zD h) (gC ?_);refine vF ?_;repeat' (first|with_reducible(first|refine cC c1 ?_|refine cC c2 ?_|refine cX ?_|apply ah<;>intro)|refine gE ?_|with_reducible rfl)
     all_goals (refine congrArg DV.bool ?_;simp_all;try omega)
  case neg =>
   refine aP (zD h) (gC ?_);refine vF ?_;refine I.lP tl.length ([2,5,6]++rg 27 19) (fun k=>[(5,.d (.int .i64 k))]) (fun _=>[]) (fun k=>k<=tl.length/\k<=11/\(tl.take k).all tU=true) ⟨ai4 _,by omega,rfl⟩ ?_ ?_
   ·exact sZ
   clear IH;rintro j ⟨hj,Cs,xB⟩ JH;refine zT ?_;by_cases tW:j<tl.length/\j<11
   ·obtain⟨x,hx⟩:=aI tW.1;have no:=fun h=>dK (l:=tl.take 11) (k:=j) (p:=tU) (by rw[ahS,if_pos tW.2];exact hx) h;have back:=fun h=>JH (j+1) ⟨by omega,by omega,ea xB hx h⟩ oM;obtain⟨g1,g2,g3,g4⟩:=h3 x (aiQ hx);have c3:=Q0 x g1 g2 g3 g4;refine aN (by simp;omega) ?_;refine gC ?_;refine aN (by simp;omega) ?_;refine gC ?_;repeat' (first|with_reducible(first|refine aR (bC hx) rfl ?_|refine cC c3 ?_|refine cX ?_|apply ah<;>intro)|refine gE ?_|with_reducible rfl)
    all_goals try (rw[no (by simp_all)];simp;done)
    refine gC ?_;exact I.back (back (by simp_all)) sZ
   ·rw[Cq xB tW Cs];by_cases h:j<tl.length
    ·refine aN (zD h) (gC ?_);refine aP (by simp;omega) ?_;refine gC ?_;repeat' (first|with_reducible(first|refine cC c1 ?_|refine cC c2 ?_|refine cX ?_|apply ah<;>intro)|refine gE ?_|with_reducible rfl)
     all_goals (refine congrArg DV.bool ?_;simp_all;try omega)
    ·refine aP (zD h) (gC ?_);refine vF ?_;repeat' (first|with_reducible(first|refine cC c1 ?_|refine cC c2 ?_|refine cX ?_|apply ah<;>intro)|refine gE ?_|with_reducible rfl)
     all_goals (refine congrArg DV.bool ?_;simp_all;try omega)
def je(e:iR):Bool:=e.mw.all lW&&mz e.before e.steps&&xH e.before e.dA&&decide ((e.mw.length:Int)<=100)
structure iR.Fits(e:iR):Prop where
 before:e.before.Fits
 aw:e.before.aw.length<=1000000
 hints:e.before.hints.length<=1000000
 steps:Steps.Fits e.steps
 dA:qQ.Fits e.dA
 E2:e.mw.length<=maxLen
 each:∀ t∈e.mw,t.cR
theorem abd(e:iR)(hf:e.Fits):aq E 16 [e.enc] (· = .bool (je e)):=by
 have c1:=Qw e.before e.steps hf.before hf.aw hf.hints hf.steps;have c2:=aa8 e.before e.dA hf.dA;have hl:=hf.E2;have he:=hf.each;obtain⟨⟨ay,aw,anchor,hints,bq,fin⟩,sl,cl,tl⟩:=e;clear hf;unfold je;simp only at c1 c2 hl he ⊢;unfold maxLen at hl;show aq E _ [HE ay aw anchor hints bq fin sl cl tl] _;refine eP F16.h ?_;refine I.lP tl.length ([2,3,4]++rg 6 15) (fun k=>[(3,.d (.int .i64 k))]) (fun _=>[]) (fun k=>k<=tl.length/\(tl.take k).all lW=true) ⟨ai4 _,rfl⟩ ?_ ?_
 ·exact sZ
 rintro k ⟨hk,aM⟩ IH;refine zA ?_ ?_<;>intro h5
 ·have ai:k<tl.length:=zD h5
  obtain⟨x,hx⟩:=aI ai;have c3:=aa2 x (he x (aiQ hx));refine gC ?_;repeat' (first|with_reducible(first|refine aR (bC hx) rfl ?_|refine cC c3 ?_|refine cX ?_|apply ah<;>intro)|refine gE ?_|with_reducible rfl)
  all_goals try (rw[dK hx (by simp_all)];simp;done)
  refine gC ?_;exact I.back (IH (k+1) ⟨by omega,ea aM hx (by simp_all)⟩ oM) sZ
 ·have aA:tl.length<=k:=zD h5
  rw[nb aM aA];refine gC ?_;repeat' (first|with_reducible(first|refine cC c1 ?_|refine cC c2 ?_|refine cX ?_|apply ah<;>intro)|refine gE ?_|with_reducible rfl)
  all_goals (refine congrArg DV.bool ?_;simp_all;try omega)
def qQ.J8(h:bB)(l:List Claim):Prop:=l.length<=maxLen/\∀ (k:Nat) (c:Claim),l[k]?=some c->c.ar.Fits\/¬ (0<=c.host/\c.host<h.ay.length/\fP l k<=c.time/\c.time<h.fin)
theorem qQ.Fits.b{h:bB}{l:List Claim}(hf:qQ.Fits l):qQ.J8 h l:=⟨hf.1,fun k c hc => .inl (hf.2 c (aiQ hc))⟩
theorem abe(h:bB)(l:List Claim)(hf:qQ.J8 h l):aq E 38 [h.enc,.sl (l.map Claim.enc)] (· = .bool (xH h l)):=by
 obtain⟨ay,aw,anchor,hints,bq,fin⟩:=h;obtain⟨hl,hz⟩:=hf;unfold maxLen at hl;unfold xH;simp only;show aq E _ [HD ay aw anchor hints bq fin,_] _;refine eP F38.h ?_;apply ah<;>intro h1
 ·refine gC ?_;refine congrArg DV.bool ?_;simp_all;try omega
 have hlen:decide (l.length<=4000)=true:=by simp at h1 ⊢;omega
 rw[hlen,aja];clear h1 hlen;refine gC ?_;refine gC ?_;refine I.lP l.length ([4,6,8,9]++rg 16 54) (fun k=>[(16,.d (.int .i64 k)),(4,.d (.bool false)),(5,.map 1),(6,.d (.int .i64 (fP l k)))]) (fun k=>[(1,.map (eY qP.en ((l.take k).map Claim.key)))]) (fun k=>k<=l.length/\oc ay.length fin 0 [] l=oc ay.length fin (fP l k) ((l.take k).map Claim.key) (l.drop k)/\0<=fP l k) ⟨ai4 _,rfl,Int.le_refl 0⟩ ?_ ?_
 ·refine sY ?_
  refine⟨rfl, ?_⟩;refine sY ?_
  refine⟨rfl, ?_⟩;exact sZ
 rintro i ⟨hi,kz,db⟩ IH;refine zA ?_ ?_<;>intro h5
 ·have ai:i<l.length:=zD h5
  obtain⟨x,hx⟩:=aI ai;have gw:=hz i x hx;simp only at gw;rw[Q4 hx]at kz;have gv:=(pU Q2 ((l.take i).map Claim.key)).1;obtain⟨gU,jx⟩:=xy Q2 ((l.take i).map Claim.key) x.key;have yr:qP.en x.key=.agg [.int .i64 x.host,.int .i64 x.time,.str x.ar.af]:=rfl;have zS:tV ay.length fin (fP l i) ((l.take i).map Claim.key) x=(decide (0<=x.host)&&decide (x.host<ay.length)&&(jz x.ar||dN x.ar)&&decide (fP l i<=x.time)&&decide (x.time<fin)&&decide (x.key ∉ (l.take i).map Claim.key)):=rfl;have bad:tV ay.length fin (fP l i) ((l.take i).map Claim.key) x=false->DV.bool false=DV.bool (oc ay.length fin 0 [] l):=fun h=>by rw[kz,h];rfl
  refine gC ?_;refine eM hx (gC ?_);rcases gw with gw|gw
  case inr =>
   have hk:=bad (by
    rw[zS];cases q:jz x.ar||dN x.ar
    ·simp
    ·simp;intro q1 q2 q3 q4
     exact absurd ⟨q1,q2,q3,q4⟩ gw)
   repeat' (first|with_reducible(first|refine cX ?_|apply ah<;>intro)|refine gE ?_|with_reducible rfl)
   all_goals first
    |exact hk
    |(rename_i a1 a2 a3 a4;exact absurd ⟨zD a1,zD a2,zD a3,zD a4⟩ gw)
  have c1:=xt x.ar gw;have c2:=aa7 x.ar gw;repeat' (first|with_reducible(first|refine cC c1 ?_|refine cC c2 ?_|refine cX ?_|apply ah<;>intro)|refine gE ?_|with_reducible rfl)
  all_goals try (exact bad (by rw[zS];simp_all;try omega))
  all_goals
   have hk:tV ay.length fin (fP l i) ((l.take i).map Claim.key) x=decide (x.key ∉ (l.take i).map Claim.key):=by
    rw[zS];have:(0<=x.host/\x.host<ay.length)/\(jz x.ar||dN x.ar)=true/\fP l i<=x.time/\x.time<fin:=by refine⟨⟨?_,?_⟩,?_,?_,?_⟩<;>simp_all<;>omega
    simp[this.1.1,this.1.2,this.2.1,this.2.2.1,this.2.2.2]
   have ht:0<=x.time:=by simp_all;omega
   refine qm (.bool false) (.bool false) ⟨_,rfl,rfl,⟨_,rfl,_,rfl⟩,rfl,⟨_,rfl,_,rfl⟩,rfl,⟨_,rfl,_,rfl⟩,trivial⟩ (Q3 gv) (fun w=>by kernel_rfl) (fun _ _ => .bool _) gU jx (gC ?_);apply ah<;>intro h8
   ·refine gC ?_;exact bad (by rw[hk];simp_all)
   ·refine gC ?_;refine bj ⟨⟨_,rfl,rfl,⟨_,rfl,_,rfl⟩,rfl,⟨_,rfl,_,rfl⟩,rfl,⟨_,rfl,_,rfl⟩,trivial⟩,Q3 gv⟩ (gC ?_);refine I.back (IH (i+1) ⟨by omega,by rw[kz,hk,show decide (x.key ∉ (l.take i).map Claim.key)=true by simp_all];rfl,by simp[fP,bS,hx,ht]⟩ oM) ?_;rw[cj hx,aih,show[x].map Claim.key=[x.key]from rfl,vC,show fP l (i+1)=x.time by simp[fP,bS,hx],yr];exact sZ
 ·have aA:l.length<=i:=zD h5
  rw[amU aA]at kz;refine gC ?_;rw[kz];rfl
end Go.Proofs.YtlhehdgciafakaaGreatDoor.P
end
