/- Lemmas of mine. Conditions: as stated. -/
import Derived.Test.YtfmdaiojokniiaaGreatDoorS15
import Derived.Test.YtfmdaiojokniiaaGreatDoorS16
set_option linter.unusedVariables false
set_option linter.unusedSimpArgs false
open Bool renaming false_and->ahH,eq_iff_iff->ahf,true_and->afC,and_false->ahI
open List renaming getElem?_take->aek,mem_of_getElem?->afh,all_eq_true->ad',mem_of_mem_take->ag0,map_append->aeJ,mem_map->aer,drop_eq_nil_of_le->ajn
open Nat renaming zero_le->afv
section
namespace Go.Proofs.YtfmdaiojokniiaaGreatDoor.P
open Go Go.aA
set_option maxRecDepth 100000
set_option maxHeartbeats 4000000
def rT(s:kA):Bool:=decide (s.cZ.length<=20)&&s.cZ.all fun p=>lr p.au
theorem X4(s:kA):ar E 94 [s.enc] (· = .bool (rT s)):=by
 obtain⟨l⟩:=s;unfold rT;simp only;show ar E _ [DV.agg [.sl (l.map aK.enc)]] _;refine eP F94 ?_;refine J.loop (κ:=Nat) (rg 2 21) (fun k=>[(3,.d (.int .i64 k))]) (fun _=>[]) (fun k=>k<=l.length/\k<=20/\(l.take k).all (fun p=>lr p.au)=true) (fun k=>l.length-k) 0 ⟨afv _,by omega,rfl⟩ ?_ ?_
 ·exact sZ
 intro k hk IH;refine J.head ag F94 2000 ?_;(conv=>whnf);refine ai (fun h5=>?_) (fun h5=>?_)
 ·have ah:k<l.length:=by simpa using h5
  refine gO F94 ?_;refine ai (fun h6=>?_) (fun h6=>?_)
  ·have pn:k<20:=by have:=of_decide_eq_true h6;omega
   obtain⟨x,hx⟩:=aH ah;refine gO F94 ?_;refine aD (e:=x.enc) (aO hx) rfl ?_;refine gO F94 ?_
   with_reducible refine aq (Hb x.au) ?_
   refine gO F94 ?_;cases hz:lr x.au
   ·refine a8 ?_;refine gO F94 ?_;rw[di (p:=fun p=>lr p.au) hx hz,ahI]
   ·refine aR ?_;refine gO F94 ?_;refine J.back (IH (k+1) ⟨by omega,by omega,dv (p:=fun p=>lr p.au) hk.2.2 hx hz⟩ (by omega)) ?_;exact sZ
  ·have pn:¬ k<20:=by have:=of_decide_eq_false h6;omega
   have fL:=hk.2.1;have hle:¬ l.length<=20:=by omega
   refine gO F94 ?_;rw[decide_eq_false hle,ahH];simp;omega
 ·have aC:l.length<=k:=by simpa using h5
  have fL:=hk.2.1;have hle:l.length<=20:=by omega
  rw[lY (p:=fun p=>lr p.au) hk.2.2 aC,decide_eq_true hle];refine gO F94 ?_;refine aR ?_;refine gO F94 ?_;have:decide (((l.map aK.enc).length:Int)<=20)=true:=by simp;omega
  rw[this];rfl
def AQ(l:List Step):Bool:=decide (l.length<=20)&&l.all fun s=>rT s.cD
theorem X5(l:List Step):ar E 36 [.sl (l.map Step.enc)] (· = .bool (AQ l)):=by
 unfold AQ;refine eP F36 ?_;refine J.loop (κ:=Nat) (rg 2 19) (fun k=>[(3,.d (.int .i64 k))]) (fun _=>[]) (fun k=>k<=l.length/\k<=20/\(l.take k).all (fun p=>rT p.cD)=true) (fun k=>l.length-k) 0 ⟨afv _,by omega,rfl⟩ ?_ ?_
 ·exact sZ
 intro k hk IH;refine J.head ag F36 2000 ?_;(conv=>whnf);refine ai (fun h5=>?_) (fun h5=>?_)
 ·have ah:k<l.length:=by simpa using h5
  refine gO F36 ?_;refine ai (fun h6=>?_) (fun h6=>?_)
  ·have pn:k<20:=by have:=of_decide_eq_true h6;omega
   obtain⟨x,hx⟩:=aH ah;refine gO F36 ?_;refine aD (e:=x.enc) (aO hx) rfl ?_;refine gO F36 ?_
   with_reducible refine aq (X4 x.cD) ?_
   refine gO F36 ?_;cases hz:rT x.cD
   ·refine a8 ?_;refine gO F36 ?_;rw[di (p:=fun p=>rT p.cD) hx hz,ahI]
   ·refine aR ?_;refine gO F36 ?_;refine J.back (IH (k+1) ⟨by omega,by omega,dv (p:=fun p=>rT p.cD) hk.2.2 hx hz⟩ (by omega)) ?_;exact sZ
  ·have pn:¬ k<20:=by have:=of_decide_eq_false h6;omega
   have fL:=hk.2.1;have hle:¬ l.length<=20:=by omega
   refine gO F36 ?_;rw[decide_eq_false hle,ahH];simp;omega
 ·have aC:l.length<=k:=by simpa using h5
  have fL:=hk.2.1;have hle:l.length<=20:=by omega
  rw[lY (p:=fun p=>rT p.cD) hk.2.2 aC,decide_eq_true hle];refine gO F36 ?_;refine aR ?_;refine gO F36 ?_;have:decide (((l.map Step.enc).length:Int)<=20)=true:=by simp;omega
  rw[this];rfl
def pw(c:aQ):Bool:=lr c.au && !(decide ((c.au.ao.length:Int)>100))
def AR(h:bO):Bool:=(h.aB.take 21).all pw&&(h.ay.take 71).all l8&&yb h.aB.length h.ay.length h.hints.length h.anchor.data.length
theorem X6(h:bO):ar E 11 [h.enc] (· = .bool (AR h)):=by
 obtain⟨ay,aB,anchor,hints,bJ,fin⟩:=h;unfold AR;simp only;show ar E _ [DV.agg [.sl (ay.map Host.enc),.sl (aB.map aQ.enc),.str anchor.name,.int .i64 anchor.type,.int .i64 anchor.bY,.sl (anchor.data.map Datum.enc),.sl (hints.map (.int .i64)),.int .i64 bJ,.int .i64 fin]] _;refine eP F11 ?_;refine J.loop (κ:=Nat) ([2,3]++rg 5 30) (fun k=>[(3,.d (.int .i64 k))]) (fun _=>[]) (fun k=>k<=aB.length/\k<=21/\(aB.take k).all pw=true) (fun k=>aB.length-k) 0 ⟨afv _,by omega,rfl⟩ ?_ ?_
 ·exact sZ
 intro k hk IH;refine J.head ag F11 2000 ?_;(conv=>whnf);have fL:=hk.2.1;refine ai (fun h5=>?_) (fun h5=>?_)
 ·have ah:k<aB.length:=by simpa using h5
  refine gO F11 ?_;refine ai (fun h6=>?_) (fun h6=>?_)
  ·have pn:k<=20:=by have:=of_decide_eq_true h6;omega
   obtain⟨x,hx⟩:=aH ah;refine gO F11 ?_;refine aD (e:=x.enc) (aO hx) rfl ?_;refine gO F11 ?_
   with_reducible refine aq (Hb x.au) ?_
   refine gO F11 ?_;cases hz:lr x.au
   ·have iK:pw x=false:=by rw[pw,hz];rfl
    refine a8 ?_;refine gO F11 ?_;refine a8 ?_;refine gO F11 ?_;rw[di (k:=k) (by rw[aek,if_pos (by omega)];exact hx) iK,ahH,ahH]
   ·refine aR ?_;refine gO F11 ?_;refine aD (e:=x.enc) (aO hx) rfl ?_;refine gO F11 ?_;refine ai (fun h7=>?_) (fun h7=>?_)
    ·have iK:pw x=false:=by rw[pw,hz,h7];rfl
     refine gO F11 ?_;rw[di (k:=k) (by rw[aek,if_pos (by omega)];exact hx) iK,ahH,ahH]
    ·have iK:pw x=true:=by rw[pw,hz,h7];rfl
     refine gO F11 ?_;refine J.back (IH (k+1) ⟨by omega,by omega,dv hk.2.2 hx iK⟩ (by omega)) ?_;exact sZ
  ·have X7:k=21:=by have:=of_decide_eq_false h6;omega
   have je:(aB.take 21).all pw=true:=by rw[<- X7];exact hk.2.2
   rw[je,afC];refine gO F11 ?_;refine J.loop (κ:=Nat) ([2,4]++rg 35 19) (fun k=>[(4,.d (.int .i64 k))]) (fun _=>[]) (fun k=>k<=ay.length/\k<=71/\(ay.take k).all l8=true) (fun k=>ay.length-k) 0 ⟨afv _,by omega,rfl⟩ ?_ ?_
   ·exact sZ
   intro j hj JH;refine J.head ag F11 2000 ?_;(conv=>whnf);have AS:=hj.2.1;refine ai (fun g5=>?_) (fun g5=>?_)
   ·have ah:j<ay.length:=by simpa using g5
    refine gO F11 ?_;refine ai (fun g6=>?_) (fun g6=>?_)
    ·have X8:j<=70:=by have:=of_decide_eq_true g6;omega
     obtain⟨x,hx⟩:=aH ah;refine gO F11 ?_;refine aD (e:=x.enc) (aO hx) rfl ?_;refine gO F11 ?_;refine ai (fun g7=>?_) (fun g7=>?_)
     ·have hz:l8 x=false:=by rw[l8,g7];rfl
      refine gO F11 ?_;rw[di (k:=j) (by rw[aek,if_pos (by omega)];exact hx) hz,ahH]
     ·have hz:l8 x=true:=by rw[l8,g7];rfl
      refine gO F11 ?_;refine J.back (JH (j+1) ⟨by omega,by omega,dv hj.2.2 hx hz⟩ (by omega)) ?_;exact sZ
    ·have H8:j=71:=by have:=of_decide_eq_false g6;omega
     have aL:(ay.take 71).all l8=true:=by rw[<- H8];exact hj.2.2
     rw[aL];refine gO F11 ?_;clear IH JH;repeat' (first|with_reducible(first|refine cY ?_|refine cN ?_|refine ai (fun _=>?_) (fun _=>?_))|refine gA F11 ?_|refine gB ?_|with_reducible rfl)
     all_goals
      clear aL je hk hj;simp_all[yb];try (first|omega|(rw[ahf];simp;omega))
   ·have aC:ay.length<=j:=by simpa using g5
    have aL:(ay.take 71).all l8=true:=by
     have h1:=lY hj.2.2 aC;rw[ad']at h1 ⊢;exact fun y hy=>h1 y (ag0 hy)
    rw[aL];refine gO F11 ?_;refine aR ?_;refine gO F11 ?_;clear IH JH;repeat' (first|with_reducible(first|refine cY ?_|refine cN ?_|refine ai (fun _=>?_) (fun _=>?_))|refine gA F11 ?_|refine gB ?_|with_reducible rfl)
    all_goals
     clear aL je hk hj;simp_all[yb];try (first|omega|(rw[ahf];simp;omega))
 ·have aC:aB.length<=k:=by simpa using h5
  have je:(aB.take 21).all pw=true:=by
   have h1:=lY hk.2.2 aC;rw[ad']at h1 ⊢;exact fun y hy=>h1 y (ag0 hy)
  rw[je,afC];refine gO F11 ?_;refine aR ?_;refine gO F11 ?_;refine J.loop (κ:=Nat) ([2,4]++rg 35 19) (fun k=>[(4,.d (.int .i64 k))]) (fun _=>[]) (fun k=>k<=ay.length/\k<=71/\(ay.take k).all l8=true) (fun k=>ay.length-k) 0 ⟨afv _,by omega,rfl⟩ ?_ ?_
  ·exact sZ
  intro j hj JH;refine J.head ag F11 2000 ?_;(conv=>whnf);have AS:=hj.2.1;refine ai (fun g5=>?_) (fun g5=>?_)
  ·have ah:j<ay.length:=by simpa using g5
   refine gO F11 ?_;refine ai (fun g6=>?_) (fun g6=>?_)
   ·have X8:j<=70:=by have:=of_decide_eq_true g6;omega
    obtain⟨x,hx⟩:=aH ah;refine gO F11 ?_;refine aD (e:=x.enc) (aO hx) rfl ?_;refine gO F11 ?_;refine ai (fun g7=>?_) (fun g7=>?_)
    ·have hz:l8 x=false:=by rw[l8,g7];rfl
     refine gO F11 ?_;rw[di (k:=j) (by rw[aek,if_pos (by omega)];exact hx) hz,ahH]
    ·have hz:l8 x=true:=by rw[l8,g7];rfl
     refine gO F11 ?_;refine J.back (JH (j+1) ⟨by omega,by omega,dv hj.2.2 hx hz⟩ (by omega)) ?_;exact sZ
   ·have H8:j=71:=by have:=of_decide_eq_false g6;omega
    have aL:(ay.take 71).all l8=true:=by rw[<- H8];exact hj.2.2
    rw[aL];refine gO F11 ?_;clear IH JH;repeat' (first|with_reducible(first|refine cY ?_|refine cN ?_|refine ai (fun _=>?_) (fun _=>?_))|refine gA F11 ?_|refine gB ?_|with_reducible rfl)
    all_goals
     clear aL je hk hj;simp_all[yb];try (first|omega|(rw[ahf];simp;omega))
  ·have aC:ay.length<=j:=by simpa using g5
   have aL:(ay.take 71).all l8=true:=by
    have h1:=lY hj.2.2 aC;rw[ad']at h1 ⊢;exact fun y hy=>h1 y (ag0 hy)
   rw[aL];refine gO F11 ?_;refine aR ?_;refine gO F11 ?_;clear IH JH;repeat' (first|with_reducible(first|refine cY ?_|refine cN ?_|refine ai (fun _=>?_) (fun _=>?_))|refine gA F11 ?_|refine gB ?_|with_reducible rfl)
   all_goals
    clear aL je hk hj;simp_all[yb];try (first|omega|(rw[ahf];simp;omega))
abbrev nN:=Int × Int × Text
@[reducible] def nN.en (p : nN) : DV := .agg [.int .i64 p.1, .int .i64 p.2.1, .str p.2.2]
theorem Of(a b:nN):eL (nN.en a) (nN.en b)=decide (a=b):=by
 show((a.1==b.1)&&((a.2.1==b.2.1)&&((a.2.2==b.2.2)&&true)))=_;rw[ahf];simp[Prod.ext_iff]
theorem Og{es:List (DV × DV)}(h:mP nN.en es):∀ p∈es,du E.T (TK.struct [(0,3),(1,3),(2,9)]) p.1:=fun p hp=>by
 obtain⟨a,e⟩:=h p hp;rw[e];exact⟨_,rfl,rfl,⟨_,rfl,_,rfl⟩,rfl,⟨_,rfl,_,rfl⟩,rfl,⟨_,rfl,_,rfl⟩,trivial⟩
def Claim.key(c:Claim):nN:=(c.host,c.time,c.au.ao)
def nO(n:Nat)(fin t:Int)(S:List nN)(c:Claim):Bool:=iz n ⟨c.host,c.au⟩&&decide (t<=c.time)&&decide (c.time<fin)&&decide (c.key ∉ S)
def fZ(n:Nat)(fin:Int):Int->List nN->List Claim->Bool
 |_,_,[]=>true
 |t,S,c::l=>nO n fin t S c&&fZ n fin c.time (S++[c.key]) l
def kJ(h:bO)(l:List Claim):Bool:=decide (l.length<=4000)&&fZ h.ay.length h.fin 0 [] l
def fa(l:List Claim)(k:Nat):Int:=match bN l k with
 |none=>0
 |some q=>q.time
theorem Oh{n:Nat}{fin:Int}{l:List Claim}{k:Nat}{x:Claim}(hx:l[k]?=some x):fZ n fin (fa l k) ((l.take k).map Claim.key) (l.drop k)=(nO n fin (fa l k) ((l.take k).map Claim.key) x&&fZ n fin (fa l (k+1)) ((l.take (k+1)).map Claim.key) (l.drop (k+1))):=by
 obtain⟨hk,e⟩:=List.getElem?_eq_some_iff.1 hx;have e2:fa l (k+1)=x.time:=by simp[fa,bN,hx]
 rw[List.drop_eq_getElem_cons hk,e,fZ,cG hx,aeJ,e2];rfl
def oH.Fits(l:List Claim):Prop:=l.length<=maxLen/\∀ c∈l,c.au.Fits
theorem X9(z:bc)(hf:z.Fits):ar E 118 [z.enc] (· = .bool (fQ z)):=by
 have c1:=gU z.ao hf.ao;have e2:z.ae.isEmpty=(((z.ae.map Signed.enc).length:Int)==0):=by
  rw[ahf];simp[List.isEmpty_iff]
 unfold fQ;rw[e2];cases h1:Nm.valid z.ao
 ·rw[h1]at c1;refine eP Tryz.func118 ?_;repeat' (first|with_reducible(first|refine aq (c1) ?_|refine ax (c1) ?_|refine cY ?_|refine cN ?_|refine ai (fun _=>?_) (fun _=>?_))|refine gA Tryz.func118 ?_|refine gB ?_|with_reducible rfl)
  all_goals simp_all
 rw[h1]at c1;rw[Hr h1];have h2:=Nm.LZ _ h1;obtain⟨ao,l⟩:=z;simp only at c1 h2 ⊢;cases ao with
 |nil=>simp at h2
 |cons c r =>
  show ar E _ [DV.agg [.str (c::r),.sl (l.map Signed.enc)]] _;have e:((c.toNat:Int) != 42) = !(c==42):=by
   rw[ahf];simp only[bne_iff_ne,ne_eq,Bool.not_eq_true',beq_eq_false_iff_ne];exact not_congr ⟨fun h=>UInt8.toNat_inj.1 (Int.ofNat.inj h),fun h=>h ▸ rfl⟩
  refine eP Tryz.func118 ?_;repeat' (first|with_reducible(first|refine aq (c1) ?_|refine ax (c1) ?_|refine cY ?_|refine cN ?_|refine ai (fun _=>?_) (fun _=>?_))|refine gA Tryz.func118 ?_|refine gB ?_|with_reducible rfl)
  all_goals try (simp_all;done)
  refine kX c (by decide) rfl ?_;refine gO Tryz.func118 ?_;rw[e];refine congrArg DV.bool ?_;simp_all[Nm.iu]
theorem X'(h:bO)(l:List Claim)(hf:oH.Fits l):ar E 54 [h.enc,.sl (l.map Claim.enc)] (· = .bool (kJ h l)):=by
 obtain⟨ay,aB,anchor,hints,bJ,fin⟩:=h;obtain⟨hl,hz⟩:=hf;unfold maxLen at hl;unfold kJ;simp only;show ar E _ [DV.agg [.sl (ay.map Host.enc),.sl (aB.map aQ.enc),.str anchor.name,.int .i64 anchor.type,.int .i64 anchor.bY,.sl (anchor.data.map Datum.enc),.sl (hints.map (.int .i64)),.int .i64 bJ,.int .i64 fin],_] _;refine eP F54 ?_;refine J.loop (κ:=Nat) (rg 4 90) (fun k=>[(5,.d (.int .i64 k))]) (fun _=>[]) (fun k=>k<=l.length/\fZ ay.length fin 0 [] l=fZ ay.length fin (fa l k) ((l.take k).map Claim.key) (l.drop k)/\0<=fa l k) (fun k=>l.length-k) 0 ⟨afv _,rfl,Int.le_refl 0⟩ ?_ ?_
 ·exact sZ
 rintro i ⟨hi,js,cS⟩ IH;refine J.head ag F54 2000 ?_;(conv=>whnf);refine ai (fun h5=>?_) (fun h5=>?_)
 ·have ah:i<l.length:=by simpa using h5
  obtain⟨x,hx⟩:=aH ah;have fE:=hz x (afh hx);rw[Oh hx]at js;have bg:ar E 130 [.int .i64 ((ay.map Host.enc).length:Nat),.agg [.sl [.agg [.int .i64 x.host,.str x.au.ao,.sl (x.au.ae.map Signed.enc)]]]] (· = .bool (iz ay.length ⟨x.host,x.au⟩)):=by
   have:=N9 ⟨[⟨x.host,x.au⟩]⟩ (ay.map Host.enc).length ⟨fun p hp=>by simp at hp;subst hp;exact fE,by simp⟩
   rwa [show gK (ay.map Host.enc).length ⟨[⟨x.host,x.au⟩]⟩=iz ay.length ⟨x.host,x.au⟩ by simp[gK]]at this
  refine gO F54 ?_;refine aD (e:=x.enc) (aO hx) rfl ?_;refine gO F54 ?_;have Dx:∀ b r,fZ ay.length fin 0 [] l=(b&&r)->b=false->DV.bool false=DV.bool (decide (l.length<=4000)&&fZ ay.length fin 0 [] l):=fun b r h1 h2=>by rw[h1,h2];simp
  obtain⟨q,hq⟩:∃ q,0<i->l[i-1]?=some q/\fa l i=q.time:=by
   by_cases h0:0<i
   ·obtain⟨q,h1,h2⟩:=rC h0 hi;exact⟨q,fun _=>⟨h1,by rw[fa,h2]⟩⟩
   ·exact⟨x,fun h=>absurd h h0⟩
  have Ya:¬ 0<i->fa l i=0:=fun h=>by rw[show i=0 by omega];rfl
  have bad:=fun h=>Dx _ _ js h;have pos:decide ((i:Int)>0)=true->0<i:=fun h=>by simpa using h
  have Yb:decide ((i:Int)>0)=true->rm (l.map Claim.enc) (IntKind.i64.wrap ((i:Int)-1)) q.enc:=fun h=>by
   have h0:=pos h;rw[wrap64 (by omega) (by omega),show(i:Int)-1=((i-1:Nat):Int) by omega];exact aO (hq h0).1
  have lV:decide ((i:Int)>0)=true->fa l i=q.time:=fun h=>(hq (pos h)).2;have Nx:decide ((i:Int)>0)=false->fa l i=0:=fun h=>Ya (by simpa using h);have ye:nO ay.length fin (fa l i) ((l.take i).map Claim.key) x=(iz ay.length ⟨x.host,x.au⟩&&decide (fa l i<=x.time)&&decide (x.time<fin)&&decide (x.key ∉ (l.take i).map Claim.key)):=rfl;refine dU ?_;repeat' (first|with_reducible(first|refine aq (bg) ?_|refine ax (bg) ?_|refine aD (Yb (by assumption)) rfl ?_|refine cY ?_|refine cN ?_|refine ai (fun _=>?_) (fun _=>?_))|refine gA F54 ?_|refine gB ?_|with_reducible rfl)
  all_goals try (exact bad (by rw[ye];simp_all;try omega))
  all_goals
   have hk:nO ay.length fin (fa l i) ((l.take i).map Claim.key) x=decide (x.key ∉ (l.take i).map Claim.key):=by
    rw[ye];have:iz ay.length ⟨x.host,x.au⟩=true/\fa l i<=x.time/\x.time<fin:=by refine⟨?_,?_,?_⟩<;>simp_all<;>omega
    simp[this.1,this.2.1,this.2.2]
   have ht:0<=x.time:=by simp_all
   refine gO F54 ?_;refine J.loop (κ:=Nat) ([4,8]++rg 59 35) (fun j=>[(8,.d (.int .i64 j))]) (fun _=>[]) (fun j=>j<=i/\∀ m y,m<j->l[m]?=some y->y.key≠x.key) (fun j=>i-j) 0 ⟨afv _,fun m y h=>by omega⟩ ?_ ?_
   ·exact sZ
   rintro j ⟨hj,bI⟩ JH;refine J.head ag F54 2000 ?_;(conv=>whnf);refine ai (fun h8=>?_) (fun h8=>?_)
   ·have lM:j<i:=by simpa using h8
    obtain⟨y,hy⟩:=aH (l:=l) (k:=j) (by omega);have Oi:y.key=x.key↔y.host=x.host/\y.time=x.time/\y.au.ao=x.au.ao:=by simp[Claim.key]
    have Yc:y.key=x.key->nO ay.length fin (fa l i) ((l.take i).map Claim.key) x=false:=fun e=>by
     rw[hk,decide_eq_false_iff_not,Classical.not_not,<- e];exact aer.2 ⟨y,afh (by rw[aek,if_pos lM];exact hy),rfl⟩
    refine gO F54 ?_;refine dU ?_;repeat' (first|with_reducible(first|refine aD (aO hy) rfl ?_|refine cY ?_|refine cN ?_|refine ai (fun _=>?_) (fun _=>?_))|refine gA F54 ?_|refine gB ?_|with_reducible rfl)
    all_goals try (exact bad (Yc (Oi.2 ⟨by simp_all,by simp_all,by simp_all⟩)))
    all_goals
     have aJ:y.key≠x.key:=fun e=>by
      have:=Oi.1 e;simp_all
     refine gO F54 ?_;refine J.back (JH (j+1) ⟨by omega,fun m z hm hz=>(Nat.lt_succ_iff_lt_or_eq.1 hm).elim (bI m z · hz) (fun e=>by subst e;rw[hy]at hz;cases hz;exact aJ)⟩ (by omega)) ?_;exact sZ
   ·have aC:j=i:=by simp at h8;omega
    subst aC;have aP:nO ay.length fin (fa l j) ((l.take j).map Claim.key) x=true:=by
     rw[hk,decide_eq_true_eq];intro hm;obtain⟨y,hy,e⟩:=aer.1 hm;obtain⟨m,hm⟩:=List.getElem?_of_mem hy;have Yd:=aX hm;rw[List.length_take]at Yd;rw[aek,if_pos (by omega)]at hm;exact bI m y (by omega) hm e
    refine gO F54 ?_;refine J.back (IH (j+1) ⟨by omega,by rw[js,aP];rfl,by simp[fa,bN,hx,ht]⟩ (by omega)) ?_;exact sZ
 ·have aC:l.length<=i:=by simpa using h5
  rw[ajn aC]at js;refine gO F54 ?_;rw[js];simp[fZ];try omega
def vR(e:eH):Bool:=(e.bM.take 21).all (fun c=>lr c.au)&&(e.jR.take 11).all rI&&AR e.before&&AQ e.steps&&decide ((e.bM.length:Int)<=20)&&decide ((e.jR.length:Int)<=10)
def cO.Oj(t:cO):Prop:=t.cache.list.length<=maxLen/\t.heard.length<=maxLen/\(∀ x∈t.heard,x.answer.ae.length<=maxLen)/\t.result.ae.length<=maxLen
theorem Ye(e:eH)(h1:e.bM.length<=maxLen)(h2:e.jR.length<=maxLen)(h3:∀ t∈e.jR,t.Oj):ar E 10 [e.enc] (· = .bool (vR e)):=by
 have c1:=X6 e.before;have c2:=X5 e.steps;obtain⟨⟨ay,aB,anchor,hints,bJ,fin⟩,sl,cl,tl⟩:=e;unfold vR;simp only at c1 c2 h1 h2 h3 ⊢;unfold maxLen at h1 h2;show ar E _ [DV.agg [.sl (ay.map Host.enc),.sl (aB.map aQ.enc),.str anchor.name,.int .i64 anchor.type,.int .i64 anchor.bY,.sl (anchor.data.map Datum.enc),.sl (hints.map (.int .i64)),.int .i64 bJ,.int .i64 fin,.sl (sl.map Step.enc),.sl (cl.map Claim.enc),.sl (tl.map cO.enc)]] _;refine eP F10 ?_;refine J.loop (κ:=Nat) ([2,3,4]++rg 7 20) (fun k=>[(3,.d (.int .i64 k))]) (fun _=>[]) (fun k=>k<=cl.length/\k<=21/\(cl.take k).all (fun c=>lr c.au)=true) (fun k=>cl.length-k) 0 ⟨afv _,by omega,rfl⟩ ?_ ?_
 ·exact sZ
 rintro k ⟨hk,fL,aL⟩ IH;refine J.head ag F10 2000 ?_;(conv=>whnf);by_cases ah:k<cl.length/\k<21
 ·obtain⟨x,hx⟩:=aH ah.1;have no:=fun h=>di (l:=cl.take 21) (k:=k) (p:=fun c:Claim=>lr c.au) (by rw[aek,if_pos ah.2];exact hx) h;have back:=fun h=>IH (k+1) ⟨by omega,by omega,dv aL hx h⟩ (by omega);have c3:=Hb x.au;refine aY (by simp;omega) ?_;refine gO F10 ?_;refine aY (by simp;omega) ?_;refine gO F10 ?_;repeat' (first|with_reducible(first|refine aD (aO hx) rfl ?_|refine aq (c3) ?_|refine ax (c3) ?_|refine cY ?_|refine cN ?_|refine ai (fun _=>?_) (fun _=>?_))|refine gA F10 ?_|refine gB ?_|with_reducible rfl)
  all_goals try (rw[no (by simp_all)];simp;done)
  refine gO F10 ?_;refine J.back (back (by simp_all)) ?_;exact sZ
 ·rw[Av aL ah fL];by_cases h:k<cl.length
  case pos =>
   refine aY (by simpa using h) ?_;refine gO F10 ?_;refine aU (by simp;omega) ?_;refine gO F10 ?_;refine J.loop (κ:=Nat) ([2,5,6]++rg 27 19) (fun k=>[(5,.d (.int .i64 k))]) (fun _=>[]) (fun k=>k<=tl.length/\k<=11/\(tl.take k).all rI=true) (fun k=>tl.length-k) 0 ⟨afv _,by omega,rfl⟩ ?_ ?_
   ·exact sZ
   clear IH;rintro j ⟨hj,AS,vL⟩ JH;refine J.head ag F10 2000 ?_;(conv=>whnf);by_cases rU:j<tl.length/\j<11
   ·obtain⟨x,hx⟩:=aH rU.1;have no:=fun h=>di (l:=tl.take 11) (k:=j) (p:=rI) (by rw[aek,if_pos rU.2];exact hx) h;have back:=fun h=>JH (j+1) ⟨by omega,by omega,dv vL hx h⟩ (by omega);obtain⟨g1,g2,g3,g4⟩:=h3 x (afh hx);have c3:=MZ x g1 g2 g3 g4;refine aY (by simp;omega) ?_;refine gO F10 ?_;refine aY (by simp;omega) ?_;refine gO F10 ?_;repeat' (first|with_reducible(first|refine aD (aO hx) rfl ?_|refine aq (c3) ?_|refine ax (c3) ?_|refine cY ?_|refine cN ?_|refine ai (fun _=>?_) (fun _=>?_))|refine gA F10 ?_|refine gB ?_|with_reducible rfl)
    all_goals try (rw[no (by simp_all)];simp;done)
    refine gO F10 ?_;refine J.back (back (by simp_all)) ?_;exact sZ
   ·rw[Av vL rU AS];by_cases h:j<tl.length
    ·refine aY (by simpa using h) ?_;refine gO F10 ?_;refine aU (by simp;omega) ?_;refine gO F10 ?_;repeat' (first|with_reducible(first|refine aq (c1) ?_|refine ax (c1) ?_|refine aq (c2) ?_|refine ax (c2) ?_|refine cY ?_|refine cN ?_|refine ai (fun _=>?_) (fun _=>?_))|refine gA F10 ?_|refine gB ?_|with_reducible rfl)
     all_goals (refine congrArg DV.bool ?_;simp_all;try omega)
    ·refine aU (by simpa using h) ?_;refine gO F10 ?_;refine aR ?_;refine gO F10 ?_;repeat' (first|with_reducible(first|refine aq (c1) ?_|refine ax (c1) ?_|refine aq (c2) ?_|refine ax (c2) ?_|refine cY ?_|refine cN ?_|refine ai (fun _=>?_) (fun _=>?_))|refine gA F10 ?_|refine gB ?_|with_reducible rfl)
     all_goals (refine congrArg DV.bool ?_;simp_all;try omega)
  case neg =>
   refine aU (by simpa using h) ?_;refine gO F10 ?_;refine aR ?_;refine gO F10 ?_;refine J.loop (κ:=Nat) ([2,5,6]++rg 27 19) (fun k=>[(5,.d (.int .i64 k))]) (fun _=>[]) (fun k=>k<=tl.length/\k<=11/\(tl.take k).all rI=true) (fun k=>tl.length-k) 0 ⟨afv _,by omega,rfl⟩ ?_ ?_
   ·exact sZ
   clear IH;rintro j ⟨hj,AS,vL⟩ JH;refine J.head ag F10 2000 ?_;(conv=>whnf);by_cases rU:j<tl.length/\j<11
   ·obtain⟨x,hx⟩:=aH rU.1;have no:=fun h=>di (l:=tl.take 11) (k:=j) (p:=rI) (by rw[aek,if_pos rU.2];exact hx) h;have back:=fun h=>JH (j+1) ⟨by omega,by omega,dv vL hx h⟩ (by omega);obtain⟨g1,g2,g3,g4⟩:=h3 x (afh hx);have c3:=MZ x g1 g2 g3 g4;refine aY (by simp;omega) ?_;refine gO F10 ?_;refine aY (by simp;omega) ?_;refine gO F10 ?_;repeat' (first|with_reducible(first|refine aD (aO hx) rfl ?_|refine aq (c3) ?_|refine ax (c3) ?_|refine cY ?_|refine cN ?_|refine ai (fun _=>?_) (fun _=>?_))|refine gA F10 ?_|refine gB ?_|with_reducible rfl)
    all_goals try (rw[no (by simp_all)];simp;done)
    refine gO F10 ?_;refine J.back (back (by simp_all)) ?_;exact sZ
   ·rw[Av vL rU AS];by_cases h:j<tl.length
    ·refine aY (by simpa using h) ?_;refine gO F10 ?_;refine aU (by simp;omega) ?_;refine gO F10 ?_;repeat' (first|with_reducible(first|refine aq (c1) ?_|refine ax (c1) ?_|refine aq (c2) ?_|refine ax (c2) ?_|refine cY ?_|refine cN ?_|refine ai (fun _=>?_) (fun _=>?_))|refine gA F10 ?_|refine gB ?_|with_reducible rfl)
     all_goals (refine congrArg DV.bool ?_;simp_all;try omega)
    ·refine aU (by simpa using h) ?_;refine gO F10 ?_;refine aR ?_;refine gO F10 ?_;repeat' (first|with_reducible(first|refine aq (c1) ?_|refine ax (c1) ?_|refine aq (c2) ?_|refine ax (c2) ?_|refine cY ?_|refine cN ?_|refine ai (fun _=>?_) (fun _=>?_))|refine gA F10 ?_|refine gB ?_|with_reducible rfl)
     all_goals (refine congrArg DV.bool ?_;simp_all;try omega)
def ju(e:eH):Bool:=e.jR.all kC&&gM e.before e.steps&&kJ e.before e.bM&&decide ((e.jR.length:Int)<=100)
structure eH.Fits(e:eH):Prop where
 before:e.before.Fits
 aB:e.before.aB.length<=1000000
 hints:e.before.hints.length<=1000000
 steps:Steps.Fits e.steps
 bM:oH.Fits e.bM
 Dv:e.jR.length<=maxLen
 each:∀ t∈e.jR,t.cV
theorem Yf(e:eH)(hf:e.Fits):ar E 21 [e.enc] (· = .bool (ju e)):=by
 have c1:=XG e.before e.steps hf.before hf.aB hf.hints hf.steps;have c2:=X' e.before e.bM hf.bM;have hl:=hf.Dv;have he:=hf.each;obtain⟨⟨ay,aB,anchor,hints,bJ,fin⟩,sl,cl,tl⟩:=e;clear hf;unfold ju;simp only at c1 c2 hl he ⊢;unfold maxLen at hl;show ar E _ [DV.agg [.sl (ay.map Host.enc),.sl (aB.map aQ.enc),.str anchor.name,.int .i64 anchor.type,.int .i64 anchor.bY,.sl (anchor.data.map Datum.enc),.sl (hints.map (.int .i64)),.int .i64 bJ,.int .i64 fin,.sl (sl.map Step.enc),.sl (cl.map Claim.enc),.sl (tl.map cO.enc)]] _;refine eP F21 ?_;refine J.loop (κ:=Nat) ([2,3,4]++rg 6 15) (fun k=>[(3,.d (.int .i64 k))]) (fun _=>[]) (fun k=>k<=tl.length/\(tl.take k).all kC=true) (fun k=>tl.length-k) 0 ⟨afv _,rfl⟩ ?_ ?_
 ·exact sZ
 rintro k ⟨hk,aL⟩ IH;refine J.head ag F21 2000 ?_;(conv=>whnf);refine ai (fun h5=>?_) (fun h5=>?_)
 ·have ah:k<tl.length:=by simpa using h5
  obtain⟨x,hx⟩:=aH ah;have c3:=V1 x (he x (afh hx));refine gO F21 ?_;repeat' (first|with_reducible(first|refine aD (aO hx) rfl ?_|refine aq (c3) ?_|refine ax (c3) ?_|refine cY ?_|refine cN ?_|refine ai (fun _=>?_) (fun _=>?_))|refine gA F21 ?_|refine gB ?_|with_reducible rfl)
  all_goals try (rw[di hx (by simp_all)];simp;done)
  refine gO F21 ?_;refine J.back (IH (k+1) ⟨by omega,dv aL hx (by simp_all)⟩ (by omega)) ?_;exact sZ
 ·have aC:tl.length<=k:=by simpa using h5
  rw[lY aL aC];refine gO F21 ?_;repeat' (first|with_reducible(first|refine aq (c1) ?_|refine ax (c1) ?_|refine aq (c2) ?_|refine ax (c2) ?_|refine cY ?_|refine cN ?_|refine ai (fun _=>?_) (fun _=>?_))|refine gA F21 ?_|refine gB ?_|with_reducible rfl)
  all_goals (refine congrArg DV.bool ?_;simp_all;try omega)
def oH.DB(h:bO)(l:List Claim):Prop:=l.length<=maxLen/\∀ (k:Nat) (c:Claim),l[k]?=some c->c.au.Fits\/¬ (0<=c.host/\c.host<h.ay.length/\fa l k<=c.time/\c.time<h.fin)
theorem oH.Fits.b{h:bO}{l:List Claim}(hf:oH.Fits l):oH.DB h l:=⟨hf.1,fun k c hc => .inl (hf.2 c (afh hc))⟩
theorem Ol(h:bO)(l:List Claim)(hf:oH.DB h l):ar E 48 [h.enc,.sl (l.map Claim.enc)] (· = .bool (kJ h l)):=by
 obtain⟨ay,aB,anchor,hints,bJ,fin⟩:=h;obtain⟨hl,hz⟩:=hf;unfold maxLen at hl;unfold kJ;simp only;show ar E _ [DV.agg [.sl (ay.map Host.enc),.sl (aB.map aQ.enc),.str anchor.name,.int .i64 anchor.type,.int .i64 anchor.bY,.sl (anchor.data.map Datum.enc),.sl (hints.map (.int .i64)),.int .i64 bJ,.int .i64 fin],_] _;refine eP F48 ?_;refine ai (fun h1=>?_) (fun h1=>?_)
 ·refine gO F48 ?_;refine congrArg DV.bool ?_;simp_all;try omega
 have hlen:decide (l.length<=4000)=true:=by simp at h1 ⊢;omega
 rw[hlen,afC];clear h1 hlen;refine gO F48 ?_;refine gO F48 ?_;refine J.loop (κ:=Nat) ([4,6,8,9]++rg 16 54) (fun k=>[(16,.d (.int .i64 k)),(4,.d (.bool false)),(5,.map 1),(6,.d (.int .i64 (fa l k)))]) (fun k=>[(1,.map (ev nN.en ((l.take k).map Claim.key)))]) (fun k=>k<=l.length/\fZ ay.length fin 0 [] l=fZ ay.length fin (fa l k) ((l.take k).map Claim.key) (l.drop k)/\0<=fa l k) (fun k=>l.length-k) 0 ⟨afv _,rfl,Int.le_refl 0⟩ ?_ ?_
 ·(conv=>whnf);repeat (first|exact trivial|(refine sI ?_;conv=>whnf))
  refine And.intro rfl ?_;(conv=>whnf);repeat (first|exact trivial|(refine sI ?_;conv=>whnf))
  refine And.intro rfl ?_;exact sZ
 rintro i ⟨hi,js,cS⟩ IH;refine J.head ag F48 2000 ?_;(conv=>whnf);refine ai (fun h5=>?_) (fun h5=>?_)
 ·have ah:i<l.length:=by simpa using h5
  obtain⟨x,hx⟩:=aH ah;have fE:=hz i x hx;simp only at fE;rw[Oh hx]at js;have fC:=(oG Of ((l.take i).map Claim.key)).1;obtain⟨gJ,jq⟩:=vK Of ((l.take i).map Claim.key) x.key;have wM:nN.en x.key=.agg [.int .i64 x.host,.int .i64 x.time,.str x.au.ao]:=rfl;have ye:nO ay.length fin (fa l i) ((l.take i).map Claim.key) x=(decide (0<=x.host)&&decide (x.host<ay.length)&&(fQ x.au||eu x.au)&&decide (fa l i<=x.time)&&decide (x.time<fin)&&decide (x.key ∉ (l.take i).map Claim.key)):=rfl;have bad:nO ay.length fin (fa l i) ((l.take i).map Claim.key) x=false->DV.bool false=DV.bool (fZ ay.length fin 0 [] l):=fun h=>by rw[js,h];rfl
  refine gO F48 ?_;refine aD (e:=x.enc) (aO hx) rfl ?_;refine gO F48 ?_;rcases fE with fE|fE
  case inr =>
   have hk:=bad (by
    rw[ye];cases q:fQ x.au||eu x.au
    ·simp
    ·simp;intro q1 q2 q3 q4
     exact absurd ⟨q1,q2,q3,q4⟩ fE)
   repeat' (first|with_reducible(first|refine cY ?_|refine cN ?_|refine ai (fun _=>?_) (fun _=>?_))|refine gA F48 ?_|refine gB ?_|with_reducible rfl)
   all_goals first
    |exact hk
    |(rename_i a1 a2 a3 a4;exact absurd ⟨by simpa using a1,by simpa using a2,by simpa using a3,by simpa using a4⟩ fE)
  have c1:=vH x.au fE;have c2:=X9 x.au fE;repeat' (first|with_reducible(first|refine aq (c1) ?_|refine ax (c1) ?_|refine aq (c2) ?_|refine ax (c2) ?_|refine cY ?_|refine cN ?_|refine ai (fun _=>?_) (fun _=>?_))|refine gA F48 ?_|refine gB ?_|with_reducible rfl)
  all_goals try (exact bad (by rw[ye];simp_all;try omega))
  all_goals
   have hk:nO ay.length fin (fa l i) ((l.take i).map Claim.key) x=decide (x.key ∉ (l.take i).map Claim.key):=by
    rw[ye];have:(0<=x.host/\x.host<ay.length)/\(fQ x.au||eu x.au)=true/\fa l i<=x.time/\x.time<fin:=by refine⟨⟨?_,?_⟩,?_,?_,?_⟩<;>simp_all<;>omega
    simp[this.1.1,this.1.2,this.2.1,this.2.2.1,this.2.2.2]
   have ht:0<=x.time:=by simp_all;omega
   refine oX (.bool false) (.bool false) ⟨_,rfl,rfl,⟨_,rfl,_,rfl⟩,rfl,⟨_,rfl,_,rfl⟩,rfl,⟨_,rfl,_,rfl⟩,trivial⟩ (Og fC) (fun w=>by kernel_rfl) (fun _ _ => .bool _) gJ jq ?_;refine gO F48 ?_;refine ai (fun h8=>?_) (fun h8=>?_)
   ·refine gO F48 ?_;exact bad (by rw[hk];simp_all)
   ·refine gO F48 ?_;refine aW ⟨⟨_,rfl,rfl,⟨_,rfl,_,rfl⟩,rfl,⟨_,rfl,_,rfl⟩,rfl,⟨_,rfl,_,rfl⟩,trivial⟩,Og fC⟩ ?_;refine gO F48 ?_;refine J.back (IH (i+1) ⟨by omega,by rw[js,hk,show decide (x.key ∉ (l.take i).map Claim.key)=true by simp_all];rfl,by simp[fa,bN,hx,ht]⟩ (by omega)) ?_;rw[cG hx,aeJ,show[x].map Claim.key=[x.key]from rfl,tH,show fa l (i+1)=x.time by simp[fa,bN,hx],wM];exact sZ
 ·have aC:l.length<=i:=by simpa using h5
  rw[ajn aC]at js;refine gO F48 ?_;rw[js];rfl
theorem Yg:aw E 119 [] [.d (.sl []),.fn (.func 50) [] []] (fun a b=>a=.d (.int .i64 (-1))/\b=[]):=by
 refine aw.run ag (fn:=Tryz.f119) Tryz.func119 (body:=Tryz.f119.body.getD .skip) rfl (by decide) 2000 rfl ?_;(conv=>whnf);refine J.mB ?_;refine J.run ag F119 2000 ?_;(conv=>whnf);refine aU rfl ?_;refine gO F119 ?_;exact⟨rfl,rfl⟩
theorem Yh:aw E 49 [] [.d (.sl []),.fn (.func 50) [] []] (fun a b=>a=.d (.bool false)/\b=[]):=by
 refine aw.run ag (fn:=Tryz.f49) Tryz.func49 (body:=Tryz.f49.body.getD .skip) rfl (by decide) 2000 rfl ?_;(conv=>whnf);refine jK Yg ?_;rintro r b ⟨rfl,rfl⟩;refine gO Tryz.func49 ?_;exact⟨rfl,rfl⟩
theorem Yi(e:eH)(h1:e.before.Fits)(h2:e.before.aB.length<=1000000)(h3:Steps.Fits e.steps)(h4:oH.DB e.before e.bM)(ht:e.jR=[]\/kJ e.before e.bM=false):ar E 20 [e.enc] (· = .bool (gM e.before e.steps&&kJ e.before e.bM)):=by
 have c1:=HW e.before e.steps h1 h2 h3;have c2:=Ol e.before e.bM h4;obtain⟨⟨ay,aB,anchor,hints,bJ,fin⟩,sl,cl,tl⟩:=e;simp only at c1 c2 ht ⊢;show ar E _ [DV.agg [.sl (ay.map Host.enc),.sl (aB.map aQ.enc),.str anchor.name,.int .i64 anchor.type,.int .i64 anchor.bY,.sl (anchor.data.map Datum.enc),.sl (hints.map (.int .i64)),.int .i64 bJ,.int .i64 fin,.sl (sl.map Step.enc),.sl (cl.map Claim.enc),.sl (tl.map cO.enc)]] _;refine eP Tryz.func20 ?_;repeat' (first|with_reducible(first|refine aq (c1) ?_|refine ax (c1) ?_|refine aq (c2) ?_|refine ax (c2) ?_|refine cY ?_|refine cN ?_|refine ai (fun _=>?_) (fun _=>?_))|refine gA Tryz.func20 ?_|refine gB ?_|with_reducible rfl)
 all_goals try (refine congrArg DV.bool ?_;simp_all;done)
 have:tl=[]:=ht.elim id fun h=>by simp_all
 subst this;refine jK Yh ?_;rintro r b ⟨rfl,rfl⟩;refine gO Tryz.func20 ?_;refine congrArg DV.bool ?_;simp_all
end Go.Proofs.YtfmdaiojokniiaaGreatDoor.P
end
