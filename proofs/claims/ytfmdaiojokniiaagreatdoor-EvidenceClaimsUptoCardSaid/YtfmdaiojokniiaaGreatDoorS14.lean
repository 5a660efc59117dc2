/- Lemmas of mine. Conditions: as stated. -/
import Derived.Test.YtfmdaiojokniiaaGreatDoorS12
import Derived.Test.YtfmdaiojokniiaaGreatDoorS13
set_option linter.unusedVariables false
set_option linter.unusedSimpArgs false
open Array renaming range->aeD
open Bool renaming and_eq_true->aft,false_eq_true->aet,true_and->afC,and_assoc->aiK
open Int renaming toNat_natCast->afr
open List renaming mem_of_getElem?->afh,mem_append->aeI,getElem?_eq_some_iff->ag2,pairwise_iff_getElem->ahB,mem_map->aer,take_of_length_le->afS,mem_cons->afu,map_cons->ad0,map_append->aeJ,getElem?_of_mem->afe,getElem?_take->aek,length_map->aff,nodup_append->aeK,filter_append->aiM,filter_nil->ai7,getElem?_append_right->ae9,length_take->aeu,mem_cons_self->aeQ,getElem?_map->ad1,takeWhile_append_dropWhile->ai8,pairwise_append->ai9,replicate->ad6,nodup_iff_pairwise_ne->ai4,mem_cons_of_mem->aeR,pairwise_cons->ai',nodup_cons->agb,filter_cons_of_neg->aja,append_nil->ags,filter_cons_of_pos->ajb,append_of_mem->ajc,all_eq_true->ad',mem_singleton->ah9,length_append->aey,length_singleton->agw,getElem?_append_left->ael
open Nat renaming zero_le->afv,min_eq_left->afa,le_refl->aed,lt_trichotomy->agn,le_of_ble_eq_true->ad3
section
namespace Go.Proofs.YtfmdaiojokniiaaGreatDoor.P
open Go Go.aA
set_option maxRecDepth 100000
set_option maxHeartbeats 4000000
theorem HK{α:Type}{l:List α}(hn:l.Nodup){i j:Nat}{a:α}(hi:l[i]?=some a)(hj:l[j]?=some a):i=j:=by
 obtain⟨p1,e1⟩:=ag2.1 hi;obtain⟨p2,e2⟩:=ag2.1 hj;have h:=ahB.1 (ai4.1 hn);rcases agn i j with dY|dY|dY
 ·exact absurd (e1.trans e2.symm) (h i j p1 p2 dY)
 ·exact dY
 ·exact absurd (e2.trans e1.symm) (h j i p2 p1 dY)
theorem Dq(p:cH):du E.T (TK.struct [(0,3),(1,9)]) (cH.en p):=⟨_,rfl,rfl,⟨_,rfl,_,rfl⟩,rfl,⟨_,rfl,_,rfl⟩,trivial⟩
def aK.spot(p:aK):cH:=(p.host,p.au.ao)
theorem WR{z:bc}(h:eu z=true):z.ae≠[]:=fun e=>by
 simp only[eu,rD,aft]at h;simp[e,bk]at h
theorem Dr{l:List aK}{k:Nat}{x:aK}(h:l[k]?=some x):(l.take (k+1)).map aK.spot=(l.take k).map aK.spot++[x.spot]:=by
 rw[cG h,aeJ];rfl
theorem HL{l:List aK}{i:Nat}{x:aK}(hx:l[i]?=some x)(h:x.spot∈(l.take i).map aK.spot):¬ (l.map aK.spot).Nodup:=fun hn=>by
 obtain⟨y,hy,e⟩:=aer.1 h;obtain⟨m,hm⟩:=afe hy;rw[aek]at hm;split at hm
 ·rename_i kZ;have h1:(l.map aK.spot)[i]?=some x.spot:=by simp[hx]
  have h2:(l.map aK.spot)[m]?=some x.spot:=by simp[hm,e]
  have:=HK hn h1 h2;omega
 ·cases hm
theorem HM{l:List aK}{i:Nat}{x:aK}(hx:l[i]?=some x)(h:((l.take i).map aK.spot).Nodup)(hn:x.spot ∉ (l.take i).map aK.spot):((l.take (i+1)).map aK.spot).Nodup:=by
 rw[Dr hx,aeK];exact⟨h,by simp,fun a ha b hb e=>by simp at hb;subst hb;subst e;exact hn ha⟩
theorem x8{es:List (DV × DV)}(h:mP cH.en es):∀ p∈es,du E.T (TK.struct [(0,3),(1,9)]) p.1:=fun p hp=>by
 obtain⟨a,e⟩:=h p hp;rw[e];exact Dq a
theorem NP{α:Type}[DecidableEq α]{en:α->DV}(hk:∀ a b,eL (en a) (en b)=decide (a=b)){b:α}{v:DV}:∀ {es:List (DV × DV)},mP en es->(bW (en b) v es).length=es.length+(if (findD (en b) es).isSome then 0 else 1)
 |[],_=>by simp[bW,findD]
 |q::es,h=>by
  obtain⟨s,hs⟩:=h q (aeQ ..);obtain⟨q1,q2⟩:=q;simp only at hs;subst hs;unfold bW;simp only[hk];by_cases e:b=s
  ·subst e;simp[findD,hk]
  ·have ih:=NP hk (b:=b) (v:=v) (es:=es) (fun r hr=>h r (aeR _ hr));simp only[e,decide_false,aet,if_false,findD,hk,List.length_cons,ih];omega
theorem HN{α:Type}[DecidableEq α]{en:α->DV}(hk:∀ a b,eL (en a) (en b)=decide (a=b))(l:List α):∀ k,k<=l.length->(ev en (l.take k)).length=(eI [] (l.take k)).length
 |0,_=>rfl
 |k+1,h=>by
  obtain⟨x,hx⟩:=aH (l:=l) (k:=k) (by omega);have ih:=HN hk l k (by omega);rw[HC hx,NM hx,NP hk (oG hk _).1,(vK hk _ x).2,ih];by_cases hm:x∈l.take k
  ·simp[hm]
  ·simp[hm]
theorem WS{l:List Host}{i k:Nat}{x y:Host}(hx:l[i]?=some x)(hy:l[k]?=some y)(hk:k<i)(e:y.addr=x.addr):fD l=false:=by
 have:¬ (l.map (·.addr)).Nodup:=fun hn=>by
  have h1:(l.map (·.addr))[i]?=some x.addr:=by simp[hx]
  have h2:(l.map (·.addr))[k]?=some x.addr:=by simp[hy,e]
  have:=HK hn h1 h2;omega
 simp[fD,this]
theorem WT{l:List Int}{i:Nat}{x:Int}(h:(l.take i).Nodup)(hx:l[i]?=some x)(hn:∀ m y,m<i->l[m]?=some y->y≠x):(l.take (i+1)).Nodup:=by
 rw[cG hx,aeK];refine⟨h,by simp,fun a ha b hb e=>?_⟩;simp at hb;subst hb;subst e;obtain⟨m,hm⟩:=afe ha;rw[aek]at hm;split at hm
 ·rename_i kZ;exact hn m _ kZ hm rfl
 ·cases hm
theorem NQ(l:List Host)(hn:∀ x∈l,x.name.length<=maxLen):ar E 73 [.sl (l.map Host.enc)] (· = .bool (fD l)):=by
 refine eP F73 ?_;refine ai (fun h1=>?_) (fun h1=>?_)
 ·refine gO F73 ?_;have:fD l=false:=by simp[fD];simp at h1;omega
  rw[this]
 ·have hlen:l.length<=64:=by simp at h1;omega
  refine gO F73 ?_;refine J.loop (κ:=Nat) (rg 2 5++rg 10 53) (fun k=>[(3,.d (.int .i64 k)),(2,.d (.bool false))]) (fun _=>[]) (fun k=>k<=l.length/\(l.take k).all nL=true/\((l.map (·.addr)).take k).Nodup) (fun k=>l.length-k) 0 ⟨afv _,rfl,by simp⟩ ?_ ?_
  ·exact sZ
  rintro i ⟨hi,aL,c8⟩ IH;refine J.head ag F73 2000 ?_;(conv=>whnf);refine ai (fun h5=>?_) (fun h5=>?_)
  ·have ah:i<l.length:=by simpa using h5
   obtain⟨x,hx⟩:=aH ah;have ib:=hn x (afh hx);refine gO F73 ?_;refine aD (e:=x.enc) (aO hx) rfl ?_;refine gO F73 ?_
   with_reducible refine aq (eO x.name ib) ?_
   refine gO F73 ?_;cases hv:Nm.valid x.name
   ·repeat' (first|with_reducible(first|refine cY ?_|refine cN ?_|refine ai (fun _=>?_) (fun _=>?_))|refine gA F73 ?_|refine gB ?_|with_reducible rfl)
    all_goals (rw[Hz hx (by simp[nL,hv])])
   ·have iL:x.name.length<=1000:=by have:=dV hv;omega
    repeat' (first|with_reducible(first|refine aq (C1 x.name iL) ?_|refine ax (C1 x.name iL) ?_|refine cY ?_|refine cN ?_|refine ai (fun _=>?_) (fun _=>?_))|refine gA F73 ?_|refine gB ?_|with_reducible rfl)
    all_goals try (rw[Hz hx (by(simp_all[nL,vI,kG]<;>omega))];done)
    have hb:nL x=true:=by(simp_all[nL,vI,kG]<;>omega)
    refine gO F73 ?_;refine J.loop (κ:=Nat) ([2,6]++rg 50 13) (fun k=>[(6,.d (.int .i64 k)),(2,.d (.bool false))]) (fun _=>[]) (fun k=>k<=i/\∀ m y,m<k->l[m]?=some y->y.addr≠x.addr) (fun k=>i-k) 0 ⟨afv _,fun m y h=>by omega⟩ ?_ ?_
    ·exact sZ
    rintro k ⟨hk,aJ⟩ pk;refine J.head ag F73 2000 ?_;(conv=>whnf);refine ai (fun h6=>?_) (fun h6=>?_)
    ·have l6:k<i:=by simpa using h6
     obtain⟨y,hy⟩:=aH (l:=l) (k:=k) (by omega);refine gO F73 ?_;refine dU ?_;refine aD (e:=y.enc) (aO hy) rfl ?_;refine gD ?_;refine gO F73 ?_;refine ai (fun h7=>?_) (fun h7=>?_)
     ·refine gO F73 ?_;rw[WS hx hy l6 (by simpa using h7)]
     ·refine gO F73 ?_;refine J.back (pk (k+1) ⟨by omega,fun m z hm hz=>?_⟩ (by omega)) ?_
      ·by_cases l7:m=k
       ·subst l7;rw[hy]at hz;cases hz;simpa using h7
       ·exact aJ m z (by omega) hz
      ·exact sZ
    ·have x9:i<=k:=by simpa using h6
     refine gO F73 ?_;refine J.back (IH (i+1) ⟨by omega,dv aL hx hb,WT (x:=x.addr) c8 (by simp[hx]) (fun m z hm hz=>?_)⟩ (by omega)) ?_
     ·simp only[ad1,Option.map_eq_some_iff]at hz;obtain⟨y,hy,rfl⟩:=hz;exact aJ m y (by omega) hy
     ·exact sZ
  ·have aC:l.length<=i:=by simpa using h5
   rw[afS aC]at aL;rw[afS (by simpa using aC)]at c8;refine gO F73 ?_;simp[fD,aL,c8,hlen]
theorem NR(a:cM)(l:List Int)(hf:a.Fits)(hl:l.length<=1000000):ar E 74 [a.enc,.sl (l.map (.int .i64))] (· = .bool (jo a l)):=by
 refine eP F74 ?_;refine J.loop (κ:=Nat) ([4,5]++rg 7 18) (fun k=>[(5,.d (.int .i64 k)),(4,.d (.bool false))]) (fun _=>[]) (fun k=>k<=l.length/\(l.take k).all kG=true) (fun k=>l.length-k) 0 ⟨afv _,rfl⟩ ?_ ?_
 ·exact sZ
 rintro i ⟨hi,aL⟩ IH;refine J.head ag F74 2000 ?_;(conv=>whnf);refine ai (fun h5=>?_) (fun h5=>?_)
 ·have ah:i<l.length:=by simpa using h5
  obtain⟨x,hx⟩:=aH ah;refine gO F74 ?_;repeat' (first|with_reducible(first|refine aD (aO hx) rfl ?_|refine cY ?_|refine cN ?_|refine ai (fun _=>?_) (fun _=>?_))|refine gA F74 ?_|refine gB ?_|with_reducible rfl)
  all_goals try (have bI:l.all kG=false:=di hx (by(simp_all[kG]<;>omega));simp[jo,bI];done)
  refine gO F74 ?_;refine J.back (IH (i+1) ⟨by omega,dv aL hx (by(simp_all[kG]<;>omega))⟩ (by omega)) ?_;exact sZ
 ·have aC:l.length<=i:=by simpa using h5
  rw[afS aC]at aL;refine gO F74 ?_;repeat' (first|with_reducible(first|refine aq (xO a hf) ?_|refine ax (xO a hf) ?_|refine cY ?_|refine cN ?_|refine ai (fun _=>?_) (fun _=>?_))|refine gA F74 ?_|refine gB ?_|with_reducible rfl)
  all_goals try (simp_all[jo];done)
  all_goals
   rename_i e1 e2 e3 e4;have WU:a.type=6:=by simpa using e2
   have WV:a.name=[46]:=by simpa using e3
   by_cases hz:1<=l.length
   ·simp[jo,e1,WU,WV,aL,hz];try (simp at e4;omega)
    try omega
   ·first
     |(simp[jo,hz];done)
     |(exfalso;simp at e4;omega)
def mQ(out:List Text)(a:Text):List Text:=if a∈out then out else out.takeWhile (fun x=>decide (bD x a<0))++a::out.dropWhile (fun x=>decide (bD x a<0))
def tI(out:List Text):Prop:=out.Pairwise fun x y=>bD x y<0
def mR(l:List Text):List Text:=l.foldl mQ []
theorem WW{p:Text->Bool}{out:List Text}{k:Nat}(hk:k<=out.length)(kE:∀ m x,m<k->out[m]?=some x->p x=true)(rq:∀ x,out[k]?=some x->p x=false):out.takeWhile p=out.take k/\out.dropWhile p=out.drop k:=by
 induction out generalizing k with
 |nil=>simp
 |cons y out ih =>
  cases k with
  |zero=>have:=rq y rfl;simp[this]
  |succ k =>
   have h0:=kE 0 y (by omega) rfl;have:=ih (k:=k) (by simpa using hk) (fun m x hm hx=>kE (m+1) x (by omega) (by simpa using hx)) (fun x hx=>rq x (by simpa using hx));simp[h0,this]
theorem WX{out:List Text}(h:tI out){i j:Nat}{x y:Text}(dY:i<j)(hx:out[i]?=some x)(hy:out[j]?=some y):bD x y<0:=by
 obtain⟨p1,e1⟩:=ag2.1 hx;obtain⟨p2,e2⟩:=ag2.1 hy;have:=ahB.1 h i j p1 p2 dY
 rwa [e1,e2]at this
theorem NS{out:List Text}{a:Text}{k:Nat}(h:tI out)(hk:k<=out.length)(kE:∀ m x,m<k->out[m]?=some x->bD x a<0)(rq:∀ x,out[k]?=some x->¬ bD x a<0)(aJ:out[k]? ≠ some a):a ∉ out/\mQ out a=out.take k++a::out.drop k:=by
 have bI:a ∉ out:=fun hm=>by
  obtain⟨m,hm⟩:=afe hm;rcases agn m k with l7|rfl|l7
  ·have:=kE m a l7 hm;rw[pq]at this;omega
  ·exact aJ hm
  ·obtain⟨x,hx⟩:=aH (l:=out) (k:=k) (by have:=aX hm;omega);exact rq x hx (WX h l7 hx hm)
 refine⟨bI,?_⟩;obtain⟨h1,h2⟩:=WW (p:=fun x=>decide (bD x a<0)) hk (fun m x hm hx=>by simpa using kE m x hm hx) (fun x hx=>by simpa using rq x hx);rw[mQ,if_neg bI,h1,h2]
theorem WY{out:List Text}(a:Text)(h:tI out):tI (mQ out a):=by
 unfold mQ;split
 ·exact h
 ·rename_i bI;have hs:=h;unfold tI at h ⊢;rw[<- ai8 (p:=fun x=>decide (bD x a<0)) (l:=out)]at h;rw[ai9]at h;obtain⟨h1,h2,h3⟩:=h;rw[ai9];have kE:∀ x∈out.takeWhile (fun x=>decide (bD x a<0)),bD x a<0:=fun x hx=>by simpa using Ht _ _ x hx
  have WZ:∀ x∈out.dropWhile (fun x=>decide (bD x a<0)),bD a x<0:=fun x hx=>by
   cases hd:out.dropWhile (fun x=>decide (bD x a<0))with
   |nil=>rw[hd]at hx;simp at hx
   |cons y r =>
    rw[hd]at hx h2;have hy:¬ bD y a<0:=by
     have:=List.head?_dropWhile_not (p:=fun x=>decide (bD x a<0)) out;rw[hd]at this
     simpa using this
    have ya:bD a y<0:=by
     have e:=Ay a y;rcases Int.lt_trichotomy (bD a y) 0 with q|q|q
     ·exact q
     ·have:=qk q;subst this;have vg:a∈out:=by
       rw[<- ai8 (p:=fun x=>decide (bD x a<0)) (l:=out),hd];simp
      exact absurd vg bI
     ·omega
    rcases afu.1 hx with rfl|hx
    ·exact ya
    ·exact Az ya ((ai'.1 h2).1 x hx)
  refine⟨h1,ai'.2 ⟨WZ,h2⟩,fun x hx y hy=>?_⟩;rcases afu.1 hy with rfl|hy
  ·exact kE x hx
  ·exact h3 x hx y hy
theorem W2{out:List Text}{a x:Text}:x∈mQ out a↔x∈out\/x=a:=by
 unfold mQ;split
 ·rename_i h;constructor
  ·exact .inl
  ·rintro(h1|rfl)
   ·exact h1
   ·exact h
 ·have e:=ai8 (p:=fun x=>decide (bD x a<0)) (l:=out);constructor
  ·intro hx;rw[<- e];simp only[aeI,afu]at hx ⊢;rcases hx with h|rfl|h
   ·exact .inl (.inl h)
   ·exact .inr rfl
   ·exact .inl (.inr h)
  ·intro hx;rw[<- e]at hx;simp only[aeI,afu]at hx ⊢;rcases hx with(h|h)|rfl
   ·exact .inl h
   ·exact .inr (.inr h)
   ·exact .inr (.inl rfl)
theorem NT(l:List Text):tI (mR l)/\∀ x,x∈mR l↔x∈l:=by
 have main:∀ (l out:List Text),tI out->tI (l.foldl mQ out)/\∀ x,x∈l.foldl mQ out↔x∈out\/x∈l:=by
  intro l
  induction l with
  |nil=>intro out h;exact⟨h,by simp⟩
  |cons a l ih =>
   intro out h;have:=ih (mQ out a) (WY a h);refine⟨this.1,fun x=>?_⟩;rw[List.foldl_cons,this.2,W2];simp[or_assoc]
 have:=main l [] List.Pairwise.nil;exact⟨this.1,fun x=>by rw[mR,this.2];simp⟩
theorem W3{l:List Text}{k:Nat}{x:Text}(h:l[k]?=some x):mR (l.take (k+1))=mQ (mR (l.take k)) x:=by
 rw[cG h,mR,List.foldl_append];rfl
theorem NU(l:List Text):(mR l).length=(eI [] l).length:=by
 obtain⟨h1,h2⟩:=NT l;refine WE ?_ (HD List.nodup_nil) fun x=>by rw[h2,AG];simp
 rw[ai4];refine h1.imp fun{a b} my e=>?_;subst e;rw[pq]at my;omega
theorem HO{A:List Text}{n:Nat}{y a:Text}(hn:n<=A.length):((A.take n++y::A.drop n).map DV.str).set ((n:Int)).toNat (.str a)=(A.take n++a::A.drop n).map DV.str:=by
 rw[afr,<- List.map_set]
 congr 1
 rw[List.set_append_right _ _ (by simp;omega)];simp[afa hn]
theorem NV{A:List Text}{n:Nat}{y z:Text}(hz:A[n-1]?=some z)(h0:0<n):((A.take n++y::A.drop n).map DV.str).set ((n:Int)).toNat (.str z)=(A.take (n-1)++z::A.drop (n-1)).map DV.str:=by
 have hl:=aX hz;rw[HO (by omega)]
 congr 1
 obtain⟨m,rfl⟩:∃ m,n=m+1:=⟨n-1,by omega⟩;simp only[Nat.add_sub_cancel]at hz hl ⊢;rw[cG hz];obtain⟨p,e⟩:=ag2.1 hz;rw[List.drop_eq_getElem_cons p,e];simp
def tJ(n:Nat)(p:aK):Bool:=decide (0<=p.host)&&decide (p.host<n)&&eu p.au
def NW(l:List aK):Nat:=(eI [] (l.map (·.au.ao))).length
def tK(n:Nat)(l:List aK):Bool:=decide (l.length<=4000)&&l.all (tJ n)&&decide ((l.map aK.spot).Nodup)&&decide (NW l<=500)
def Ds(w:ix):Bool:=fD w.ay&&tK w.ay.length w.eb&&jo w.anchor w.hints
def l8(x:Host):Bool := !(decide ((x.name.length:Int)>100))
def yb(a b c d:Nat):Bool:=decide (a<=20)&&decide (b<=70)&&decide (c<=20)&&decide (d<=20)
def aQ.spot(c:aQ):cH:=(c.host,c.au.ao)
def aQ.span(c:aQ):Span:=⟨c.bL,c.upto⟩
def jr(ay:Nat)(fin:Int)(c:aQ):Bool:=decide (0<=c.host)&&decide (c.host<ay)&&decide (0<=c.bL)&&decide (c.bL<c.upto)&&decide (c.upto<=fin)&&eu c.au
def nM(d c:aQ):Prop:=d.spot=c.spot->¬ (d.bL<c.upto/\c.bL<d.upto)
instance (d c : aQ) : Decidable (nM d c) := by unfold nM; infer_instance
def rQ(l:List aQ):Nat:=(eI [] (l.map (·.au.ao))).length
def eJ(h:bO):Bool:=decide (1<=h.fin)&&decide (h.fin<=10000000)&&decide (0<=h.bJ)&&decide (h.bJ<=1000)&&decide (h.aB.length<=4000)&&(fD h.ay&&jo h.anchor h.hints) &&
 h.aB.all (jr h.ay.length h.fin)&&decide (h.aB.Pairwise nM)&&decide (rQ h.aB<=500)
structure bO.Fits(h:bO):Prop where
 ay:∀ x∈h.ay,x.name.length<=maxLen
 anchor:h.anchor.Fits
 hints:h.hints.length<=maxLen
 eb:∀ c∈h.aB,c.au.Fits
structure RD where
 p:cH
 l:List Span
 blk:Nat
 cap:Nat
def RD.slice(d:RD):Value := .slice (some ⟨d.blk,0,none⟩) d.l.length d.cap
def RD.cB(d:RD):DV × DV:=(cH.en d.p,.raw d.slice)
def RD.ghost(d:RD):bo := .row ⟨d.blk,d.cap,(169,2),d.l.map Span.enc⟩
structure mT(l:List aQ)(ds:List RD):Prop where
 nodup:(ds.map (·.p)).Nodup
 each:∀ d∈ds,d.l=(l.filter (fun c=>decide (c.spot=d.p))).map aQ.span/\d.l≠[]
 all:∀ c∈l,∃ d∈ds,d.p=c.spot
theorem mT.nil:mT [] []:=⟨by simp,fun d hd=>by simp at hd,fun c hc=>by simp at hc⟩
def Clear(l:List Span):Prop:=l.Pairwise fun a b=>¬ (a.bL<b.upto/\b.bL<a.upto)
theorem NZ{l m:List Span}(h:l.Perm m):Clear l↔Clear m:=h.pairwise_iff fun{x y} h1 h2=>h1 ⟨h2.2,h2.1⟩
theorem Xi{l:List aQ}{ds:List RD}(h:mT l ds):l.Pairwise nM↔∀ d∈ds,Clear d.l:=by
 have each:∀ d∈ds,(Clear d.l↔l.Pairwise (fun a b=>a.spot=d.p->b.spot=d.p->¬ (a.bL<b.upto/\b.bL<a.upto))):=fun d hd=>by
  rw[(h.each d hd).1,Clear,List.pairwise_map,List.pairwise_filter];simp only[decide_eq_true_eq];rfl
 constructor
 ·intro hp d hd;rw[each d hd];exact hp.imp fun{a b} my h1 h2=>my (h1.trans h2.symm)
 ·intro hc;rw[ahB];intro i j hi hj dY hs;obtain⟨d,hd,e⟩:=h.all l[i] (List.getElem_mem hi);have:=(each d hd).1 (hc d hd);rw[ahB]at this;exact this i j hi hj dY e.symm (hs.symm.trans e.symm)
theorem Xj{l:List Span}(hw:∀ a∈l,a.bL<a.upto)(h:∀ (m:Nat) (a b:Span),l[m]?=some a->l[m+1]?=some b->a.upto<=b.bL):Clear l:=by
 have main:∀ (n i:Nat) (a b:Span),l[i]?=some a->l[i+1+n]?=some b->a.upto<=b.bL:=by
  intro n
  induction n with
  |zero=>intro i a b ha hb;exact h i a b ha hb
  |succ n ih =>
   intro i a b ha hb;obtain⟨c,hc⟩:∃ c,l[i+1+n]?=some c:=aH (by have:=aX hb;omega);have h1:=ih i a c ha hc;have h2:=h (i+1+n) c b hc hb;have h3:=hw c (afh hc);omega
 unfold Clear;rw[ahB];intro i j hi hj dY h2;have:=main (j-i-1) i l[i] l[j] (by simp) (by rw[show i+1+(j-i-1)=j by omega];simp);omega
theorem Xk{l:List Span}(hw:∀ a∈l,a.bL<a.upto)(hs:l.Pairwise (fun a b=>a.bL<=b.bL)){i:Nat}{a b:Span}(h0:0<i)(ha:l[i-1]?=some a)(hb:l[i]?=some b)(h:b.bL<a.upto):¬ Clear l:=fun hc=>by
 obtain⟨p1,e1⟩:=ag2.1 ha;obtain⟨p2,e2⟩:=ag2.1 hb;have h1:=ahB.1 hc (i-1) i p1 p2 (by omega);have h2:=ahB.1 hs (i-1) i p1 p2 (by omega);have h3:=hw b (afh hb);rw[e1,e2]at h1 h2;exact h1 ⟨by omega,h⟩
theorem Xl{l:List aQ}{p:cH}{ds:List RD}(h:mT l ds)(hn:∀ d∈ds,d.p≠p):l.filter (fun c=>decide (c.spot=p))=[]:=by
 rw[List.filter_eq_nil_iff];intro c hc hp;obtain⟨d,hd,e⟩:=h.all c hc;exact hn d hd (e.trans (by simpa using hp))
theorem mT.found{l:List aQ}{p1 p2:List RD}{d:RD}{c:aQ}(h:mT l (p1++d::p2))(hp:d.p=c.spot)(blk cap:Nat):mT (l++[c]) (p1++⟨c.spot,d.l++[c.span],blk,cap⟩::p2):=by
 have c8:=h.nodup;simp only[aeJ,ad0]at c8;have aJ:∀ e,e∈p1\/e∈p2->e.p≠c.spot:=fun e he q=>by
  rw[aeK]at c8;obtain⟨h1,h2,h3⟩:=c8;rw[agb]at h2;rcases he with he|he
  ·exact h3 e.p (List.mem_map_of_mem he) d.p (aeQ ..) (q.trans hp.symm)
  ·exact h2.1 (aer.2 ⟨e,he,q.trans hp.symm⟩)
 have hold:∀ e,e∈p1\/e∈p2->e.l=((l++[c]).filter (fun c=>decide (c.spot=e.p))).map aQ.span/\e.l≠[]:=fun e he=>by
  have h1:=h.each e (by rcases he with he|he<;>simp[he]);have h2:¬ c.spot=e.p:=fun q=>aJ e he q.symm;refine⟨?_,h1.2⟩;rw[aiM,aja (by simpa using h2),ai7,ags];exact h1.1
 refine⟨?_,fun e he=>?_,fun x hx=>?_⟩
 ·simp only[aeJ,ad0];rw[<- hp];exact c8
 ·rcases aeI.1 he with he|he
  ·exact hold e (.inl he)
  ·rcases afu.1 he with rfl|he
   ·have h1:=h.each d (by simp);refine⟨?_,by simp⟩;show d.l++[c.span]=_;rw[aiM,ajb (by simp),ai7,aeJ,h1.1,hp];rfl
   ·exact hold e (.inr he)
 ·rcases aeI.1 hx with hx|hx
  ·obtain⟨e,he,q⟩:=h.all x hx;rcases aeI.1 he with he|he
   ·exact⟨e,by simp[he],q⟩
   ·rcases afu.1 he with rfl|he
    ·exact⟨⟨c.spot,e.l++[c.span],blk,cap⟩,by simp,hp.symm.trans q⟩
    ·exact⟨e,by simp[he],q⟩
  ·simp at hx;subst hx;exact⟨⟨x.spot,d.l++[x.span],blk,cap⟩,by simp,rfl⟩
theorem mT.new{l:List aQ}{ds:List RD}{c:aQ}(h:mT l ds)(hn:∀ d∈ds,d.p≠c.spot)(blk cap:Nat):mT (l++[c]) (ds++[⟨c.spot,[c.span],blk,cap⟩]):=by
 refine⟨?_,fun e he=>?_,fun x hx=>?_⟩
 ·rw[aeJ,aeK];refine⟨h.nodup,by simp,fun a ha b hb q=>?_⟩;simp at hb;subst hb;subst q;obtain⟨d,hd,q⟩:=aer.1 ha;exact hn d hd q
 ·rcases aeI.1 he with he|he
  ·have h1:=h.each e he;have h2:¬ c.spot=e.p:=fun q=>hn e he q.symm;refine⟨?_,h1.2⟩;rw[aiM,aja (by simpa using h2),ai7,ags];exact h1.1
  ·simp at he;subst he;refine⟨?_,by simp⟩;show[c.span]=_;rw[aiM,ajb (by simp),ai7,Xl h hn];rfl
 ·rcases aeI.1 hx with hx|hx
  ·obtain⟨e,he,q⟩:=h.all x hx;exact⟨e,by simp[he],q⟩
  ·simp at hx;subst hx;exact⟨⟨x.spot,[x.span],blk,cap⟩,by simp,rfl⟩
theorem mT.len{l:List aQ}{ds:List RD}(h:mT l ds){d:RD}(hd:d∈ds):d.l.length<=l.length:=by
 rw[(h.each d hd).1,aff];exact List.length_filter_le _ _
theorem Xm{ds:List RD}:∀ {i:Nat} {d:RD},ds[i]?=some d->(ds.map (·.p)).Nodup->findD (cH.en d.p) (ds.map RD.cB)=some (.raw d.slice)/\fj (cH.en d.p) (ds.map RD.cB)=some i/\bW (cH.en d.p) (.raw d.slice) (ds.map RD.cB)=ds.map RD.cB:=by
 induction ds with
 |nil=>intro i d h;simp at h
 |cons e ds ih =>
  intro i d h hn;simp only[ad0,agb]at hn;cases i with
  |zero =>
   simp at h;subst h;simp[findD,fj,bW,RD.cB,qm]
  |succ i =>
   have h':ds[i]?=some d:=by simpa using h
   have aJ:¬ d.p=e.p:=fun q=>hn.1 (aer.2 ⟨d,afh h',q⟩);obtain⟨h1,h2,h3⟩:=ih h' hn.2;simp only[ad0,findD,fj,bW,RD.cB,qm,aJ,decide_false,aet,if_false];exact⟨h1,by rw[h2];rfl,by rw[h3]⟩
theorem N0{p:cH}{v:DV}:∀ {ds:List RD},(∀ d∈ds,d.p≠p)->findD (cH.en p) (ds.map RD.cB)=none/\fj (cH.en p) (ds.map RD.cB)=none/\bW (cH.en p) v (ds.map RD.cB)=ds.map RD.cB++[(cH.en p,v)]
 |[],_=>by simp[findD,fj,bW]
 |e::ds,h=>by
  have aJ:¬ p=e.p:=fun q=>h e (aeQ ..) q.symm;obtain⟨h1,h2,h3⟩:=N0 (p:=p) (v:=v) (ds:=ds) (fun d hd=>h d (aeR _ hd));simp only[ad0,findD,fj,bW,RD.cB,qm,aJ,decide_false,aet,if_false];exact⟨h1,by rw[h2];rfl,by rw[h3];rfl⟩
theorem N3{ds:List RD}:∀ p∈ds.map RD.cB,du E.T (TK.struct [(0,3),(1,9)]) p.1:=fun p hp=>by
 obtain⟨d,-,rfl⟩:=aer.1 hp;exact Dq d.p
theorem HQ(h:bO)(hf:h.Fits)(dm:h.aB.length<=1000000):ar E 40 [h.enc] (· = .bool (eJ h)):=by
 obtain⟨ay,aB,anchor,hints,bJ,fin⟩:=h;obtain⟨gJ,jq,AI,AJ⟩:=hf;simp only at gJ jq AI AJ dm;show ar E _ [DV.agg [.sl (ay.map Host.enc),.sl (aB.map aQ.enc),.str anchor.name,.int .i64 anchor.type,.int .i64 anchor.bY,.sl (anchor.data.map Datum.enc),.sl (hints.map (.int .i64)),.int .i64 bJ,.int .i64 fin]] _;refine eP F40 ?_;repeat' (first|with_reducible(first|refine aq (NK ay anchor hints gJ jq AI) ?_|refine ax (NK ay anchor hints gJ jq AI) ?_|refine cY ?_|refine cN ?_|refine ai (fun _=>?_) (fun _=>?_))|refine gA F40 ?_|refine gB ?_|with_reducible rfl)
 all_goals try (congr 1;simp_all[eJ];done)
 all_goals try (congr 1;simp_all[eJ];omega;done)
 ·rename_i h6;have hw:(fD ay&&jo anchor hints)=false:=by
   cases hq:(fD ay&&jo anchor hints)
   ·rfl
   ·rw[hq]at h6;cases h6
  simp only[eJ,hw];simp
 rename_i h1 h2 h3 h4 h5 h6;have hw:(fD ay&&jo anchor hints)=true:=by
  cases hq:(fD ay&&jo anchor hints)
  ·rw[hq]at h6;cases h6
  ·rfl
 have fH:1<=fin/\fin<=10000000/\0<=bJ/\bJ<=1000/\aB.length<=4000:=by simp at h1 h2 h3 h4 h5;omega
 have bG:eJ ⟨ay,aB,anchor,hints,bJ,fin⟩=(aB.all (jr ay.length fin)&&decide (aB.Pairwise nM)&&decide (rQ aB<=500)):=by
  simp only[eJ,hw];simp[fH.1,fH.2.1,fH.2.2.1,fH.2.2.2.1,fH.2.2.2.2,aiK]
 rw[bG];clear bG h1 h2 h3 h4 h5 h6 hw;refine gO F40 ?_;refine gO F40 ?_;refine J.CK (κ:=Nat × List RD) [2,5,6,47,48,49,50,51,52,53,54,55,56,57,58,59,60,61,62,63,64,65,66,67,68,69,70,71,72,73,74,75,76,77,78,79,80,81,82,83,84,85,86,87,88,89,90,91,92,93,94,95,96,97,98,99,100,101,102,103] (fun x=>[(47,.d (.int .i64 x.1)),(2,.d (.bool false)),(3,.map 1)]) (fun x=>[(1,.map (x.2.map RD.cB))]) (fun x=>x.2.map RD.ghost) (fun x=>x.1<=aB.length/\(aB.take x.1).all (jr ay.length fin)=true/\mT (aB.take x.1) x.2) (fun x=>aB.length-x.1) (0,[]) ⟨afv _,rfl,mT.nil⟩ rfl ?_ ?_
 ·(conv=>whnf);repeat (first|exact trivial|(refine sI ?_;conv=>whnf))
  refine And.intro rfl ?_;exact sZ
 rintro⟨k,ds⟩ ⟨hk,aL,gz⟩ IH;simp only at hk aL gz;refine J.head ag F40 2000 ?_;(conv=>whnf);refine ai (fun h5=>?_) (fun h5=>?_)
 ·have ah:k<aB.length:=by simpa using h5
  obtain⟨c,hc⟩:=aH ah;have nx:=AJ c (afh hc);refine gO F40 ?_;refine aD (e:=c.enc) (aO hc) rfl ?_;refine gO F40 ?_;repeat' (first|with_reducible(first|refine aq (vH c.au nx) ?_|refine ax (vH c.au nx) ?_|refine cY ?_|refine cN ?_|refine ai (fun _=>?_) (fun _=>?_))|refine gA F40 ?_|refine gB ?_|with_reducible rfl)
  all_goals try (have bI:jr ay.length fin c=false:=by(simp_all[jr]<;>omega))
  all_goals try (rw[di hc bI];simp;done)
  rename_i h1 h2 h3 h4 h5 h6;have aP:jr ay.length fin c=true:=by simp_all[jr]
  have CV:cH.en c.spot=.agg [.int .i64 c.host,.str c.au.ao]:=rfl;refine gO F40 ?_;by_cases hex:∃ d∈ds,d.p=c.spot
  ·obtain⟨d,hd,kF⟩:=hex;obtain⟨p1,p2,rfl⟩:=ajc hd;have hi:(p1++d::p2)[p1.length]?=some d:=by simp
   obtain⟨e1,e2,e3⟩:=Xm hi gz.nodup;rw[kF]at e1 e2 e3;rw[CV]at e1 e2 e3;have nG:=gz.len hd;have dR:∀ d':RD,(p1++d::p2).set p1.length d'=p1++d'::p2:=fun d'=>by simp
   refine J.mapEntry ag (.raw (.slice none 0 0)) (.slice none 0 0) (.raw d.slice) p1.length ((p1++d::p2).map RD.cB) rfl rfl (fun _ _ => .raw _ rfl) ?_;(conv=>whnf);refine And.intro ⟨Dq c.spot,N3⟩ (And.intro (fun w=>by kernel_rfl) (And.intro ⟨by rw[e1];rfl,by rw[e2];rfl,e3⟩ ?_));(conv=>whnf);refine J.run ag F40 1 ?_;(conv=>whnf);refine J.borrow 93 (bA:=⟨d.blk,d.cap,(169,2),d.l.map Span.enc⟩) (n:=d.l.length) (g1:=p1.map RD.ghost) (g2:=p2.map RD.ghost) (by show(p1++d::p2).map RD.ghost=_;simp[RD.ghost]) rfl (by simp) ?_;refine gO F40 ?_;refine aW ⟨by simp at nG ⊢;omega,by simp[DV.cells]⟩ ?_;refine gO F40 ?_;refine J.cQ 101 4 rfl (afv _) rfl (fun nB=>by simp at nB) (fun blk cap=>?_);refine J.entryStore ag p1.length (k0:=cH.en c.spot) (x0 := .raw d.slice) rfl rfl ?_;(conv=>whnf);refine And.intro (by simp[RD.cB,kF]) ?_;(conv=>whnf);refine And.intro rfl ?_;(conv=>whnf);refine gO F40 ?_;refine J.vk (rows:=(p1++⟨c.spot,d.l++[c.span],blk,cap⟩::p2).map RD.ghost) ?_ ?_
   ·have e:(p1++(⟨c.spot,d.l++[c.span],blk,cap⟩:RD)::p2).map RD.ghost=p1.map RD.ghost ++ .row ⟨blk,cap,(169,2),d.l.map Span.enc++[DV.agg [.int .i64 c.bL,.int .i64 c.upto]]⟩::p2.map RD.ghost:=by simp[RD.ghost,aQ.span]
    rw[e];exact List.perm_middle.symm
   refine J.back (IH (k+1,p1++⟨c.spot,d.l++[c.span],blk,cap⟩::p2) ⟨by simp only;omega,dv aL hc aP,by simp only;rw[cG hc];exact gz.found kF blk cap⟩ (by simp only;omega)) ?_;(conv=>whnf);repeat (first|exact trivial|(refine sI ?_;conv=>whnf))
   refine And.intro (by simp[RD.cB,RD.slice,aQ.span]) ?_;exact sZ
  ·have bI:∀ d∈ds,d.p≠c.spot:=fun d hd e=>hex ⟨d,hd,e⟩;obtain⟨e1,e2,e3⟩:=N0 (v := .raw (.slice none 0 0)) bI;rw[CV]at e1 e2 e3;refine J.mapEntry ag (.raw (.slice none 0 0)) (.slice none 0 0) (.raw (.slice none 0 0)) ds.length (ds.map RD.cB++[(cH.en c.spot,.raw (.slice none 0 0))]) rfl rfl (fun _ _ => .raw _ rfl) ?_;(conv=>whnf);refine And.intro ⟨Dq c.spot,N3⟩ (And.intro (fun w=>by kernel_rfl) (And.intro ⟨by rw[e1];rfl,by rw[e2];simp,e3⟩ ?_));(conv=>whnf);refine J.run ag F40 1 ?_;(conv=>whnf);refine J.TR 93 (169,2) (by decide) rfl ?_;refine gO F40 ?_;refine aW ⟨by simp,by simp[DV.cells]⟩ ?_;refine gO F40 ?_;refine J.cQ 101 4 rfl (afv _) rfl (fun nB=>by simp at nB) (fun blk cap=>?_);refine J.entryStore ag ds.length (k0:=cH.en c.spot) (x0 := .raw (.slice none 0 0)) rfl rfl ?_;(conv=>whnf);refine And.intro (by simp) ?_;(conv=>whnf);refine And.intro rfl ?_;(conv=>whnf);refine gO F40 ?_;refine J.vk (rows:=(ds++[(⟨c.spot,[c.span],blk,cap⟩:RD)]).map RD.ghost) ?_ ?_
   ·have e:(ds++[(⟨c.spot,[c.span],blk,cap⟩:RD)]).map RD.ghost=ds.map RD.ghost++[.row ⟨blk,cap,(169,2),[]++[DV.agg [.int .i64 c.bL,.int .i64 c.upto]]⟩]:=by simp[RD.ghost,aQ.span]
    rw[e];exact(List.perm_append_singleton _ _).symm
   refine J.back (IH (k+1,ds++[⟨c.spot,[c.span],blk,cap⟩]) ⟨by simp only;omega,dv aL hc aP,by simp only;rw[cG hc];exact gz.new bI blk cap⟩ (by simp only;omega)) ?_;(conv=>whnf);repeat (first|exact trivial|(refine sI ?_;conv=>whnf))
   refine And.intro (by simp[RD.cB,RD.slice,aQ.span]) ?_;exact sZ
 ·have aC:aB.length<=k:=by simpa using h5
  rw[afS aC]at aL gz;have hw:∀ d∈ds,∀ a∈d.l,a.bL<a.upto:=fun d hd a ha=>by
   rw[(gz.each d hd).1]at ha;obtain⟨x,hx,rfl⟩:=aer.1 ha;have:=ad'.1 aL x (List.mem_filter.1 hx).1;simp only[jr,aft,decide_eq_true_eq]at this;exact this.1.1.2
  have yc:=Xi gz;rw[aL,afC];refine gO F40 ?_;refine J.range ag rfl rfl rfl rfl (aV rfl) rfl (afv _) (fun it s7 mg tf=>?_);obtain⟨bm,r,en,ck,since,seen,es⟩:=it;simp only at s7 mg tf;subst s7;subst mg;refine gO F40 ?_;refine J.CK (κ:=List Nat × List RD) ([3,43,104]++[2,8,9,106,107,108,109,110,111,112,113,114,115,116,117,118,119,120,121,122,123,124,125,126,127,128,129]) (fun _=>[(2,.d (.bool false))]) (fun _=>[]) (fun x => .iter ⟨bm,r,en,ck,since,x.1,ds.map RD.cB⟩::x.2.map RD.ghost) (fun x=>(∀ j d,ds[j]?=some d->j ∉ x.1->d∈x.2)/\(∀ d∈x.2,d∈ds)/\∀ j d,ds[j]?=some d->j∈x.1->Clear d.l) (fun x=>x.2.length) ([],ds) ⟨fun j d hd _=>afh hd,fun _ h=>h,fun j d _ h=>by simp at h⟩ rfl ?_ ?_
  ·exact sZ
  rintro⟨seen,pd⟩ ⟨rK,o4,HR⟩ pk;simp only at rK o4 HR;refine J.head ag F40 2000 ?_;(conv=>whnf);refine J.next (it:=⟨bm,r,en,ck,since,seen,ds.map RD.cB⟩) (g1:=[]) (g2:=pd.map RD.ghost) rfl rfl tf rfl (aV rfl) (fun vL=>?_) (fun j kk y hj lb=>?_)
  ·refine gO F40 ?_;refine aR ?_;refine gO F40 ?_;have dL:aB.Pairwise nM:=yc.2 fun d hd=>by
    obtain⟨j,hj⟩:=afe hd;have hl:=aX hj;exact HR j d hj (vL j (by simpa using hl))
   refine jK (WH aB dm) ?_;rintro u b ⟨ee,rfl,rfl⟩;refine gO F40 ?_;simp only[dL,decide_true,afC,rQ,aff]
   congr 2
   simp;omega
  ·obtain⟨d,Du,e⟩:∃ d,ds[j]?=some d/\RD.cB d=(kk,y):=by simpa using hj
   cases e;have hd:=afh Du;obtain⟨p1,p2,rfl⟩:=ajc (rK j d Du lb);refine gO F40 ?_;refine a8 ?_;refine gO F40 ?_;refine J.entry (it:=⟨bm,r,en,ck,since,seen++[j],ds.map RD.cB⟩) (g1:=[]) (g2:=(p1++d::p2).map RD.ghost) (pre:=seen) (j:=j) rfl rfl rfl rfl hj (aV rfl) ?_;(conv=>whnf);refine J.run ag F40 2 ?_;(conv=>whnf);refine J.borrow 8 (bA:=⟨d.blk,d.cap,(169,2),d.l.map Span.enc⟩) (n:=d.l.length) (g1 := .iter ⟨bm,r,en,ck,since,seen++[j],ds.map RD.cB⟩::p1.map RD.ghost) (g2:=p2.map RD.ghost) (by show(_::(p1++d::p2).map RD.ghost)=_;simp[RD.ghost]) rfl (by simp) ?_;refine gO F40 ?_;have Xn:d.l≠[]:=(gz.each d hd).2;have nG:d.l.length<=aB.length:=gz.len hd;refine jK (Xh d.l Xn (by omega)) ?_;rintro u b ⟨rfl,l',rP,HS,rfl⟩;have uk:∀ a∈l',a.bL<a.upto:=fun a ha=>hw d hd a (rP.mem_iff.1 ha);have oV:l'.length<=aB.length:=by rw[rP.length_eq];exact nG
   refine gO F40 ?_;refine J.loop (κ:=Nat) ([2,9]++rg 112 18) (fun i=>[(9,.d (.int .i64 i)),(2,.d (.bool false))]) (fun _=>[]) (fun i=>1<=i/\i<=max 1 l'.length/\∀ (m:Nat) (a b:Span),m+1<i->l'[m]?=some a->l'[m+1]?=some b->a.upto<=b.bL) (fun i=>l'.length-i) 1 ⟨aed _,by omega,fun m a b h=>by omega⟩ ?_ ?_
   ·exact sZ
   rintro i ⟨wY,xK,N4⟩ AK;refine J.head ag F40 2000 ?_;(conv=>whnf);refine ai (fun h6=>?_) (fun h6=>?_)
   ·have ah:i<l'.length:=by simpa using h6
    obtain⟨x,hx⟩:=aH ah;obtain⟨q,hq⟩:∃ q,l'[i-1]?=some q:=aH (by omega);refine gO F40 ?_;refine dU ?_;refine aW ⟨by omega,by simp;omega⟩ ?_;refine gD ?_;refine aD (e:=x.enc) (aO hx) rfl ?_;refine gD ?_;have pt:IntKind.i64.wrap ((i:Int)-1)=((i-1:Nat):Int):=by rw[wrap64 (by omega) (by omega)];omega
    refine aW ⟨by rw[pt];omega,by rw[pt];simp;omega⟩ ?_;refine gD ?_;refine aD (e:=q.enc) (by rw[pt,afr];exact aO hq) rfl ?_;refine gD ?_;refine gO F40 ?_;refine ai (fun h7=>?_) (fun h7=>?_)
    ·refine gO F40 ?_;have Xo:¬ aB.Pairwise nM:=fun hp=>Xk uk HS (by omega) hq hx (by simpa using h7) ((NZ rP).2 (yc.1 hp d hd));simp[Xo]
    ·refine gO F40 ?_;refine J.back (AK (i+1) ⟨by omega,by omega,fun m a b hm ha hb=>?_⟩ (by omega)) ?_
     ·by_cases kZ:m+1=i
      ·have e1:m=i-1:=by omega
       subst e1;rw[hq]at ha;rw[kZ,hx]at hb;cases ha;cases hb
       simpa using h7
      ·exact N4 m a b (by omega) ha hb
     ·exact sZ
   ·have x9:l'.length<=i:=by simpa using h6
    have dL:Clear d.l:=(NZ rP).1 (Xj uk fun m a b ha hb=>N4 m a b (by have:=aX hb;omega) ha hb);refine gO F40 ?_;refine J.vk (rows := .iter ⟨bm,r,en,ck,since,seen++[j],ds.map RD.cB⟩::(p1++p2).map RD.ghost) (List.Perm.of_eq (by simp)) ?_;have ow:=gz.nodup;refine J.back (pk (seen++[j],p1++p2) ⟨fun j' d' fy eU=>?_,fun d' fy=>o4 d' (by simp at fy ⊢;rcases fy with h|h<;>simp[h]),fun j' d' fy eU=>?_⟩ (by simp)) ?_
    ·simp only at fy eU ⊢;rw[aeI,ah9,not_or]at eU;have h1:=rK j' d' fy eU.1;have aJ:d'≠d:=fun e=>by
      subst e;have q1:(ds.map (·.p))[j']?=some d'.p:=by simp[fy]
      have q2:(ds.map (·.p))[j]?=some d'.p:=by simp[Du]
      exact eU.2 (HK ow q1 q2)
     rcases aeI.1 h1 with h1|h1
     ·exact List.mem_append_left _ h1
     ·rcases afu.1 h1 with h1|h1
      ·exact absurd h1 aJ
      ·exact List.mem_append_right _ h1
    ·simp only at eU;rw[aeI,ah9]at eU;rcases eU with eU|rfl
     ·exact HR j' d' fy eU
     ·rw[Du]at fy;cases fy;exact dL
    ·exact sZ
theorem Xp(l:List aQ)(hl:l.length<=1000000)(hn:∀ c∈l,c.au.ao.length<=1000):ar E 76 [.sl (l.map aQ.enc)] (· = .sl ((mR (l.map (·.au.ao))).map .str)):=by
 generalize hT:l.map (·.au.ao)=T;have Dn:T.length=l.length:=by rw[<- hT];simp
 have Xq:∀ x∈T,x.length<=1000:=fun x hx=>by
  rw[<- hT]at hx;obtain⟨c,hc,rfl⟩:=aer.1 hx;exact hn c hc
 have nz:∀ k,(mR (T.take k)).length<=l.length:=fun k=>by
  rw[NU];have:=Dm (l:=T.take k) (acc:=[]);simp at this;omega
 refine eP F76 ?_;refine J.wX 3 (9,1) (by decide) rfl ?_;refine J.loop (κ:=Nat) (rg 3 68) (fun k=>[(4,.d (.int .i64 k)),(3,.own 0 1)]) (fun k=>[(0,.arr 1 (9,1) ((mR (T.take k)).map .str))]) (fun k=>k<=l.length) (fun k=>l.length-k) 0 (afv _) ?_ ?_
 ·(conv=>whnf);repeat (first|exact trivial|(refine sI ?_;conv=>whnf))
  refine And.intro rfl ?_;exact sZ
 intro i hi IH;obtain⟨hS,hM⟩:=NT (T.take i);have hC:=nz i;have aG:∀ {a:Text},T[i]?=some a->mR (T.take (i+1))=mQ (mR (T.take i)) a:=fun h=>W3 h;have N5:∀ x∈mR (T.take i),x.length<=1000:=fun x hx=>Xq x (List.mem_of_mem_take ((hM x).1 hx));generalize hA:mR (T.take i)=A at hS hM hC aG N5;refine J.head ag F76 2000 ?_;(conv=>whnf);refine ai (fun h5=>?_) (fun h5=>?_)
 ·have ah:i<l.length:=by simpa using h5
  obtain⟨c,hc⟩:=aH ah;have Xr:T[i]?=some c.au.ao:=by rw[<- hT];simp[hc]
  have dL:=hn c (afh hc);replace aG:=aG Xr;refine gO F76 ?_;refine aD (e:=c.enc) (aO hc) rfl ?_;refine gO F76 ?_;refine J.loop (κ:=Nat) ([6]++rg 20 15) (fun k=>[(6,.d (.int .i64 k))]) (fun _=>[]) (fun k=>k<=A.length/\∀ m x,m<k->A[m]?=some x->bD x c.au.ao<0) (fun k=>A.length-k) 0 ⟨afv _,fun m x h=>by omega⟩ ?_ ?_
  ·exact sZ
  rintro k ⟨hk,kE⟩ pk;refine J.head ag F76 2000 ?_;(conv=>whnf);refine ai (fun h6=>?_) (fun h6=>?_)
  ·have l6:k<A.length:=by simpa using h6
   obtain⟨y,hy⟩:=aH l6;refine gO F76 ?_;refine aW ⟨by omega,by simp;omega⟩ ?_;refine gO F76 ?_;refine aD (e := .str y) (aO hy) rfl ?_;refine gO F76 ?_
   with_reducible refine aq (G6 y c.au.ao (N5 y (afh hy)) dL) ?_
   refine gO F76 ?_;refine ai (fun h7=>?_) (fun h7=>?_)
   ·refine gO F76 ?_;refine J.back (pk (k+1) ⟨by omega,fun m x hm hx=>?_⟩ (by omega)) ?_
    ·by_cases l7:m=k
     ·subst l7;rw[hy]at hx;cases hx;simpa using h7
     ·exact kE m x (by omega) hx
    ·exact sZ
   ·have rq:∀ x,A[k]?=some x->¬ bD x c.au.ao<0:=fun x hx=>by rw[hy]at hx;cases hx;simpa using h7
    refine gO F76 ?_;refine aY (by simpa using l6) ?_;refine gO F76 ?_;refine aW ⟨by omega,by simp;omega⟩ ?_;refine gO F76 ?_;refine aD (e := .str y) (aO hy) rfl ?_;refine gO F76 ?_;refine ai (fun h8=>?_) (fun h8=>?_)
    ·have ya:y=c.au.ao:=by simpa using h8
     refine gO F76 ?_;refine J.back (IH (i+1) (by omega) (by omega)) ?_;rw[aG];have fU:mQ A c.au.ao=A:=by rw[mQ,if_pos (by rw[<- ya];exact afh hy)]
     rw[fU];exact sZ
    ·have ya:A[k]? ≠ some c.au.ao:=fun e=>by rw[hy]at e;cases e;simp at h8
     obtain⟨bI,HT⟩:=NS hS hk kE rq ya;rw[HT]at aG;refine gO F76 ?_;refine aW ⟨by simp;omega,by simp[DV.cells]⟩ ?_;refine gO F76 ?_;refine J.loop (κ:=Nat × Text) [7,54,55,56,57,58,59,60,61,62,63,64,65,66] (fun x=>[(7,.d (.int .i64 x.1)),(3,.own 0 2)]) (fun x=>[(0,.arr 2 (9,1) ((A.take x.1++x.2::A.drop x.1).map .str))]) (fun x=>k<=x.1/\x.1<=A.length) (fun x=>x.1-k) (A.length,c.au.ao) ⟨hk,aed _⟩ ?_ ?_
     ·(conv=>whnf);repeat (first|exact trivial|(refine sI ?_;conv=>whnf))
      refine And.intro (by simp) ?_;(conv=>whnf);repeat (first|exact trivial|(refine sI ?_;conv=>whnf))
      refine And.intro (congrArg (DV.int .i64) ((wrap64 (by simp<;>omega) (by simp<;>omega)).trans (by simp only[aey,aff,agw];omega))) ?_;exact sZ
     rintro⟨n,y⟩ ⟨HU,jn⟩ AK;simp only at HU jn;refine J.head ag F76 2000 ?_;(conv=>whnf);refine ai (fun h8=>?_) (fun h8=>?_)
     ·have AL:k<n:=by simpa using h8
      obtain⟨z,hz⟩:=aH (l:=A) (k:=n-1) (by omega);have pt:IntKind.i64.wrap ((n:Int)-1)=((n-1:Nat):Int):=by rw[wrap64 (by omega) (by omega)];omega
      refine gO F76 ?_;refine aW ⟨by rw[pt];omega,by rw[pt];simp;omega⟩ ?_;refine gO F76 ?_;refine aD (e := .str z) ⟨by omega,by rw[pt,afr,afr,ad1,ael (by simp;omega),aek,if_pos (by omega),hz];rfl⟩ rfl ?_;refine gO F76 ?_;refine aW ⟨by omega,by simp;omega⟩ ?_;refine gO F76 ?_;refine aD (e := .str y) ⟨by omega,by simp[ae9,aeu,afa jn]⟩ rfl ?_;refine gO F76 ?_;refine gO F76 ?_;refine J.back (AK (n-1,z) ⟨by simp only;omega,by simp only;omega⟩ (by simp only;omega)) ?_;(conv=>whnf);repeat (first|exact trivial|(refine sI ?_;conv=>whnf))
      refine And.intro (NV hz (by omega)) ?_;exact sZ
     ·have AL : n=k := by have : n <= k := by simpa using h8
                          omega
      subst AL;refine gO F76 ?_;refine aW ⟨by omega,by simp;omega⟩ ?_;refine gO F76 ?_;refine aD (e := .str y) ⟨by omega,by simp[ae9,aeu,afa jn]⟩ rfl ?_;refine gO F76 ?_;refine gO F76 ?_;refine J.back (IH (i+1) (by omega) (by omega)) ?_;rw[aG];(conv=>whnf);repeat (first|exact trivial|(refine sI ?_;conv=>whnf))
      refine And.intro (HO jn) ?_;exact sZ
  ·have x9:A.length<=k:=by simpa using h6
   have N6:A[k]?=none:=List.getElem?_eq_none x9;obtain⟨bI,HT⟩:=NS hS hk kE (fun x hx=>by rw[N6]at hx;cases hx) (by rw[N6];simp);rw[HT]at aG;refine gO F76 ?_;refine aR ?_;refine gO F76 ?_;refine aU (by simpa using x9) ?_;refine gO F76 ?_;refine aR ?_;refine gO F76 ?_;refine aW ⟨by simp;omega,by simp[DV.cells]⟩ ?_;refine gO F76 ?_;refine J.loop (κ:=Nat × Text) [7,54,55,56,57,58,59,60,61,62,63,64,65,66] (fun x=>[(7,.d (.int .i64 x.1)),(3,.own 0 2)]) (fun x=>[(0,.arr 2 (9,1) ((A.take x.1++x.2::A.drop x.1).map .str))]) (fun x=>k<=x.1/\x.1<=A.length) (fun x=>x.1-k) (A.length,c.au.ao) ⟨hk,aed _⟩ ?_ ?_
   ·(conv=>whnf);repeat (first|exact trivial|(refine sI ?_;conv=>whnf))
    refine And.intro (by simp) ?_;(conv=>whnf);repeat (first|exact trivial|(refine sI ?_;conv=>whnf))
    refine And.intro (congrArg (DV.int .i64) ((wrap64 (by simp<;>omega) (by simp<;>omega)).trans (by simp only[aey,aff,agw];omega))) ?_;exact sZ
   rintro⟨n,y⟩ ⟨HU,jn⟩ AK;simp only at HU jn;refine J.head ag F76 2000 ?_;(conv=>whnf);refine ai (fun h8=>?_) (fun h8=>?_)
   ·have AL:k<n:=by simpa using h8
    obtain⟨z,hz⟩:=aH (l:=A) (k:=n-1) (by omega);have pt:IntKind.i64.wrap ((n:Int)-1)=((n-1:Nat):Int):=by rw[wrap64 (by omega) (by omega)];omega
    refine gO F76 ?_;refine aW ⟨by rw[pt];omega,by rw[pt];simp;omega⟩ ?_;refine gO F76 ?_;refine aD (e := .str z) ⟨by omega,by rw[pt,afr,afr,ad1,ael (by simp;omega),aek,if_pos (by omega),hz];rfl⟩ rfl ?_;refine gO F76 ?_;refine aW ⟨by omega,by simp;omega⟩ ?_;refine gO F76 ?_;refine aD (e := .str y) ⟨by omega,by simp[ae9,aeu,afa jn]⟩ rfl ?_;refine gO F76 ?_;refine gO F76 ?_;refine J.back (AK (n-1,z) ⟨by simp only;omega,by simp only;omega⟩ (by simp only;omega)) ?_;(conv=>whnf);repeat (first|exact trivial|(refine sI ?_;conv=>whnf))
    refine And.intro (NV hz (by omega)) ?_;exact sZ
   ·have AL : n=k := by have : n <= k := by simpa using h8
                        omega
    subst AL;refine gO F76 ?_;refine aW ⟨by omega,by simp;omega⟩ ?_;refine gO F76 ?_;refine aD (e := .str y) ⟨by omega,by simp[ae9,aeu,afa jn]⟩ rfl ?_;refine gO F76 ?_;refine gO F76 ?_;refine J.back (IH (i+1) (by omega) (by omega)) ?_;rw[aG];(conv=>whnf);repeat (first|exact trivial|(refine sI ?_;conv=>whnf))
    refine And.intro (HO jn) ?_;exact sZ
 ·have aC:l.length<=i:=by simpa using h5
  rw[afS (by omega)]at hA;refine gO F76 ?_;rw[hA]
theorem Xs{z:bc}(h:eu z=true):Nm.valid z.ao=true:=by
 simp only[eu,oC,aft]at h;simp_all
theorem Xt{l:List aQ}{i k:Nat}{c d:aQ}(hc:l[i]?=some c)(hd:l[k]?=some d)(hk:k<i)(h:d.host=c.host/\d.au.ao=c.au.ao/\d.bL<c.upto/\c.bL<d.upto):¬ l.Pairwise nM:=fun hp=>by
 obtain⟨p1,e1⟩:=ag2.1 hc;obtain⟨p2,e2⟩:=ag2.1 hd;have:=ahB.1 hp k i p2 p1 hk;rw[e1,e2]at this;exact this (by simp[aQ.spot,h.1,h.2.1]) h.2.2
theorem Xu{α:Type}{R:α->α->Prop}{l:List α}{i:Nat}{x:α}(h:(l.take i).Pairwise R)(hx:l[i]?=some x)(hn:∀ m y,m<i->l[m]?=some y->R y x):(l.take (i+1)).Pairwise R:=by
 rw[cG hx,ai9];refine⟨h,by simp,fun a ha b hb=>?_⟩;simp at hb;subst hb;obtain⟨m,hm⟩:=afe ha;rw[aek]at hm;split at hm
 ·rename_i kZ;exact hn m a kZ hm
 ·cases hm
theorem Xv(h:bO)(hf:h.Fits)(dm:h.aB.length<=1000000)(fL:h.hints.length<=1000000):ar E 29 [h.enc] (· = .bool (eJ h)):=by
 obtain⟨ay,aB,anchor,hints,bJ,fin⟩:=h;obtain⟨gJ,jq,AI,AJ⟩:=hf;simp only at gJ jq AI AJ dm fL;show ar E _ [DV.agg [.sl (ay.map Host.enc),.sl (aB.map aQ.enc),.str anchor.name,.int .i64 anchor.type,.int .i64 anchor.bY,.sl (anchor.data.map Datum.enc),.sl (hints.map (.int .i64)),.int .i64 bJ,.int .i64 fin]] _;refine eP F29 ?_;repeat' (first|with_reducible(first|refine aq (NQ ay gJ) ?_|refine ax (NQ ay gJ) ?_|refine aq (NR anchor hints jq fL) ?_|refine ax (NR anchor hints jq fL) ?_|refine cY ?_|refine cN ?_|refine ai (fun _=>?_) (fun _=>?_))|refine gA F29 ?_|refine gB ?_|with_reducible rfl)
 all_goals try (congr 1;simp_all[eJ];done)
 all_goals try (congr 1;simp_all[eJ];omega;done)
 rename_i h1 h2 h3 h4 h5 h6 h7;have fH:1<=fin/\fin<=10000000/\0<=bJ/\bJ<=1000/\aB.length<=4000:=by simp at h3 h4 h5 h6 h7;omega
 have hw:(fD ay&&jo anchor hints)=true:=by simp_all
 have bG:eJ ⟨ay,aB,anchor,hints,bJ,fin⟩=(aB.all (jr ay.length fin)&&decide (aB.Pairwise nM)&&decide (rQ aB<=500)):=by
  simp only[eJ,hw];simp[fH.1,fH.2.1,fH.2.2.1,fH.2.2.2.1,fH.2.2.2.2,aiK]
 rw[bG];clear bG h1 h2 h3 h4 h5 h6 h7 hw;refine gO F29 ?_;refine J.loop (κ:=Nat) (rg 2 5++rg 45 86) (fun k=>[(3,.d (.int .i64 k)),(2,.d (.bool false))]) (fun _=>[]) (fun k=>k<=aB.length/\(aB.take k).all (jr ay.length fin)=true/\(aB.take k).Pairwise nM) (fun k=>aB.length-k) 0 ⟨afv _,rfl,by simp⟩ ?_ ?_
 ·exact sZ
 rintro i ⟨hi,aL,vM⟩ IH;refine J.head ag F29 2000 ?_;(conv=>whnf);refine ai (fun h5=>?_) (fun h5=>?_)
 ·have ah:i<aB.length:=by simpa using h5
  obtain⟨c,hc⟩:=aH ah;have nx:=AJ c (afh hc);refine gO F29 ?_;refine aD (e:=c.enc) (aO hc) rfl ?_;refine gO F29 ?_;repeat' (first|with_reducible(first|refine aq (Hj c.au nx) ?_|refine ax (Hj c.au nx) ?_|refine cY ?_|refine cN ?_|refine ai (fun _=>?_) (fun _=>?_))|refine gA F29 ?_|refine gB ?_|with_reducible rfl)
  all_goals try (have bI:jr ay.length fin c=false:=by(simp_all[jr]<;>omega))
  all_goals try (rw[di hc bI];simp;done)
  rename_i h1 h2 h3 h4 h5 h6;have aP:jr ay.length fin c=true:=by simp_all[jr]
  refine gO F29 ?_;refine J.loop (κ:=Nat) ([2,5,6]++rg 93 38) (fun k=>[(5,.d (.int .i64 k)),(2,.d (.bool false))]) (fun _=>[]) (fun k=>k<=i/\∀ m d,m<k->aB[m]?=some d->nM d c) (fun k=>i-k) 0 ⟨afv _,fun m y h=>by omega⟩ ?_ ?_
  ·exact sZ
  rintro k ⟨hk,aJ⟩ pk;refine J.head ag F29 2000 ?_;(conv=>whnf);refine ai (fun h6=>?_) (fun h6=>?_)
  ·have l6:k<i:=by simpa using h6
   obtain⟨d,hd⟩:=aH (l:=aB) (k:=k) (by omega);refine gO F29 ?_;refine aD (e:=d.enc) (aO hd) rfl ?_;refine gO F29 ?_;repeat' (first|with_reducible(first|refine cY ?_|refine cN ?_|refine ai (fun _=>?_) (fun _=>?_))|refine gA F29 ?_|refine gB ?_|with_reducible rfl)
   all_goals try
    (have qB := Xt hc hd l6 (by(simp_all<;>omega))
     simp[qB];done)
   all_goals
    have yc:nM d c:=fun e=>by
     simp only[aQ.spot,Prod.mk.injEq]at e;simp_all;try (intros;omega)
    refine gO F29 ?_;refine J.back (pk (k+1) ⟨by omega,fun m z hm hz=>?_⟩ (by omega)) ?_
    ·by_cases l7:m=k
     ·subst l7;rw[hd]at hz;cases hz;exact yc
     ·exact aJ m z (by omega) hz
    ·exact sZ
  ·have x9:i<=k:=by simpa using h6
   refine gO F29 ?_;refine J.back (IH (i+1) ⟨by omega,dv aL hc aP,Xu vM hc (fun m z hm hz=>aJ m z (by omega) hz)⟩ (by omega)) ?_;exact sZ
 ·have aC:aB.length<=i:=by simpa using h5
  rw[afS aC]at aL vM;have Xw:∀ c∈aB,c.au.ao.length<=1000:=fun c hc=>by
   have h1:=ad'.1 aL c hc;simp only[jr,aft]at h1;have:=dV (Xs h1.2);omega
  refine gO F29 ?_
  with_reducible refine aq (Xp aB dm Xw) ?_
  refine gO F29 ?_;simp only[aL,vM,decide_true,afC,rQ,NU,aff]
  congr 2
  simp;omega
theorem XH(c:aQ):ar E 59 [c.enc] (· = .str c.au.ao):=by
 refine eP Tryz.func59 ?_
 with_reducible rfl
def qo(l:List aQ):Bool:=decide (4000<l.length)||decide (500<rQ l)
theorem XI(l:List aQ)(hl:l.length<=1000000):aw E 60 [] [.d (.sl (l.map aQ.enc)),.d (.int .i64 4000),.d (.int .i64 500),.fn (.func 59) [] []] (fun a b=>∃ es,a=.d (.bool (qo l))/\b=[.map es]):=by
 generalize hT:l.map (·.au.ao)=T;have Dn:T.length=l.length:=by rw[<- hT];simp
 have hlen:=HN x6 T T.length (aed _);rw[List.take_length]at hlen;have XJ:qo l=(decide (4000<l.length)||decide (500<(eI [] T).length)):=by rw[qo,rQ,hT]
 rw[XJ];refine aw.run ag (fn:=Tryz.f60) Tryz.func60 (body:=Tryz.f60.body.getD .skip) rfl (by decide) 2000 rfl ?_;(conv=>whnf);refine gO F60 ?_;refine gO F60 ?_;refine J.loop (κ:=Nat) ([11]++rg 15 9) (fun k=>[(15,.d (.int .i64 k)),(9,.map 0)]) (fun k=>[(0,.map (ev DV.str (T.take k)))]) (fun k=>k<=l.length) (fun k=>l.length-k) 0 (afv _) ?_ ?_
 ·(conv=>whnf);repeat (first|exact trivial|(refine sI ?_;conv=>whnf))
  refine And.intro rfl ?_;exact sZ
 intro k hk IH;refine J.head ag F60 2000 ?_;(conv=>whnf);refine ai (fun h5=>?_) (fun h5=>?_)
 ·have ah:k<l.length:=by simpa using h5
  obtain⟨c,hc⟩:=aH ah;have HE:T[k]?=some c.au.ao:=by rw[<- hT];simp[hc]
  have fC:=(oG x6 (T.take k)).1;refine gO F60 ?_;refine aD (e:=c.enc) (aO hc) rfl ?_;refine gO F60 ?_
  with_reducible refine aq (XH c) ?_
  refine gO F60 ?_;refine aW ⟨⟨_,rfl⟩,fC⟩ ?_;refine gO F60 ?_;refine J.back (IH (k+1) (by omega) (by omega)) ?_;rw[HC HE];exact sZ
 ·have aC:l.length<=k:=by simpa using h5
  rw[afS (by omega)];refine gO F60 ?_;refine ai (fun h6=>?_) (fun h6=>?_)
  ·refine gO F60 ?_;refine⟨_,?_,rfl⟩;have:4000<l.length:=by simp at h6;omega
   simp[this]
  ·refine gO F60 ?_;refine gO F60 ?_;refine⟨_,?_,rfl⟩;rw[hlen];have h7:decide (4000<l.length)=false:=by simp at h6 ⊢;omega
   rw[h7,Bool.false_or];refine congrArg (fun b=>AV.d (DV.bool b)) ?_;rw[Bool.eq_iff_iff];simp;try omega
end Go.Proofs.YtfmdaiojokniiaaGreatDoor.P
end
section
namespace Go.aA
open Go Go.RowKit
theorem aw.kK{E:Env}{f:FuncId}{H H2:List af}{args:List AV}{r0:AV}(hc:aw E f H args (fun a b=>a=r0/\lj H.length [] 0 b=H2))(hk:(Gg H.length [] H2&&ir H.length [] r0)=true):aw E f H args (fun a b=>a=r0/\b=H2):=by
 simp only[aft]at hk;obtain⟨dL,hv⟩:=hk;unfold aw at hc ⊢;refine⟨hc.1,hc.2.1,fun c vs h1 h2 h3=>(hc.2.2 c vs h1 h2 h3).mono fun e w' ⟨c',r,v,k1,k2,⟨k3,z7⟩,k4,k5,k6⟩=>?_⟩;subst k3;have a1:=k5.gu (n:=H.length) (B:=[]) (by rw[z7];exact dL);have a2:=Cr (n:=H.length) (B:=[]) hv k4;obtain⟨b1,b2⟩:=a1.Lt (aE:=c'.aE) (fun b hb => .inl hb);refine⟨⟨(c'.gu H.length []).own,(c'.gu H.length []).heap,c'.aE,c'.w⟩,r,v,k1,k2,⟨rfl,by show lj _ _ 0 c'.heap=H2;rw[z7]⟩,b2 _ _ a2,b1,?_⟩;have hid:∀ i,i<H.length->dH H.length [] i=false:=fun i hi=>by
  have:Nat.ble H.length i=false:=by
   cases q:Nat.ble H.length i
   ·rfl
   ·have:=ad3 q;omega
  simp only[dH,this];rfl
 exact{
  aE:=k6.aE
  os:=k6.os
  tape:=k6.tape
  output:=k6.output
  size:=k6.size
  keep:=k6.keep
  dB:=fun i b n hi hb=>k6.dB i b n (uX hi).2 hb
  boxes:=fun i bx hi=>by
   have ah:i<H.length:=by rw[<- h1];exact aX hi
   have e1:(lj H.length [] 0 c'.heap)[i]?=c'.heap[i]? := xG 0 i c'.heap (by rw[Nat.zero_add];exact hid i ah)
   exact uZ (c:=c') (fun x hx=>e1.trans hx) (fun x _=>zY (hid i ah)) (k6.boxes i bx hi) }
section
variable {E:Env} {s:List AV} {h:List af} {c:Cx} {G:List (Nat × DV)}
theorem ZQ(hE:E.OK){t e len:Nat}{i ei:bu}(hi:E.T[t]?=some i)(bV:E.T[e]?=some ei)(hk:i.k=.slice e){parts:Array (Nat × Operand)}{ps:List (Nat × AV)}(hI:yI E.G s parts.toList ps)
  {z:DV} (hz:ei.zero=[z]) (bR:ei.size=1) (hlen:0<len) (BB:len<=16777216) {l:List AV} (hl:l.length=len)
  (h4:∀ (c:Cx) (vs us:List Value),VL c (ad6 len (AV.d z)) vs->VL c (ps.map (·.2)) us->∃ vs':List Value,Instr.fill (fun i=>some (i*1,1)) vs.toArray ((ps.map (·.1)).zip us)=some vs'.toArray/\VL c l vs') :
  bz E (.buildSlice t len parts) s h (.own h.length 0) (h++[.cells l]):=fun o c ac e1 e2 e3 e4=>by
 subst e2;have cS:0<ei.size:=by omega
 obtain⟨ti,zv,g1,g2,g3,g4⟩:=zeroOf (hE.types e ei bV) (by rw[hz,bR];rfl) cS;obtain⟨zs,yK,kS⟩:=g4 c;obtain⟨p1,p2⟩:=hI c ac e3 e4;have mh:zs.length=1:=by rw[<- kS.1,hz];rfl
 have A9:ti.size=1:=by omega
 have yL:VL c (ad6 len (AV.d z)) ((aeD (len*ti.size)).map (zv.cells[· % zv.cells.size]!)).toList:=by
  refine⟨by simp[A9],fun j x v hx hv=>?_⟩;rw[List.getElem?_replicate]at hx;split at hx
  ·rename_i hj;cases hx;have eK:v=zs[0]'(by omega):=by
    simp[A9,hj,yK,mh]at hv;rw[<- hv];simp[mh,Nat.mod_one]
   rw[eK];exact kS.2 0 _ _ (by rw[hz];rfl) (by simp[mh])
  ·cases hx
 obtain⟨vs',f1,f2⟩:=h4 c _ _ yL p2;obtain⟨wN,d,q1,q2,q3,-⟩:=cC (hE.types t i hi);obtain rfl:=lF (hk.symm.trans q3);have eq:(parts.map fun(i,x)=>(i,ac.eval x)).toList=(ps.map (·.1)).zip (parts.toList.map fun p=>ac.eval p.2):=by
  rw[p1,Array.toList_map];generalize parts.toList=q
  induction q with
  |nil=>rfl
  |cons a q ih=>simp only[ad0,List.zip_cons_cons,ih]
 have uj:Instr.fill (fun i=>some (i*ti.size,ti.size)) ((aeD (len*ti.size)).map (zv.cells[· % zv.cells.size]!)) (parts.map fun(i,x)=>(i,ac.eval x)).toList=some vs'.toArray:=by
  rw[eq,<- f1,Array.toArray_toList,A9]
 have cK:=run_buildSlice (P:=E.P) c.w t e len (parts.map fun(i,x)=>(i,ac.eval x)) vs'.toArray ti zv q2 g1 g2 (by rw[A9];omega) (by rw[A9];omega) uj;obtain⟨w1,w2,w3⟩:=e3.Er f2 e;refine⟨_,.slice (some ⟨c.w.heap.size,0,none⟩) len len,.inl (by simp only[execOp,e1,Sem.run_bind,cK,Result.andThen_ok,Sem.run_pure];rfl),rfl,w1,?_,w2⟩;exact .mZ _ _ l c.w.heap.size 0 len (by simp[Cx.add]) (by simp[Cx.add]) hl
theorem J.ZR(hE:E.OK){aj:FuncId}{R:cF}{lits:List Nat}{ops:Array Oper}{o:Oper}{l:List Oper}{r:List aT}{t e len:Nat}{i ei:bu}{parts:Array (Nat × Operand)}(hg:o.guard=none)(cn:o.op=.buildSlice t len parts)
  (hi:E.T[t]?=some i) (hk:i.k=.slice e) (bV:E.T[e]?=some ei) {z:DV} (hz:ei.zero=[z]) (bR:ei.size=1) (hlen:Nat.blt 0 len=true) (BB:Nat.ble len 16777216=true)
  (H:ue E.G s parts.toList False fun ps=>wD (fun i=>some (i*1,1)) ps (ad6 len (AV.d z)) False fun cs=>match Nat.beq cs.length len with
   |true=>cg s o.dst (.own h.length 0) fun s'=>J E aj R lits (.bw ops l::r) s' (h++[.cells cs])
   |false=>False):J E aj R lits (.bw ops (o::l)::r) s h:=by
 rcases yJ H with h'|⟨ps,hI,H⟩
 ·exact h'.elim
 rcases Bz H with h'|⟨cs,H,hf⟩
 ·exact h'.elim
 split at H
 ·rename_i q;have ho:=ZQ (h:=h) hE hi bV hk hI hz bR (iO hlen) (ad3 BB) (Nat.eq_of_beq_eq_true q) hf;rw[<- cn]at ho;rw[dX]at H;exact .of (.op (gb hg) ho H.to)
 ·exact H.elim
theorem O'{b g:Nat}{cs:List AV}(hb:c.heap[b]?=some (.cells cs)){v:Value}(hv:VR c (.own b g) v):∃ blk cap,c.own b=some (blk,cap)/\v=.slice (some ⟨blk,0,none⟩) cs.length cs.length:=by
 cases hv with
 |own _ _ _ l' blk cap k1 k2=>rw[hb]at k1;cases k1
 |iH _ _ _ k1 k2=>rw[hb]at k1;cases k1
 |kQ _ _ g' _ _ _ k1 k2 _=>rw[hb]at k1;cases k1
 |jY _ _ _ k1 _=>rw[hb]at k1;cases k1
 |mZ _ _ _ blk cap n k1 k2 k3=>rw[hb]at k1;cases k1;subst k3;exact⟨blk,cap,k2,rfl⟩
theorem J.ZS(hE:E.OK){aj:FuncId}{R:cF}{lits:List Nat}{ops:Array Oper}{o:Oper}{l:List Oper}{r:List aT}{t e b g:Nat}{i:bu}{x:Operand}{args:Array Operand}{ts:Array TypeId}{cs:List AV}(hg:o.guard=none)
  (cn:o.op=.call { callee := .builtin .len,args:=args,argTypes:=ts }) (hx:args.toList[0]?=some x) (ht:ts.toList[0]?=some t) (hi:E.T[t]?=some i) (hk:i.k=.slice e) (hv:bh E.G s x (.own b g)) (hb:h[b]?=some (.cells cs))
  (H:cg s o.dst (.d (.int .i64 cs.length)) fun s'=>J E aj R lits (.bw ops l::r) s' h):J E aj R lits (.bw ops (o::l)::r) s h:=by
 have ho:bz E o.op s h (.d (.int .i64 cs.length)) h:=by
  rw[cn];refine .quiet fun o c ac h1 h2 h3 h4=>?_;subst h2;obtain⟨blk,cap,-,q⟩:=O' hb (hv c ac h3 h4);exact⟨_,wJ h1 hx ht (hE.types t i hi) q (.inl ⟨e,_,_,hk,rfl⟩),.d _ _ (.int _ _)⟩
 rw[dX]at H;exact .of (.op (gb hg) ho H.to)
theorem J.qw(hE:E.OK){aj:FuncId}{R:cF}{lits:List Nat}{ops:Array Oper}{o:Oper}{l:List Oper}{r:List aT}{t e b g n:Nat}{ti ei:bu}{x y:Operand}{cs:List AV}{j:IntKind}(hg:o.guard=none)
  (cn:o.op=.indexAddr t x y) (hi:E.T[t]?=some ti) (hk:ti.k=.slice e) (bV:E.T[e]?=some ei) (bR:ei.size=1) (hv:bh E.G s x (.own b g)) (hy:bh E.G s y (.d (.int j n))) (hb:h[b]?=some (.cells cs)) (hn:n<cs.length)
  (H:cg s o.dst (.ptr b n) fun s'=>J E aj R lits (.bw ops l::r) s' h):J E aj R lits (.bw ops (o::l)::r) s h:=by
 have ho:bz E o.op s h (.ptr b n) h:=by
  rw[cn];refine .quiet fun o c ac h1 h2 h3 h4=>?_;subst h2;obtain⟨blk,cap,q1,q2⟩:=O' hb (hv c ac h3 h4);refine⟨_,yX h1 (v := .pointer (some ⟨blk,0+(n:Int).toNat*ei.size,none⟩)) ?_,?_⟩
  ·rw[q2,ef (hy c ac h3 h4)];exact EU (hE.types t ti hi) (hE.types e ei bV) hk (by omega) (by omega)
  ·rw[bR]
   simpa using VR.ptr (c:=c) b n cs blk cap hb q1
 rw[dX]at H;exact .of (.op (gb hg) ho H.to)
end
end Go.aA
end
