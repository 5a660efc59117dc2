/- Lemmas of mine. Conditions: as stated. -/
import Derived.Test.YtlhehdgciafakaaGreatDoorQ11
import Derived.Test.YtlhehdgciafakaaGreatDoorQ12
set_option linter.unusedVariables false
set_option linter.unusedSimpArgs false
open Array renaming range->ah'
open Bool renaming and_eq_true->ai2,false_eq_true->ah0,true_and->aja,eq_iff_iff->akN,and_assoc->alX
open Int renaming toNat_natCast->ai0
open List renaming mem_of_getElem?->aiQ,mem_append->aif,getElem?_eq_some_iff->akz,take_of_length_le->ajq,pairwise_iff_getElem->ak9,mem_map->ahY,mem_cons->ai3,length_map->aiO,map_cons->ahx,map_append->aih,getElem?_of_mem->aiN,getElem?_take->ahS,length_take->ah1,nodup_append->aii,filter_append->alZ,filter_nil->amE,getElem?_append_right->aiH,mem_cons_self->aio,getElem?_map->ahy,takeWhile_append_dropWhile->amF,pairwise_append->amG,all_eq_true->ahH,replicate->ahC,nodup_iff_pairwise_ne->amB,mem_cons_of_mem->aip,pairwise_cons->amH,nodup_cons->ajK,filter_cons_of_neg->amI,append_nil->aj0,filter_cons_of_pos->amJ,append_of_mem->amK,mem_singleton->alI,length_append->ah5,length_singleton->aj4,getElem?_append_left->ahT
open Nat renaming zero_le->ai4,min_eq_left->aiJ,le_refl->ahL,lt_trichotomy->ajV,le_of_ble_eq_true->ahA
section
namespace Go.Proofs.YtlhehdgciafakaaGreatDoor.P
open Go Go.az
set_option maxRecDepth 100000
set_option maxHeartbeats 4000000
theorem JE{α:Type}{l:List α}(hn:l.Nodup){i j:Nat}{a:α}(hi:l[i]?=some a)(hj:l[j]?=some a):i=j:=by
 obtain⟨p1,e1⟩:=akz.1 hi;obtain⟨p2,e2⟩:=akz.1 hj;have h:=ak9.1 (amB.1 hn);rcases ajV i j with eC|eC|eC
 ·exact absurd (e1.trans e2.symm) (h i j p1 p2 eC)
 ·exact eC
 ·exact absurd (e2.trans e1.symm) (h j i p2 p1 eC)
theorem EU(p:cU):eo E.T (TK.struct [(0,3),(1,9)]) (cU.en p):=⟨_,rfl,rfl,⟨_,rfl,_,rfl⟩,rfl,⟨_,rfl,_,rfl⟩,trivial⟩
def aH.spot(p:aH):cU:=(p.host,p.ar.af)
theorem P7{z:aK}(h:dN z=true):z.J≠[]:=fun e=>by
 simp only[dN,tG,ai2]at h;simp[e,aC]at h
theorem EV{l:List aH}{k:Nat}{x:aH}(h:l[k]?=some x):(l.take (k+1)).map aH.spot=(l.take k).map aH.spot++[x.spot]:=by
 rw[cj h,aih];rfl
theorem JF{l:List aH}{i:Nat}{x:aH}(hx:l[i]?=some x)(h:x.spot∈(l.take i).map aH.spot):¬ (l.map aH.spot).Nodup:=fun hn=>by
 obtain⟨y,hy,e⟩:=ahY.1 h;obtain⟨m,hm⟩:=aiN hy;rw[ahS]at hm;split at hm
 ·rename_i mf;have h1:(l.map aH.spot)[i]?=some x.spot:=by simp[hx]
  have h2:(l.map aH.spot)[m]?=some x.spot:=by simp[hm,e]
  have:=JE hn h1 h2;omega
 ·cases hm
theorem JG{l:List aH}{i:Nat}{x:aH}(hx:l[i]?=some x)(h:((l.take i).map aH.spot).Nodup)(hn:x.spot ∉ (l.take i).map aH.spot):((l.take (i+1)).map aH.spot).Nodup:=by
 rw[EV hx,aii];exact⟨h,by simp,fun a ha b hb e=>by simp at hb;subst hb;subst e;exact hn ha⟩
theorem zG{es:List (DV × DV)}(h:nX cU.en es):∀ p∈es,eo E.T (TK.struct [(0,3),(1,9)]) p.1:=fun p hp=>by
 obtain⟨a,e⟩:=h p hp;rw[e];exact EU a
theorem P8{α:Type}[DecidableEq α]{en:α->DV}(hk:∀ a b,fy (en a) (en b)=decide (a=b)){b:α}{v:DV}:∀ {es:List (DV × DV)},nX en es->(b8 (en b) v es).length=es.length+(if (findD (en b) es).isSome then 0 else 1)
 |[],_=>by simp[b8,findD]
 |q::es,h=>by
  obtain⟨s,hs⟩:=h q (aio ..);obtain⟨q1,q2⟩:=q;simp only at hs;subst hs;unfold b8;simp only[hk];by_cases e:b=s
  ·subst e;simp[findD,hk]
  ·have ih:=P8 hk (b:=b) (v:=v) (es:=es) (fun r hr=>h r (aip _ hr));simp only[e,decide_false,ah0,if_false,findD,hk,List.length_cons,ih];omega
theorem JI{α:Type}[DecidableEq α]{en:α->DV}(hk:∀ a b,fy (en a) (en b)=decide (a=b))(l:List α):∀ k,k<=l.length->(eY en (l.take k)).length=(er [] (l.take k)).length
 |0,_=>rfl
 |k+1,h=>by
  obtain⟨x,hx⟩:=aI (l:=l) (k:=k) oM;have ih:=JI hk l k oM;rw[JB hx,JC hx,P8 hk (pU hk _).1,(xy hk _ x).2,ih];by_cases hm:x∈l.take k
  ·simp[hm]
  ·simp[hm]
theorem Zi{l:List Host}{i k:Nat}{x y:Host}(hx:l[i]?=some x)(hy:l[k]?=some y)(hk:k<i)(e:y.addr=x.addr):gb l=false:=by
 have:¬ (l.map (·.addr)).Nodup:=fun hn=>by
  have h1:(l.map (·.addr))[i]?=some x.addr:=by simp[hx]
  have h2:(l.map (·.addr))[k]?=some x.addr:=by simp[hy,e]
  have:=JE hn h1 h2;omega
 simp[gb,this]
theorem Zj{l:List Int}{i:Nat}{x:Int}(h:(l.take i).Nodup)(hx:l[i]?=some x)(hn:∀ m y,m<i->l[m]?=some y->y≠x):(l.take (i+1)).Nodup:=by
 rw[cj hx,aii];refine⟨h,by simp,fun a ha b hb e=>?_⟩;simp at hb;subst hb;subst e;obtain⟨m,hm⟩:=aiN ha;rw[ahS]at hm;split at hm
 ·rename_i mf;exact hn m _ mf hm rfl
 ·cases hm
theorem P9(l:List Host)(hn:∀ x∈l,x.name.length<=maxLen):aq E 91 [.sl (l.map Host.enc)] (· = .bool (gb l)):=by
 refine eP F91.h ?_;apply ah<;>intro h1
 ·refine gC ?_;have:gb l=false:=by simp[gb];simp at h1;omega
  rw[this]
 ·have hlen:l.length<=64:=by simp at h1;omega
  refine gC ?_;refine I.lP l.length (rg 2 5++rg 10 53) (fun k=>[(3,.d (.int .i64 k)),(2,.d (.bool false))]) (fun _=>[]) (fun k=>k<=l.length/\(l.take k).all oX=true/\((l.map (·.addr)).take k).Nodup) ⟨ai4 _,rfl,by simp⟩ ?_ ?_
  ·exact sZ
  rintro i ⟨hi,aM,cW⟩ IH;refine zA ?_ ?_<;>intro h5
  ·have ai:i<l.length:=zD h5
   obtain⟨x,hx⟩:=aI ai;have eb:=hn x (aiQ hx);refine gC ?_;refine eM hx (gC ?_)
   with_reducible refine ao (fA x.name eb) ?_
   refine gC ?_;cases hv:Nm.valid x.name
   ·repeat' (first|with_reducible(first|refine cX ?_|apply ah<;>intro)|refine gE ?_|with_reducible rfl)
    all_goals (rw[Jy hx (by simp[oX,hv])])
   ·have jl:x.name.length<=1000:=by have:=dh hv;omega
    repeat' (first|with_reducible(first|refine cC (Eo x.name jl) ?_|refine cX ?_|apply ah<;>intro)|refine gE ?_|with_reducible rfl)
    all_goals try (rw[Jy hx (by(simp_all[oX,xw,lR]<;>omega))];done)
    have hb:oX x=true:=by(simp_all[oX,xw,lR]<;>omega)
    refine gC ?_;refine I.lP i ([2,6]++rg 50 13) (fun k=>[(6,.d (.int .i64 k)),(2,.d (.bool false))]) (fun _=>[]) (fun k=>k<=i/\∀ m y,m<k->l[m]?=some y->y.addr≠x.addr) ⟨ai4 _,fun m y h=>by omega⟩ ?_ ?_
    ·exact sZ
    rintro k ⟨hk,aL⟩ qG;refine zA ?_ ?_<;>intro h6
    ·have ni:k<i:=zD h6
     obtain⟨y,hy⟩:=aI (l:=l) (k:=k) oM;refine gC ?_;refine dU ?_;refine eM hy (gD ?_);refine gC ?_;apply ah<;>intro h7
     ·refine gC ?_;rw[Zi hx hy ni (zD h7)]
     ·refine gC ?_;refine I.back (qG (k+1) ⟨by omega,fun m z hm hz=>?_⟩ oM) ?_
      ·by_cases nk:m=k
       ·subst nk;rw[hy]at hz;cases hz;simpa using h7
       ·exact aL m z oM hz
      ·exact sZ
    ·have zH:i<=k:=zD h6
     refine gC ?_;refine I.back (IH (i+1) ⟨by omega,ea aM hx hb,Zj (x:=x.addr) cW (by simp[hx]) (fun m z hm hz=>?_)⟩ oM) ?_
     ·simp only[ahy,Option.map_eq_some_iff]at hz;obtain⟨y,hy,rfl⟩:=hz;exact aL m y oM hy
     ·exact sZ
  ·have aA:l.length<=i:=zD h5
   rw[ajq aA]at aM;rw[ajq (zD aA)]at cW;refine gC ?_;simp[gb,aM,cW,hlen]
theorem P'(a:dw)(l:List Int)(hf:a.Fits)(hl:l.length<=1000000):aq E 92 [a.enc,.sl (l.map (.int .i64))] (· = .bool (kx a l)):=by
 refine eP F92.h ?_;refine I.lP l.length ([4,5]++rg 7 18) (fun k=>[(5,.d (.int .i64 k)),(4,.d (.bool false))]) (fun _=>[]) (fun k=>k<=l.length/\(l.take k).all lR=true) ⟨ai4 _,rfl⟩ ?_ ?_
 ·exact sZ
 rintro i ⟨hi,aM⟩ IH;refine zA ?_ ?_<;>intro h5
 ·have ai:i<l.length:=zD h5
  obtain⟨x,hx⟩:=aI ai;refine gC ?_;repeat' (first|with_reducible(first|refine aR (bC hx) rfl ?_|refine cX ?_|apply ah<;>intro)|refine gE ?_|with_reducible rfl)
  all_goals try (have bI:l.all lR=false:=dK hx (by(simp_all[lR]<;>omega));simp[kx,bI];done)
  refine gC ?_;refine I.back (IH (i+1) ⟨by omega,ea aM hx (by(simp_all[lR]<;>omega))⟩ oM) ?_;exact sZ
 ·have aA:l.length<=i:=zD h5
  rw[ajq aA]at aM;refine gC ?_;repeat' (first|with_reducible(first|refine cC (zp a hf) ?_|refine cX ?_|apply ah<;>intro)|refine gE ?_|with_reducible rfl)
  all_goals try (simp_all[kx];done)
  all_goals
   rename_i e1 e2 e3 e4;have Zk:a.type=6:=zD e2
   have Zl:a.name=[46]:=zD e3
   by_cases hz:1<=l.length
   ·simp[kx,e1,Zk,Zl,aM,hz];try (simp at e4;omega)
    try omega
   ·first
     |(simp[kx,hz];done)
     |(exfalso;simp at e4;omega)
def nY(out:List Text)(a:Text):List Text:=if a∈out then out else out.takeWhile (fun x=>decide (bH x a<0))++a::out.dropWhile (fun x=>decide (bH x a<0))
def vD(out:List Text):Prop:=out.Pairwise fun x y=>bH x y<0
def nZ(l:List Text):List Text:=l.foldl nY []
theorem Zm{p:Text->Bool}{out:List Text}{k:Nat}(hk:k<=out.length)(lQ:∀ m x,m<k->out[m]?=some x->p x=true)(tv:∀ x,out[k]?=some x->p x=false):out.takeWhile p=out.take k/\out.dropWhile p=out.drop k:=by
 induction out generalizing k with
 |nil=>simp
 |cons y out ih =>
  cases k with
  |zero=>have:=tv y rfl;simp[this]
  |succ k =>
   have h0:=lQ 0 y oM rfl;have:=ih (k:=k) (zD hk) (fun m x hm hx=>lQ (m+1) x oM (zD hx)) (fun x hx=>tv x (zD hx));simp[h0,this]
theorem Zn{out:List Text}(h:vD out){i j:Nat}{x y:Text}(eC:i<j)(hx:out[i]?=some x)(hy:out[j]?=some y):bH x y<0:=by
 obtain⟨p1,e1⟩:=akz.1 hx;obtain⟨p2,e2⟩:=akz.1 hy;have:=ak9.1 h i j p1 p2 eC
 rwa [e1,e2]at this
theorem Qa{out:List Text}{a:Text}{k:Nat}(h:vD out)(hk:k<=out.length)(lQ:∀ m x,m<k->out[m]?=some x->bH x a<0)(tv:∀ x,out[k]?=some x->¬ bH x a<0)(aL:out[k]? ≠ some a):a ∉ out/\nY out a=out.take k++a::out.drop k:=by
 have bI:a ∉ out:=fun hm=>by
  obtain⟨m,hm⟩:=aiN hm;rcases ajV m k with nk|rfl|nk
  ·have:=lQ m a nk hm;rw[qH]at this;omega
  ·exact aL hm
  ·obtain⟨x,hx⟩:=aI (l:=out) (k:=k) (by have:=aW hm;omega);exact tv x hx (Zn h nk hx hm)
 refine⟨bI,?_⟩;obtain⟨h1,h2⟩:=Zm (p:=fun x=>decide (bH x a<0)) hk (fun m x hm hx=>zD (lQ m x hm hx)) (fun x hx=>zD (tv x hx));rw[nY,if_neg bI,h1,h2]
theorem Zo{out:List Text}(a:Text)(h:vD out):vD (nY out a):=by
 unfold nY;split
 ·exact h
 ·rename_i bI;have hs:=h;unfold vD at h ⊢;rw[<- amF (p:=fun x=>decide (bH x a<0)) (l:=out)]at h;rw[amG]at h;obtain⟨h1,h2,h3⟩:=h;rw[amG];have lQ:∀ x∈out.takeWhile (fun x=>decide (bH x a<0)),bH x a<0:=fun x hx=>zD (Jg _ _ x hx)
  have Zp:∀ x∈out.dropWhile (fun x=>decide (bH x a<0)),bH a x<0:=fun x hx=>by
   cases hd:out.dropWhile (fun x=>decide (bH x a<0))with
   |nil=>rw[hd]at hx;simp at hx
   |cons y r =>
    rw[hd]at hx h2;have hy:¬ bH y a<0:=by
     have:=List.head?_dropWhile_not (p:=fun x=>decide (bH x a<0)) out;rw[hd]at this
     simpa using this
    have zI:bH a y<0:=by
     have e:=BV a y;rcases Int.lt_trichotomy (bH a y) 0 with q|q|q
     ·exact q
     ·have:=rV q;subst this;have iq:a∈out:=by
       rw[<- amF (p:=fun x=>decide (bH x a<0)) (l:=out),hd];simp
      exact absurd iq bI
     ·omega
    rcases ai3.1 hx with rfl|hx
    ·exact zI
    ·exact BW zI ((amH.1 h2).1 x hx)
  refine⟨h1,amH.2 ⟨Zp,h2⟩,fun x hx y hy=>?_⟩;rcases ai3.1 hy with rfl|hy
  ·exact lQ x hx
  ·exact h3 x hx y hy
theorem Zq{out:List Text}{a x:Text}:x∈nY out a↔x∈out\/x=a:=by
 unfold nY;split
 ·rename_i h;constructor
  ·exact .inl
  ·rintro(h1|rfl)
   ·exact h1
   ·exact h
 ·have e:=amF (p:=fun x=>decide (bH x a<0)) (l:=out);constructor
  ·intro hx;rw[<- e];simp only[aif,ai3]at hx ⊢;rcases hx with h|rfl|h
   ·exact .inl (.inl h)
   ·exact .inr rfl
   ·exact .inl (.inr h)
  ·intro hx;rw[<- e]at hx;simp only[aif,ai3]at hx ⊢;rcases hx with(h|h)|rfl
   ·exact .inl h
   ·exact .inr (.inr h)
   ·exact .inr (.inl rfl)
theorem Qb(l:List Text):vD (nZ l)/\∀ x,x∈nZ l↔x∈l:=by
 have main:∀ (l out:List Text),vD out->vD (l.foldl nY out)/\∀ x,x∈l.foldl nY out↔x∈out\/x∈l:=by
  intro l
  induction l with
  |nil=>intro out h;exact⟨h,by simp⟩
  |cons a l ih =>
   intro out h;have:=ih (nY out a) (Zo a h);refine⟨this.1,fun x=>?_⟩;rw[List.foldl_cons,this.2,Zq];simp[or_assoc]
 have:=main l [] List.Pairwise.nil;exact⟨this.1,fun x=>by rw[nZ,this.2];simp⟩
theorem Zr{l:List Text}{k:Nat}{x:Text}(h:l[k]?=some x):nZ (l.take (k+1))=nY (nZ (l.take k)) x:=by
 rw[cj h,nZ,List.foldl_append];rfl
theorem Qc(l:List Text):(nZ l).length=(er [] l).length:=by
 obtain⟨h1,h2⟩:=Qb l;refine Ze ?_ (B7 List.nodup_nil) fun x=>by rw[h2,tQ];simp
 rw[amB];refine h1.imp fun{a b} oF e=>?_;subst e;rw[qH]at oF;omega
theorem JJ{A:List Text}{n:Nat}{y a:Text}(hn:n<=A.length):((A.take n++y::A.drop n).map DV.str).set ((n:Int)).toNat (.str a)=(A.take n++a::A.drop n).map DV.str:=by
 rw[ai0,<- List.map_set]
 congr 1
 rw[List.set_append_right _ _ (by simp;omega)];simp[aiJ hn]
theorem Qd{A:List Text}{n:Nat}{y z:Text}(hz:A[n-1]?=some z)(h0:0<n):((A.take n++y::A.drop n).map DV.str).set ((n:Int)).toNat (.str z)=(A.take (n-1)++z::A.drop (n-1)).map DV.str:=by
 have hl:=aW hz;rw[JJ oM]
 congr 1
 obtain⟨m,rfl⟩:∃ m,n=m+1:=⟨n-1,by omega⟩;simp only[Nat.add_sub_cancel]at hz hl ⊢;rw[cj hz];obtain⟨p,e⟩:=akz.1 hz;rw[List.drop_eq_getElem_cons p,e];simp
theorem Zs(l:List aH)(hl:l.length<=1000000):aq E 61 [.sl (l.map aH.enc)] (· = .sl ((er [] (l.map (·.ar.af))).map .str)):=by
 refine eP F61.h ?_;refine I.nH 3 (9,1) dC rfl ?_;(conv=>whnf);refine I.lP l.length (rg 3 41) (fun k=>[(4,.d (.int .i64 k)),(3,.own 0 1)]) (fun k=>[(0,.arr 1 (9,1) ((er [] ((l.map (·.ar.af)).take k)).map .str))]) (fun k=>k<=l.length) (ai4 _) ?_ ?_
 ·refine sY ?_
  refine⟨rfl, ?_⟩;exact sZ
 intro k hk IH;refine zA ?_ ?_<;>intro h5
 ·have ai:k<l.length:=zD h5
  obtain⟨c,hc⟩:=aI ai;have B9:(l.map (·.ar.af))[k]?=some c.ar.af:=by simp[hc]
  have eb:=JC B9;have Qe:=B8 (l:=(l.map (·.ar.af)).take k) (acc:=[]);have eF:c.ar.af∈er [] ((l.map (·.ar.af)).take k)↔c.ar.af∈(l.map (·.ar.af)).take k:=by rw[tQ];simp
  rw[ah1,aiO,List.length_nil]at Qe;generalize er [] ((l.map (·.ar.af)).take k)=C at *;refine gC ?_;refine I.lP C.length ([5,6]++rg 13 20) (fun j=>[(6,.d (.int .i64 j)),(5,.d (.bool (decide (c.ar.af∈C.take j))))]) (fun j=>[]) (fun j=>j<=C.length) (ai4 _) ?_ ?_
  ·refine sY ?_
   refine⟨by simp, ?_⟩;exact sZ
  intro j hj JH;refine zA ?_ ?_<;>intro h6
  ·have B':j<C.length:=zD h6
   obtain⟨t,ht⟩:=aI B';have hb:0<=(j:Int)/\(j:Int)<((C.map DV.str).length:Int):=⟨by omega,by simp;omega⟩;have iq:(c.ar.af∈C.take (j+1))↔(c.ar.af∈C.take j\/t=c.ar.af):=by rw[cj ht,aif];simp[eq_comm]
   refine gC ?_;refine dU ?_;by_cases hm:c.ar.af∈C.take j
   ·refine aN (decide_eq_true hm) ?_;have e1:decide (c.ar.af∈C.take (j+1))=true:=by simp[iq,hm]
    refine gD ?_;refine gC ?_;refine I.back (JH (j+1) oM oM) ?_;rw[e1];exact sZ
   ·refine aP (decide_eq_false hm) ?_;have e1:decide (c.ar.af∈C.take (j+1))=(t==c.ar.af):=by rw[akN];simp[iq,hm]
    refine gD ?_;refine bj hb (gD ?_);refine aR (e := .str t) (bC ht) rfl (gD ?_);refine eM hc (gD ?_);refine gC ?_;refine I.back (JH (j+1) oM oM) ?_;rw[e1];exact sZ
  ·have aA:C.length<=j:=zD h6
   rw[ajq aA];refine gC ?_;by_cases hm:c.ar.af∈C
   ·refine aP (by simp[hm]) (gC ?_);refine I.back (IH (k+1) oM oM) ?_;rw[eb,if_pos (eF.1 hm)];exact sZ
   ·refine aN (by simp[hm]) (gC ?_);refine eM hc (gC ?_);refine nA (gC ?_);refine I.back (IH (k+1) oM oM) ?_;rw[eb,if_neg (fun e=>hm (eF.2 e))];refine sY ?_
    refine⟨by simp, ?_⟩;exact sZ
 ·have aA:l.length<=k:=zD h5
  rw[ajq (zD aA)];refine gC ?_
  with_reducible rfl
def oY(n:Nat)(p:aH):Bool:=decide (0<=p.host)&&decide (p.host<n)&&dN p.ar
def EW(l:List aH):Nat:=(er [] (l.map (·.ar.af))).length
def oZ(n:Nat)(l:List aH):Bool:=decide (l.length<=4000)&&l.all (oY n)&&decide ((l.map aH.spot).Nodup)&&decide (EW l<=500)
def tR(w:pT):Bool:=gb w.ay&&oZ w.ay.length w.dS&&kx w.anchor w.hints
theorem EX{n:Nat}{l:List aH}:oZ n l=true↔l.length<=4000/\(∀ p∈l,oY n p=true)/\(l.map aH.spot).Nodup/\EW l<=500:=by
 simp only[oZ,ai2,decide_eq_true_eq,ahH,and_assoc]
theorem JK{w:pT}:tR w=true↔gb w.ay=true/\oZ w.ay.length w.dS=true/\kx w.anchor w.hints=true:=by
 simp only[tR,ai2,and_assoc]
def nn(x:Host):Bool := !(decide ((x.name.length:Int)>100))
def zJ(a b c d:Nat):Bool:=decide (a<=20)&&decide (b<=70)&&decide (c<=20)&&decide (d<=20)
def aT.spot(c:aT):cU:=(c.host,c.ar.af)
def aT.span(c:aT):Span:=⟨c.bQ,c.upto⟩
def jy(ay:Nat)(fin:Int)(c:aT):Bool:=decide (0<=c.host)&&decide (c.host<ay)&&decide (0<=c.bQ)&&decide (c.bQ<c.upto)&&decide (c.upto<=fin)&&dN c.ar
def n4(d c:aT):Prop:=d.spot=c.spot->¬ (d.bQ<c.upto/\c.bQ<d.upto)
instance (d c : aT) : Decidable (n4 d c) := by unfold n4; infer_instance
def o0(l:List aT):Nat:=(er [] (l.map (·.ar.af))).length
def ec(h:bB):Bool:=decide (1<=h.fin)&&decide (h.fin<=10000000)&&decide (0<=h.bq)&&decide (h.bq<=1000)&&decide (h.aw.length<=4000)&&(gb h.ay&&kx h.anchor h.hints) &&
 h.aw.all (jy h.ay.length h.fin)&&decide (h.aw.Pairwise n4)&&decide (o0 h.aw<=500)
structure bB.Fits(h:bB):Prop where
 ay:∀ x∈h.ay,x.name.length<=maxLen
 anchor:h.anchor.Fits
 hints:h.hints.length<=maxLen
 dS:∀ c∈h.aw,c.ar.Fits
structure RD where
 p:cU
 l:List Span
 blk:Nat
 cap:Nat
def RD.slice(d:RD):Value := .slice (some ⟨d.blk,0,none⟩) d.l.length d.cap
def RD.bM(d:RD):DV × DV:=(cU.en d.p,.raw d.slice)
def RD.ghost(d:RD):br := .row ⟨d.blk,d.cap,(137,2),d.l.map Span.enc⟩
structure n'(l:List aT)(ds:List RD):Prop where
 nodup:(ds.map (·.p)).Nodup
 each:∀ d∈ds,d.l=(l.filter (fun c=>decide (c.spot=d.p))).map aT.span/\d.l≠[]
 all:∀ c∈l,∃ d∈ds,d.p=c.spot
theorem n'.nil:n' [] []:=⟨by simp,fun d hd=>by simp at hd,fun c hc=>by simp at hc⟩
def Clear(l:List Span):Prop:=l.Pairwise fun a b=>¬ (a.bQ<b.upto/\b.bQ<a.upto)
theorem Qh{l m:List Span}(h:l.Perm m):Clear l↔Clear m:=h.pairwise_iff fun{x y} h1 h2=>h1 ⟨h2.2,h2.1⟩
theorem ZG{l:List aT}{ds:List RD}(h:n' l ds):l.Pairwise n4↔∀ d∈ds,Clear d.l:=by
 have each:∀ d∈ds,(Clear d.l↔l.Pairwise (fun a b=>a.spot=d.p->b.spot=d.p->¬ (a.bQ<b.upto/\b.bQ<a.upto))):=fun d hd=>by
  rw[(h.each d hd).1,Clear,List.pairwise_map,List.pairwise_filter];simp only[decide_eq_true_eq];rfl
 constructor
 ·intro hp d hd;rw[each d hd];exact hp.imp fun{a b} oF h1 h2=>oF (h1.trans h2.symm)
 ·intro hc;rw[ak9];intro i j hi hj eC hs;obtain⟨d,hd,e⟩:=h.all l[i] (List.getElem_mem hi);have:=(each d hd).1 (hc d hd);rw[ak9]at this;exact this i j hi hj eC e.symm (hs.symm.trans e.symm)
theorem ZH{l:List Span}(hw:∀ a∈l,a.bQ<a.upto)(h:∀ (m:Nat) (a b:Span),l[m]?=some a->l[m+1]?=some b->a.upto<=b.bQ):Clear l:=by
 have main:∀ (n i:Nat) (a b:Span),l[i]?=some a->l[i+1+n]?=some b->a.upto<=b.bQ:=by
  intro n
  induction n with
  |zero=>intro i a b ha hb;exact h i a b ha hb
  |succ n ih =>
   intro i a b ha hb;obtain⟨c,hc⟩:∃ c,l[i+1+n]?=some c:=aI (by have:=aW hb;omega);have h1:=ih i a c ha hc;have h2:=h (i+1+n) c b hc hb;have h3:=hw c (aiQ hc);omega
 unfold Clear;rw[ak9];intro i j hi hj eC h2;have:=main (j-i-1) i l[i] l[j] sP (by rw[show i+1+(j-i-1)=j by omega];simp);omega
theorem ZI{l:List Span}(hw:∀ a∈l,a.bQ<a.upto)(hs:l.Pairwise (fun a b=>a.bQ<=b.bQ)){i:Nat}{a b:Span}(h0:0<i)(ha:l[i-1]?=some a)(hb:l[i]?=some b)(h:b.bQ<a.upto):¬ Clear l:=fun hc=>by
 obtain⟨p1,e1⟩:=akz.1 ha;obtain⟨p2,e2⟩:=akz.1 hb;have h1:=ak9.1 hc (i-1) i p1 p2 oM;have h2:=ak9.1 hs (i-1) i p1 p2 oM;have h3:=hw b (aiQ hb);rw[e1,e2]at h1 h2;exact h1 ⟨by omega,h⟩
theorem ZJ{l:List aT}{p:cU}{ds:List RD}(h:n' l ds)(hn:∀ d∈ds,d.p≠p):l.filter (fun c=>decide (c.spot=p))=[]:=by
 rw[List.filter_eq_nil_iff];intro c hc hp;obtain⟨d,hd,e⟩:=h.all c hc;exact hn d hd (e.trans (zD hp))
theorem n'.found{l:List aT}{p1 p2:List RD}{d:RD}{c:aT}(h:n' l (p1++d::p2))(hp:d.p=c.spot)(blk cap:Nat):n' (l++[c]) (p1++⟨c.spot,d.l++[c.span],blk,cap⟩::p2):=by
 have cW:=h.nodup;simp only[aih,ahx]at cW;have aL:∀ e,e∈p1\/e∈p2->e.p≠c.spot:=fun e he q=>by
  rw[aii]at cW;obtain⟨h1,h2,h3⟩:=cW;rw[ajK]at h2;rcases he with he|he
  ·exact h3 e.p (List.mem_map_of_mem he) d.p (aio ..) (q.trans hp.symm)
  ·exact h2.1 (ahY.2 ⟨e,he,q.trans hp.symm⟩)
 have hold:∀ e,e∈p1\/e∈p2->e.l=((l++[c]).filter (fun c=>decide (c.spot=e.p))).map aT.span/\e.l≠[]:=fun e he=>by
  have h1:=h.each e (by rcases he with he|he<;>simp[he]);have h2:¬ c.spot=e.p:=fun q=>aL e he q.symm;refine⟨?_,h1.2⟩;rw[alZ,amI (zD h2),amE,aj0];exact h1.1
 refine⟨?_,fun e he=>?_,fun x hx=>?_⟩
 ·simp only[aih,ahx];rw[<- hp];exact cW
 ·rcases aif.1 he with he|he
  ·exact hold e (.inl he)
  ·rcases ai3.1 he with rfl|he
   ·have h1:=h.each d sP;refine⟨?_,by simp⟩;show d.l++[c.span]=_;rw[alZ,amJ sP,amE,aih,h1.1,hp];rfl
   ·exact hold e (.inr he)
 ·rcases aif.1 hx with hx|hx
  ·obtain⟨e,he,q⟩:=h.all x hx;rcases aif.1 he with he|he
   ·exact⟨e,by simp[he],q⟩
   ·rcases ai3.1 he with rfl|he
    ·exact⟨⟨c.spot,e.l++[c.span],blk,cap⟩,by simp,hp.symm.trans q⟩
    ·exact⟨e,by simp[he],q⟩
  ·simp at hx;subst hx;exact⟨⟨x.spot,d.l++[x.span],blk,cap⟩,by simp,rfl⟩
theorem n'.new{l:List aT}{ds:List RD}{c:aT}(h:n' l ds)(hn:∀ d∈ds,d.p≠c.spot)(blk cap:Nat):n' (l++[c]) (ds++[⟨c.spot,[c.span],blk,cap⟩]):=by
 refine⟨?_,fun e he=>?_,fun x hx=>?_⟩
 ·rw[aih,aii];refine⟨h.nodup,by simp,fun a ha b hb q=>?_⟩;simp at hb;subst hb;subst q;obtain⟨d,hd,q⟩:=ahY.1 ha;exact hn d hd q
 ·rcases aif.1 he with he|he
  ·have h1:=h.each e he;have h2:¬ c.spot=e.p:=fun q=>hn e he q.symm;refine⟨?_,h1.2⟩;rw[alZ,amI (zD h2),amE,aj0];exact h1.1
  ·simp at he;subst he;refine⟨?_,by simp⟩;show[c.span]=_;rw[alZ,amJ sP,amE,ZJ h hn];rfl
 ·rcases aif.1 hx with hx|hx
  ·obtain⟨e,he,q⟩:=h.all x hx;exact⟨e,by simp[he],q⟩
  ·simp at hx;subst hx;exact⟨⟨x.spot,[x.span],blk,cap⟩,by simp,rfl⟩
theorem n'.len{l:List aT}{ds:List RD}(h:n' l ds){d:RD}(hd:d∈ds):d.l.length<=l.length:=by
 rw[(h.each d hd).1,aiO];exact List.length_filter_le _ _
theorem ZK{ds:List RD}:∀ {i:Nat} {d:RD},ds[i]?=some d->(ds.map (·.p)).Nodup->findD (cU.en d.p) (ds.map RD.bM)=some (.raw d.slice)/\fU (cU.en d.p) (ds.map RD.bM)=some i/\b8 (cU.en d.p) (.raw d.slice) (ds.map RD.bM)=ds.map RD.bM:=by
 induction ds with
 |nil=>intro i d h;simp at h
 |cons e ds ih =>
  intro i d h hn;simp only[ahx,ajK]at hn;cases i with
  |zero =>
   simp at h;subst h;simp[findD,fU,b8,RD.bM,r8]
  |succ i =>
   have h':ds[i]?=some d:=zD h
   have aL:¬ d.p=e.p:=fun q=>hn.1 (ahY.2 ⟨d,aiQ h',q⟩);obtain⟨h1,h2,h3⟩:=ih h' hn.2;simp only[ahx,findD,fU,b8,RD.bM,r8,aL,decide_false,ah0,if_false];exact⟨h1,by rw[h2];rfl,by rw[h3]⟩
theorem Qi{p:cU}{v:DV}:∀ {ds:List RD},(∀ d∈ds,d.p≠p)->findD (cU.en p) (ds.map RD.bM)=none/\fU (cU.en p) (ds.map RD.bM)=none/\b8 (cU.en p) v (ds.map RD.bM)=ds.map RD.bM++[(cU.en p,v)]
 |[],_=>by simp[findD,fU,b8]
 |e::ds,h=>by
  have aL:¬ p=e.p:=fun q=>h e (aio ..) q.symm;obtain⟨h1,h2,h3⟩:=Qi (p:=p) (v:=v) (ds:=ds) (fun d hd=>h d (aip _ hd));simp only[ahx,findD,fU,b8,RD.bM,r8,aL,decide_false,ah0,if_false];exact⟨h1,by rw[h2];rfl,by rw[h3];rfl⟩
theorem Qj{ds:List RD}:∀ p∈ds.map RD.bM,eo E.T (TK.struct [(0,3),(1,9)]) p.1:=fun p hp=>by
 obtain⟨d,-,rfl⟩:=ahY.1 hp;exact EU d.p
theorem Qk(h:bB)(hf:h.Fits)(dB:h.aw.length<=1000000):aq E 26 [h.enc] (· = .bool (ec h)):=by
 obtain⟨ay,aw,anchor,hints,bq,fin⟩:=h;obtain⟨gU,jx,xA,Cb⟩:=hf;simp only at gU jx xA Cb dB;show aq E _ [HD ay aw anchor hints bq fin] _;refine eP F26.h ?_;repeat' (first|with_reducible(first|refine cC (P4 ay anchor hints gU jx xA) ?_|refine cX ?_|apply ah<;>intro)|refine gE ?_|with_reducible rfl)
 all_goals try (congr 1;simp_all[ec];done)
 all_goals try (congr 1;simp_all[ec];omega;done)
 ·rename_i h6;have hw:(gb ay&&kx anchor hints)=false:=by
   cases hq:(gb ay&&kx anchor hints)
   ·rfl
   ·rw[hq]at h6;cases h6
  simp only[ec,hw];simp
 rename_i h1 h2 h3 h4 h5 h6;have hw:(gb ay&&kx anchor hints)=true:=by
  cases hq:(gb ay&&kx anchor hints)
  ·rw[hq]at h6;cases h6
  ·rfl
 have gJ:1<=fin/\fin<=10000000/\0<=bq/\bq<=1000/\aw.length<=4000:=by simp at h1 h2 h3 h4 h5;omega
 have bJ:ec ⟨ay,aw,anchor,hints,bq,fin⟩=(aw.all (jy ay.length fin)&&decide (aw.Pairwise n4)&&decide (o0 aw<=500)):=by
  simp only[ec,hw];simp[gJ.1,gJ.2.1,gJ.2.2.1,gJ.2.2.2.1,gJ.2.2.2.2,alX]
 rw[bJ];clear bJ h1 h2 h3 h4 h5 h6 hw;refine gC ?_;refine gC ?_;refine I.BM (κ:=Nat × List RD) [2,5,6,47,48,49,50,51,52,53,54,55,56,57,58,59,60,61,62,63,64,65,66,67,68,69,70,71,72,73,74,75,76,77,78,79,80,81,82,83,84,85,86,87,88,89,90,91,92,93,94,95,96,97,98,99,100,101,102,103] (fun x=>[(47,.d (.int .i64 x.1)),(2,.d (.bool false)),(3,.map 1)]) (fun x=>[(1,.map (x.2.map RD.bM))]) (fun x=>x.2.map RD.ghost) (fun x=>x.1<=aw.length/\(aw.take x.1).all (jy ay.length fin)=true/\n' (aw.take x.1) x.2) (fun x=>aw.length-x.1) (0,[]) ⟨ai4 _,rfl,n'.nil⟩ rfl ?_ ?_
 ·refine sY ?_
  refine⟨rfl, ?_⟩;exact sZ
 rintro⟨k,ds⟩ ⟨hk,aM,eO⟩ IH;simp only at hk aM eO;refine zA ?_ ?_<;>intro h5
 ·have ai:k<aw.length:=zD h5
  obtain⟨c,hc⟩:=aI ai;have oO:=Cb c (aiQ hc);refine gC ?_;refine eM hc (gC ?_);repeat' (first|with_reducible(first|refine cC (xt c.ar oO) ?_|refine cX ?_|apply ah<;>intro)|refine gE ?_|with_reducible rfl)
  all_goals try (have bI:jy ay.length fin c=false:=by(simp_all[jy]<;>omega))
  all_goals try (rw[dK hc bI];simp;done)
  rename_i h1 h2 h3 h4 h5 h6;have aV:jy ay.length fin c=true:=by simp_all[jy]
  have EK:cU.en c.spot=.agg [.int .i64 c.host,.str c.ar.af]:=rfl;refine gC ?_;by_cases hex:∃ d∈ds,d.p=c.spot
  ·obtain⟨d,hd,jU⟩:=hex;obtain⟨p1,p2,rfl⟩:=amK hd;have hi:(p1++d::p2)[p1.length]?=some d:=by simp
   obtain⟨e1,e2,e3⟩:=ZK hi eO.nodup;rw[jU]at e1 e2 e3;rw[EK]at e1 e2 e3;have nV:=eO.len hd;have eH:∀ d':RD,(p1++d::p2).set p1.length d'=p1++d'::p2:=fun d'=>by simp
   refine I.mapEntry ag (.raw (.slice none 0 0)) (.slice none 0 0) (.raw d.slice) p1.length ((p1++d::p2).map RD.bM) rfl rfl (fun _ _ => .raw _ rfl) ?_;(conv=>whnf);refine And.intro ⟨EU c.spot,Qj⟩ (And.intro (fun w=>by kernel_rfl) (And.intro ⟨by rw[e1];rfl,by rw[e2];rfl,e3⟩ ?_));(conv=>whnf);refine I.run ag F26.h 1 ?_;(conv=>whnf);refine I.borrow 93 (bG:=⟨d.blk,d.cap,(137,2),d.l.map Span.enc⟩) (n:=d.l.length) (g1:=p1.map RD.ghost) (g2:=p2.map RD.ghost) (by show(p1++d::p2).map RD.ghost=_;simp[RD.ghost]) rfl sP ?_;refine gC ?_;refine bj ⟨by simp at nV ⊢;omega,by simp[DV.cells]⟩ ?_;refine gC ?_;refine I.dj 101 4 rfl (ai4 _) rfl (fun lK=>by simp at lK) (fun blk cap=>?_);refine I.entryStore ag p1.length (k0:=cU.en c.spot) (x0 := .raw d.slice) rfl rfl ?_;(conv=>whnf);refine And.intro (by simp[RD.bM,jU]) ?_;(conv=>whnf);refine⟨rfl, ?_⟩;(conv=>whnf);refine gC ?_;refine I.qD (rows:=(p1++⟨c.spot,d.l++[c.span],blk,cap⟩::p2).map RD.ghost) ?_ ?_
   ·have e:(p1++(⟨c.spot,d.l++[c.span],blk,cap⟩:RD)::p2).map RD.ghost=p1.map RD.ghost ++ .row ⟨blk,cap,(137,2),d.l.map Span.enc++[DV.agg [.int .i64 c.bQ,.int .i64 c.upto]]⟩::p2.map RD.ghost:=by simp[RD.ghost,aT.span]
    rw[e];exact List.perm_middle.symm
   refine I.back (IH (k+1,p1++⟨c.spot,d.l++[c.span],blk,cap⟩::p2) ⟨by simp only;omega,ea aM hc aV,by simp only;rw[cj hc];exact eO.found jU blk cap⟩ (by simp only;omega)) ?_;refine sY ?_
   exact And.intro (by simp[RD.bM,RD.slice,aT.span]) sZ
  ·have bI:∀ d∈ds,d.p≠c.spot:=fun d hd e=>hex ⟨d,hd,e⟩;obtain⟨e1,e2,e3⟩:=Qi (v := .raw (.slice none 0 0)) bI;rw[EK]at e1 e2 e3;refine I.mapEntry ag (.raw (.slice none 0 0)) (.slice none 0 0) (.raw (.slice none 0 0)) ds.length (ds.map RD.bM++[(cU.en c.spot,.raw (.slice none 0 0))]) rfl rfl (fun _ _ => .raw _ rfl) ?_;(conv=>whnf);refine And.intro ⟨EU c.spot,Qj⟩ (And.intro (fun w=>by kernel_rfl) (And.intro ⟨by rw[e1];rfl,by rw[e2];simp,e3⟩ ?_));(conv=>whnf);refine I.run ag F26.h 1 ?_;(conv=>whnf);refine I.WN 93 (137,2) dC rfl (gC ?_);refine bj ⟨by simp,by simp[DV.cells]⟩ (gC ?_);refine I.dj 101 4 rfl (ai4 _) rfl (fun lK=>by simp at lK) (fun blk cap=>?_);refine I.entryStore ag ds.length (k0:=cU.en c.spot) (x0 := .raw (.slice none 0 0)) rfl rfl ?_;(conv=>whnf);refine⟨by simp, ?_⟩;(conv=>whnf);refine⟨rfl, ?_⟩;(conv=>whnf);refine gC ?_;refine I.qD (rows:=(ds++[(⟨c.spot,[c.span],blk,cap⟩:RD)]).map RD.ghost) ?_ ?_
   ·have e:(ds++[(⟨c.spot,[c.span],blk,cap⟩:RD)]).map RD.ghost=ds.map RD.ghost++[.row ⟨blk,cap,(137,2),[]++[DV.agg [.int .i64 c.bQ,.int .i64 c.upto]]⟩]:=by simp[RD.ghost,aT.span]
    rw[e];exact(List.perm_append_singleton _ _).symm
   refine I.back (IH (k+1,ds++[⟨c.spot,[c.span],blk,cap⟩]) ⟨by simp only;omega,ea aM hc aV,by simp only;rw[cj hc];exact eO.new bI blk cap⟩ (by simp only;omega)) ?_;refine sY ?_
   exact And.intro (by simp[RD.bM,RD.slice,aT.span]) sZ
 ·have aA:aw.length<=k:=zD h5
  rw[ajq aA]at aM eO;have hw:∀ d∈ds,∀ a∈d.l,a.bQ<a.upto:=fun d hd a ha=>by
   rw[(eO.each d hd).1]at ha;obtain⟨x,hx,rfl⟩:=ahY.1 ha;have:=ahH.1 aM x (List.mem_filter.1 hx).1;simp only[jy,ai2,decide_eq_true_eq]at this;exact this.1.1.2
  have tS:=ZG eO;rw[aM,aja];refine gC ?_;refine I.range ag rfl rfl rfl rfl (bg rfl) rfl (ai4 _) (fun it uV nx vc=>?_);obtain⟨bm,r,en,ck,since,seen,es⟩:=it;simp only at uV nx vc;subst uV;subst nx;refine gC ?_;refine I.BM (κ:=List Nat × List RD) ([3,43,104]++[2,8,9,106,107,108,109,110,111,112,113,114,115,116,117,118,119,120,121,122,123,124,125,126,127,128,129]) (fun _=>[(2,.d (.bool false))]) (fun _=>[]) (fun x => .iter ⟨bm,r,en,ck,since,x.1,ds.map RD.bM⟩::x.2.map RD.ghost) (fun x=>(∀ j d,ds[j]?=some d->j ∉ x.1->d∈x.2)/\(∀ d∈x.2,d∈ds)/\∀ j d,ds[j]?=some d->j∈x.1->Clear d.l) (fun x=>x.2.length) ([],ds) ⟨fun j d hd _=>aiQ hd,fun _ h=>h,fun j d _ h=>by simp at h⟩ rfl ?_ ?_
  ·exact sZ
  rintro⟨seen,pd⟩ ⟨tK,oN,JN⟩ qG;simp only at tK oN JN;refine zT ?_;refine I.next (it:=⟨bm,r,en,ck,since,seen,ds.map RD.bM⟩) (g1:=[]) (g2:=pd.map RD.ghost) rfl rfl vc rfl (bg rfl) (fun xB=>?_) (fun j kk y hj iY=>?_)
  ·refine gC ?_;refine vF ?_;have dR:aw.Pairwise n4:=tS.2 fun d hd=>by
    obtain⟨j,hj⟩:=aiN hd;have hl:=aW hj;exact JN j d hj (xB j (zD hl))
   refine lB (Zg aw dB) ?_;rintro u b ⟨ev,rfl,rfl⟩;refine gC ?_;simp only[dR,decide_true,aja,o0,aiO]
   congr 2
   simp;omega
  ·obtain⟨d,EZ,e⟩:∃ d,ds[j]?=some d/\RD.bM d=(kk,y):=zD hj
   cases e;have hd:=aiQ EZ;obtain⟨p1,p2,rfl⟩:=amK (tK j d EZ iY);refine gC ?_;refine vT ?_;refine I.entry (it:=⟨bm,r,en,ck,since,seen++[j],ds.map RD.bM⟩) (g1:=[]) (g2:=(p1++d::p2).map RD.ghost) (pre:=seen) (j:=j) rfl rfl rfl rfl hj (bg rfl) ?_;(conv=>whnf);refine I.run ag F26.h 2 ?_;(conv=>whnf);refine I.borrow 8 (bG:=⟨d.blk,d.cap,(137,2),d.l.map Span.enc⟩) (n:=d.l.length) (g1 := .iter ⟨bm,r,en,ck,since,seen++[j],ds.map RD.bM⟩::p1.map RD.ghost) (g2:=p2.map RD.ghost) (by show(_::(p1++d::p2).map RD.ghost)=_;simp[RD.ghost]) rfl sP ?_;refine gC ?_;have ZL:d.l≠[]:=(eO.each d hd).2;have nV:d.l.length<=aw.length:=eO.len hd;refine lB (ZF d.l ZL oM) ?_;rintro u b ⟨rfl,l',pV,JO,rfl⟩;have wg:∀ a∈l',a.bQ<a.upto:=fun a ha=>hw d hd a (pV.mem_iff.1 ha);have mS:l'.length<=aw.length:=by rw[pV.length_eq];exact nV
   refine gC ?_;refine I.loop (κ:=Nat) ([2,9]++rg 112 18) (fun i=>[(9,.d (.int .i64 i)),(2,.d (.bool false))]) (fun _=>[]) (fun i=>1<=i/\i<=max 1 l'.length/\∀ (m:Nat) (a b:Span),m+1<i->l'[m]?=some a->l'[m+1]?=some b->a.upto<=b.bQ) (fun i=>l'.length-i) 1 ⟨ahL _,by omega,fun m a b h=>by omega⟩ ?_ ?_
   ·exact sZ
   rintro i ⟨yC,vh,Ql⟩ Cc;refine zA ?_ ?_<;>intro h6
   ·have ai:i<l'.length:=zD h6
    obtain⟨x,hx⟩:=aI ai;obtain⟨q,hq⟩:∃ q,l'[i-1]?=some q:=aI oM;refine gC ?_;refine dU ?_;refine bj ⟨by omega,by simp;omega⟩ ?_;refine gD ?_;refine eM hx (gD ?_);have qJ:IntKind.i64.wrap ((i:Int)-1)=((i-1:Nat):Int):=by rw[wrap64 oM oM];omega
    refine bj ⟨by rw[qJ];omega,by rw[qJ];simp;omega⟩ ?_;refine gD ?_;refine aR (e:=q.enc) (by rw[qJ,ai0];exact bC hq) rfl ?_;refine gD ?_;refine gC ?_;apply ah<;>intro h7
    ·refine gC ?_;have ZM:¬ aw.Pairwise n4:=fun hp=>ZI wg JO oM hq hx (zD h7) ((Qh pV).2 (tS.1 hp d hd));simp[ZM]
    ·refine gC ?_;refine I.back (Cc (i+1) ⟨by omega,by omega,fun m a b hm ha hb=>?_⟩ oM) ?_
     ·by_cases mf:m+1=i
      ·have e1:m=i-1:=by omega
       subst e1;rw[hq]at ha;rw[mf,hx]at hb;cases ha;cases hb
       simpa using h7
      ·exact Ql m a b oM ha hb
     ·exact sZ
   ·have zH:l'.length<=i:=zD h6
    have dR:Clear d.l:=(Qh pV).1 (ZH wg fun m a b ha hb=>Ql m a b (by have:=aW hb;omega) ha hb);refine gC ?_;refine I.qD (rows := .iter ⟨bm,r,en,ck,since,seen++[j],ds.map RD.bM⟩::(p1++p2).map RD.ghost) (List.Perm.of_eq sP) ?_;have pJ:=eO.nodup;refine I.back (qG (seen++[j],p1++p2) ⟨fun j' d' fo fh=>?_,fun d' fo=>oN d' (by simp at fo ⊢;rcases fo with h|h<;>simp[h]),fun j' d' fo fh=>?_⟩ sP) ?_
    ·simp only at fo fh ⊢;rw[aif,alI,not_or]at fh;have h1:=tK j' d' fo fh.1;have aL:d'≠d:=fun e=>by
      subst e;have q1:(ds.map (·.p))[j']?=some d'.p:=by simp[fo]
      have q2:(ds.map (·.p))[j]?=some d'.p:=by simp[EZ]
      exact fh.2 (JE pJ q1 q2)
     rcases aif.1 h1 with h1|h1
     ·exact List.mem_append_left _ h1
     ·rcases ai3.1 h1 with h1|h1
      ·exact absurd h1 aL
      ·exact List.mem_append_right _ h1
    ·simp only at fh;rw[aif,alI]at fh;rcases fh with fh|rfl
     ·exact JN j' d' fo fh
     ·rw[EZ]at fo;cases fo;exact dR
    ·exact sZ
theorem ZN(l:List aT)(hl:l.length<=1000000)(hn:∀ c∈l,c.ar.af.length<=1000):aq E 94 [.sl (l.map aT.enc)] (· = .sl ((nZ (l.map (·.ar.af))).map .str)):=by
 generalize hT:l.map (·.ar.af)=T;have ET:T.length=l.length:=by rw[<- hT];simp
 have ZO:∀ x∈T,x.length<=1000:=fun x hx=>by
  rw[<- hT]at hx;obtain⟨c,hc,rfl⟩:=ahY.1 hx;exact hn c hc
 have oQ:∀ k,(nZ (T.take k)).length<=l.length:=fun k=>by
  rw[Qc];have:=B8 (l:=T.take k) (acc:=[]);simp at this;omega
 refine eP F94.h ?_;refine I.nH 3 (9,1) dC rfl ?_;refine I.lP l.length (rg 3 68) (fun k=>[(4,.d (.int .i64 k)),(3,.own 0 1)]) (fun k=>[(0,.arr 1 (9,1) ((nZ (T.take k)).map .str))]) (fun k=>k<=l.length) (ai4 _) ?_ ?_
 ·refine sY ?_
  refine⟨rfl, ?_⟩;exact sZ
 intro i hi IH;obtain⟨hS,hM⟩:=Qb (T.take i);have hC:=oQ i;have aJ:∀ {a:Text},T[i]?=some a->nZ (T.take (i+1))=nY (nZ (T.take i)) a:=fun h=>Zr h;have Qm:∀ x∈nZ (T.take i),x.length<=1000:=fun x hx=>ZO x (List.mem_of_mem_take ((hM x).1 hx));generalize hA:nZ (T.take i)=A at hS hM hC aJ Qm;refine zA ?_ ?_<;>intro h5
 ·have ai:i<l.length:=zD h5
  obtain⟨c,hc⟩:=aI ai;have ZP:T[i]?=some c.ar.af:=by rw[<- hT];simp[hc]
  have dR:=hn c (aiQ hc);replace aJ:=aJ ZP;refine gC ?_;refine eM hc (gC ?_);refine I.lP A.length ([6]++rg 20 15) (fun k=>[(6,.d (.int .i64 k))]) (fun _=>[]) (fun k=>k<=A.length/\∀ m x,m<k->A[m]?=some x->bH x c.ar.af<0) ⟨ai4 _,fun m x h=>by omega⟩ ?_ ?_
  ·exact sZ
  rintro k ⟨hk,lQ⟩ qG;refine zA ?_ ?_<;>intro h6
  ·have ni:k<A.length:=zD h6
   obtain⟨y,hy⟩:=aI ni;refine gC ?_;refine bj ⟨by omega,by simp;omega⟩ ?_;refine gC ?_;refine aR (e := .str y) (bC hy) rfl (gC ?_)
   with_reducible refine ao (Ep y c.ar.af (Qm y (aiQ hy)) dR) ?_
   refine gC ?_;apply ah<;>intro h7
   ·refine gC ?_;refine I.back (qG (k+1) ⟨by omega,fun m x hm hx=>?_⟩ oM) ?_
    ·by_cases nk:m=k
     ·subst nk;rw[hy]at hx;cases hx;simpa using h7
     ·exact lQ m x oM hx
    ·exact sZ
   ·have tv:∀ x,A[k]?=some x->¬ bH x c.ar.af<0:=fun x hx=>by rw[hy]at hx;cases hx;simpa using h7
    refine gC ?_;refine aN (zD ni) (gC ?_);refine bj ⟨by omega,by simp;omega⟩ ?_;refine gC ?_;refine aR (e := .str y) (bC hy) rfl (gC ?_);apply ah<;>intro h8
    ·have zI:y=c.ar.af:=zD h8
     refine gC ?_;refine I.back (IH (i+1) oM oM) ?_;rw[aJ];have fX:nY A c.ar.af=A:=by rw[nY,if_pos (by rw[<- zI];exact aiQ hy)]
     rw[fX];exact sZ
    ·have zI:A[k]? ≠ some c.ar.af:=fun e=>by rw[hy]at e;cases e;simp at h8
     obtain⟨bI,JP⟩:=Qa hS hk lQ tv zI;rw[JP]at aJ;refine gC ?_;refine nA (gC ?_);refine I.loop (κ:=Nat × Text) [7,54,55,56,57,58,59,60,61,62,63,64,65,66] (fun x=>[(7,.d (.int .i64 x.1)),(3,.own 0 2)]) (fun x=>[(0,.arr 2 (9,1) ((A.take x.1++x.2::A.drop x.1).map .str))]) (fun x=>k<=x.1/\x.1<=A.length) (fun x=>x.1-k) (A.length,c.ar.af) ⟨hk,ahL _⟩ ?_ ?_
     ·refine sY ?_
      refine⟨by simp, ?_⟩;refine sY ?_
      refine And.intro (congrArg (DV.int .i64) ((wrap64 (by simp<;>omega) (by simp<;>omega)).trans (by simp only[ah5,aiO,aj4];omega))) ?_;exact sZ
     rintro⟨n,y⟩ ⟨E0,kY⟩ Cc;simp only at E0 kY;refine zA ?_ ?_<;>intro h8
     ·have Cd:k<n:=zD h8
      obtain⟨z,hz⟩:=aI (l:=A) (k:=n-1) oM;have qJ:IntKind.i64.wrap ((n:Int)-1)=((n-1:Nat):Int):=by rw[wrap64 oM oM];omega
      refine gC ?_;refine bj ⟨by rw[qJ];omega,by rw[qJ];simp;omega⟩ ?_;refine gC ?_;refine aR (e := .str z) ⟨by omega,by rw[qJ,ai0,ai0,ahy,ahT (by simp;omega),ahS,if_pos oM,hz];rfl⟩ rfl ?_;refine gC ?_;refine bj ⟨by omega,by simp;omega⟩ ?_;refine gC ?_;refine aR (e := .str y) ⟨by omega,by simp[aiH,ah1,aiJ kY]⟩ rfl (gC ?_);refine gC ?_;refine I.back (Cc (n-1,z) ⟨by simp only;omega,by simp only;omega⟩ (by simp only;omega)) ?_;refine sY ?_
      exact And.intro (Qd hz oM) sZ
     ·have Cd : n=k := by have : n <= k := zD h8
                          omega
      subst Cd;refine gC ?_;refine bj ⟨by omega,by simp;omega⟩ ?_;refine gC ?_;refine aR (e := .str y) ⟨by omega,by simp[aiH,ah1,aiJ kY]⟩ rfl (gC ?_);refine gC ?_;refine I.back (IH (i+1) oM oM) ?_;rw[aJ];refine sY ?_
      exact And.intro (JJ kY) sZ
  ·have zH:A.length<=k:=zD h6
   have Qn:A[k]?=none:=List.getElem?_eq_none zH;obtain⟨bI,JP⟩:=Qa hS hk lQ (fun x hx=>by rw[Qn]at hx;cases hx) (by rw[Qn];simp);rw[JP]at aJ;refine gC ?_;refine vF ?_;refine aP (zD zH) (gC ?_);refine vF ?_;refine nA (gC ?_);refine I.loop (κ:=Nat × Text) [7,54,55,56,57,58,59,60,61,62,63,64,65,66] (fun x=>[(7,.d (.int .i64 x.1)),(3,.own 0 2)]) (fun x=>[(0,.arr 2 (9,1) ((A.take x.1++x.2::A.drop x.1).map .str))]) (fun x=>k<=x.1/\x.1<=A.length) (fun x=>x.1-k) (A.length,c.ar.af) ⟨hk,ahL _⟩ ?_ ?_
   ·refine sY ?_
    refine⟨by simp, ?_⟩;refine sY ?_
    refine And.intro (congrArg (DV.int .i64) ((wrap64 (by simp<;>omega) (by simp<;>omega)).trans (by simp only[ah5,aiO,aj4];omega))) ?_;exact sZ
   rintro⟨n,y⟩ ⟨E0,kY⟩ Cc;simp only at E0 kY;refine zA ?_ ?_<;>intro h8
   ·have Cd:k<n:=zD h8
    obtain⟨z,hz⟩:=aI (l:=A) (k:=n-1) oM;have qJ:IntKind.i64.wrap ((n:Int)-1)=((n-1:Nat):Int):=by rw[wrap64 oM oM];omega
    refine gC ?_;refine bj ⟨by rw[qJ];omega,by rw[qJ];simp;omega⟩ ?_;refine gC ?_;refine aR (e := .str z) ⟨by omega,by rw[qJ,ai0,ai0,ahy,ahT (by simp;omega),ahS,if_pos oM,hz];rfl⟩ rfl ?_;refine gC ?_;refine bj ⟨by omega,by simp;omega⟩ ?_;refine gC ?_;refine aR (e := .str y) ⟨by omega,by simp[aiH,ah1,aiJ kY]⟩ rfl (gC ?_);refine gC ?_;refine I.back (Cc (n-1,z) ⟨by simp only;omega,by simp only;omega⟩ (by simp only;omega)) ?_;refine sY ?_
    exact And.intro (Qd hz oM) sZ
   ·have Cd : n=k := by have : n <= k := zD h8
                        omega
    subst Cd;refine gC ?_;refine bj ⟨by omega,by simp;omega⟩ ?_;refine gC ?_;refine aR (e := .str y) ⟨by omega,by simp[aiH,ah1,aiJ kY]⟩ rfl (gC ?_);refine gC ?_;refine I.back (IH (i+1) oM oM) ?_;rw[aJ];refine sY ?_
    exact And.intro (JJ kY) sZ
 ·have aA:l.length<=i:=zD h5
  rw[ajq oM]at hA;refine gC ?_;rw[hA]
theorem JQ{z:aK}(h:dN z=true):Nm.valid z.af=true:=by
 simp only[dN,oW,ai2]at h;simp_all
theorem ZQ{l:List aT}{i k:Nat}{c d:aT}(hc:l[i]?=some c)(hd:l[k]?=some d)(hk:k<i)(h:d.host=c.host/\d.ar.af=c.ar.af/\d.bQ<c.upto/\c.bQ<d.upto):¬ l.Pairwise n4:=fun hp=>by
 obtain⟨p1,e1⟩:=akz.1 hc;obtain⟨p2,e2⟩:=akz.1 hd;have:=ak9.1 hp k i p2 p1 hk;rw[e1,e2]at this;exact this (by simp[aT.spot,h.1,h.2.1]) h.2.2
theorem ZR{α:Type}{R:α->α->Prop}{l:List α}{i:Nat}{x:α}(h:(l.take i).Pairwise R)(hx:l[i]?=some x)(hn:∀ m y,m<i->l[m]?=some y->R y x):(l.take (i+1)).Pairwise R:=by
 rw[cj hx,amG];refine⟨h,by simp,fun a ha b hb=>?_⟩;simp at hb;subst hb;obtain⟨m,hm⟩:=aiN ha;rw[ahS]at hm;split at hm
 ·rename_i mf;exact hn m a mf hm
 ·cases hm
theorem Qo(h:bB)(hf:h.Fits)(dB:h.aw.length<=1000000)(fq:h.hints.length<=1000000):aq E 32 [h.enc] (· = .bool (ec h)):=by
 obtain⟨ay,aw,anchor,hints,bq,fin⟩:=h;obtain⟨gU,jx,xA,Cb⟩:=hf;simp only at gU jx xA Cb dB fq;show aq E _ [HD ay aw anchor hints bq fin] _;refine eP F32.h ?_;repeat' (first|with_reducible(first|refine cC (P9 ay gU) ?_|refine cC (P' anchor hints jx fq) ?_|refine cX ?_|apply ah<;>intro)|refine gE ?_|with_reducible rfl)
 all_goals try (congr 1;simp_all[ec];done)
 all_goals try (congr 1;simp_all[ec];omega;done)
 rename_i h1 h2 h3 h4 h5 h6 h7;have gJ:1<=fin/\fin<=10000000/\0<=bq/\bq<=1000/\aw.length<=4000:=by simp at h3 h4 h5 h6 h7;omega
 have hw:(gb ay&&kx anchor hints)=true:=by simp_all
 have bJ:ec ⟨ay,aw,anchor,hints,bq,fin⟩=(aw.all (jy ay.length fin)&&decide (aw.Pairwise n4)&&decide (o0 aw<=500)):=by
  simp only[ec,hw];simp[gJ.1,gJ.2.1,gJ.2.2.1,gJ.2.2.2.1,gJ.2.2.2.2,alX]
 rw[bJ];clear bJ h1 h2 h3 h4 h5 h6 h7 hw;refine gC ?_;refine I.lP aw.length (rg 2 5++rg 45 86) (fun k=>[(3,.d (.int .i64 k)),(2,.d (.bool false))]) (fun _=>[]) (fun k=>k<=aw.length/\(aw.take k).all (jy ay.length fin)=true/\(aw.take k).Pairwise n4) ⟨ai4 _,rfl,by simp⟩ ?_ ?_
 ·exact sZ
 rintro i ⟨hi,aM,JR⟩ IH;refine zA ?_ ?_<;>intro h5
 ·have ai:i<aw.length:=zD h5
  obtain⟨c,hc⟩:=aI ai;have oO:=Cb c (aiQ hc);refine gC ?_;refine eM hc (gC ?_);repeat' (first|with_reducible(first|refine cC (EA c.ar oO) ?_|refine cX ?_|apply ah<;>intro)|refine gE ?_|with_reducible rfl)
  all_goals try (have bI:jy ay.length fin c=false:=by(simp_all[jy]<;>omega))
  all_goals try (rw[dK hc bI];simp;done)
  rename_i h1 h2 h3 h4 h5 h6;have aV:jy ay.length fin c=true:=by simp_all[jy]
  refine gC ?_;refine I.lP i ([2,5,6]++rg 93 38) (fun k=>[(5,.d (.int .i64 k)),(2,.d (.bool false))]) (fun _=>[]) (fun k=>k<=i/\∀ m d,m<k->aw[m]?=some d->n4 d c) ⟨ai4 _,fun m y h=>by omega⟩ ?_ ?_
  ·exact sZ
  rintro k ⟨hk,aL⟩ qG;refine zA ?_ ?_<;>intro h6
  ·have ni:k<i:=zD h6
   obtain⟨d,hd⟩:=aI (l:=aw) (k:=k) oM;refine gC ?_;refine eM hd (gC ?_);repeat' (first|with_reducible(first|refine cX ?_|apply ah<;>intro)|refine gE ?_|with_reducible rfl)
   all_goals try
    (have qj := ZQ hc hd ni (by(simp_all<;>omega))
     simp[qj];done)
   all_goals
    have tS:n4 d c:=fun e=>by
     simp only[aT.spot,Prod.mk.injEq]at e;simp_all;try (intros;omega)
    refine gC ?_;refine I.back (qG (k+1) ⟨by omega,fun m z hm hz=>?_⟩ oM) ?_
    ·by_cases nk:m=k
     ·subst nk;rw[hd]at hz;cases hz;exact tS
     ·exact aL m z oM hz
    ·exact sZ
  ·have zH:i<=k:=zD h6
   refine gC ?_;exact I.back (IH (i+1) ⟨by omega,ea aM hc aV,ZR JR hc (fun m z hm hz=>aL m z oM hz)⟩ oM) sZ
 ·have aA:aw.length<=i:=zD h5
  rw[ajq aA]at aM JR;have ZS:∀ c∈aw,c.ar.af.length<=1000:=fun c hc=>by
   have h1:=ahH.1 aM c hc;simp only[jy,ai2]at h1;have:=dh (JQ h1.2);omega
  refine gC ?_
  with_reducible refine ao (ZN aw dB ZS) ?_
  refine gC ?_;simp only[aM,JR,decide_true,aja,o0,Qc,aiO]
  congr 2
  simp;omega
theorem ZT(c:aT):aq E 53 [c.enc] (· = .str c.ar.af):=by
 refine eP Tryz.func53 ?_
 with_reducible rfl
def qK(l:List aT):Bool:=decide (4000<l.length)||decide (500<o0 l)
theorem ZU(l:List aT)(hl:l.length<=1000000):au E 54 [] [.d (.sl (l.map aT.enc)),.d (.int .i64 4000),.d (.int .i64 500),.fn (.func 53) [] []] (fun a b=>∃ es,a=.d (.bool (qK l))/\b=[.map es]):=by
 generalize hT:l.map (·.ar.af)=T;have ET:T.length=l.length:=by rw[<- hT];simp
 have hlen:=JI zF T T.length (ahL _);rw[List.take_length]at hlen;have ZV:qK l=(decide (4000<l.length)||decide (500<(er [] T).length)):=by rw[qK,o0,hT]
 rw[ZV];refine aE ?_;refine gC ?_;refine gC ?_;refine I.lP l.length ([11]++rg 15 9) (fun k=>[(15,.d (.int .i64 k)),(9,.map 0)]) (fun k=>[(0,.map (eY DV.str (T.take k)))]) (fun k=>k<=l.length) (ai4 _) ?_ ?_
 ·refine sY ?_
  refine⟨rfl, ?_⟩;exact sZ
 intro k hk IH;refine zA ?_ ?_<;>intro h5
 ·have ai:k<l.length:=zD h5
  obtain⟨c,hc⟩:=aI ai;have B9:T[k]?=some c.ar.af:=by rw[<- hT];simp[hc]
  have gv:=(pU zF (T.take k)).1;refine gC ?_;refine eM hc (gC ?_)
  with_reducible refine ao (ZT c) ?_
  refine gC ?_;refine bj ⟨⟨_,rfl⟩,gv⟩ (gC ?_);refine I.back (IH (k+1) oM oM) ?_;rw[JB B9];exact sZ
 ·have aA:l.length<=k:=zD h5
  rw[ajq oM];refine gC ?_;apply ah<;>intro h6
  ·refine gC ?_;refine⟨_,?_,rfl⟩;have:4000<l.length:=by simp at h6;omega
   simp[this]
  ·refine gC ?_;refine gC ?_;refine⟨_,?_,rfl⟩;rw[hlen];have h7:decide (4000<l.length)=false:=by simp at h6 ⊢;omega
   rw[h7,Bool.false_or];refine congrArg (fun b=>AV.d (DV.bool b)) ?_;rw[akN];simp;try omega
end Go.Proofs.YtlhehdgciafakaaGreatDoor.P
end
section
namespace Go.az
open Go Go.RowKit
theorem au.kA{E:Env}{f:FuncId}{H H2:List ae}{args:List AV}{r0:AV}(hc:au E f H args (fun a b=>a=r0/\mn H.length [] 0 b=H2))(hk:(Ik H.length [] H2&&ju H.length [] r0)=true):au E f H args (fun a b=>a=r0/\b=H2):=by
 simp only[ai2]at hk;obtain⟨dR,hv⟩:=hk;unfold au at hc ⊢;refine⟨hc.1,hc.2.1,fun c vs h1 h2 h3=>(hc.2.2 c vs h1 h2 h3).mono fun e w' ⟨c',r,v,k1,k2,⟨k3,BH⟩,k4,k5,k6⟩=>?_⟩;subst k3;have a1:=k5.im (n:=H.length) (B:=[]) (by rw[BH];exact dR);have a2:=DY (n:=H.length) (B:=[]) hv k4;obtain⟨b1,b2⟩:=a1.NQ (aD:=c'.aD) (fun b hb => .inl hb);refine⟨⟨(c'.im H.length []).own,(c'.im H.length []).heap,c'.aD,c'.w⟩,r,v,k1,k2,⟨rfl,by show mn _ _ 0 c'.heap=H2;rw[BH]⟩,b2 _ _ a2,b1,?_⟩;have hid:∀ i,i<H.length->eA H.length [] i=false:=fun i hi=>by
  have:Nat.ble H.length i=false:=by
   cases q:Nat.ble H.length i
   ·rfl
   ·have:=ahA q;omega
  simp only[eA,this];rfl
 exact{
  aD:=k6.aD
  os:=k6.os
  tape:=k6.tape
  output:=k6.output
  size:=k6.size
  keep:=k6.keep
  eh:=fun i b n hi hb=>k6.eh i b n (wU hi).2 hb
  boxes:=fun i bx hi=>by
   have ai:i<H.length:=by rw[<- h1];exact aW hi
   have e1:(mn H.length [] 0 c'.heap)[i]?=c'.heap[i]? := zf 0 i c'.heap (by rw[Nat.zero_add];exact hid i ai)
   exact wX (c:=c') (fun x hx=>e1.trans hx) (fun x _=>BF (hid i ai)) (k6.boxes i bx hi) }
section
variable {E:Env} {s:List AV} {h:List ae} {c:Cx} {G:List (Nat × DV)}
theorem aaz(hE:E.OK){t e len:Nat}{i ei:bA}(hi:E.T[t]?=some i)(b9:E.T[e]?=some ei)(hk:i.k=.slice e){parts:Array (Nat × Operand)}{ps:List (Nat × AV)}(gu:Ar E.G s parts.toList ps)
  {z:DV} (hz:ei.zero=[z]) (bP:ei.size=1) (hlen:0<len) (wa:len<=16777216) {l:List AV} (hl:l.length=len)
  (h4:∀ (c:Cx) (vs us:List Value),VL c (ahC len (AV.d z)) vs->VL c (ps.map (·.2)) us->∃ vs':List Value,Instr.fill (fun i=>some (i*1,1)) vs.toArray ((ps.map (·.1)).zip us)=some vs'.toArray/\VL c l vs') :
  bE E (.buildSlice t len parts) s h (.own h.length 0) (h++[.cells l]):=fun o c ac e1 e2 e3 e4=>by
 subst e2;have db:0<ei.size:=by omega
 obtain⟨ti,zv,g1,g2,g3,g4⟩:=zeroOf (hE.types e ei b9) (by rw[hz,bP];rfl) db;obtain⟨zs,Av,kc⟩:=g4 c;obtain⟨p1,p2⟩:=gu c ac e3 e4;have ny:zs.length=1:=by rw[<- kc.1,hz];rfl
 have Ck:ti.size=1:=by omega
 have Aw:VL c (ahC len (AV.d z)) ((ah' (len*ti.size)).map (zv.cells[· % zv.cells.size]!)).toList:=by
  refine⟨by simp[Ck],fun j x v hx hv=>?_⟩;rw[List.getElem?_replicate]at hx;split at hx
  ·rename_i hj;cases hx;have fu:v=zs[0]' oM:=by
    simp[Ck,hj,Av,ny]at hv;rw[<- hv];simp[ny,Nat.mod_one]
   rw[fu];exact kc.2 0 _ _ (by rw[hz];rfl) (by simp[ny])
  ·cases hx
 obtain⟨vs',f1,f2⟩:=h4 c _ _ Aw p2;obtain⟨yu,d,q1,q2,q3,-⟩:=cK (hE.types t i hi);obtain rfl:=mM (hk.symm.trans q3);have eq:(parts.map fun(i,x)=>(i,ac.eval x)).toList=(ps.map (·.1)).zip (parts.toList.map fun p=>ac.eval p.2):=by
  rw[p1,Array.toList_map];generalize parts.toList=q
  induction q with
  |nil=>rfl
  |cons a q ih=>simp only[ahx,List.zip_cons_cons,ih]
 have we:Instr.fill (fun i=>some (i*ti.size,ti.size)) ((ah' (len*ti.size)).map (zv.cells[· % zv.cells.size]!)) (parts.map fun(i,x)=>(i,ac.eval x)).toList=some vs'.toArray:=by
  rw[eq,<- f1,Array.toArray_toList,Ck]
 have cL:=run_buildSlice (P:=E.P) c.w t e len (parts.map fun(i,x)=>(i,ac.eval x)) vs'.toArray ti zv q2 g1 g2 (by rw[Ck];omega) (by rw[Ck];omega) we;obtain⟨w1,w2,w3⟩:=e3.Gr f2 e;refine⟨_,.slice (some ⟨c.w.heap.size,0,none⟩) len len,.inl (by simp only[execOp,e1,Sem.run_bind,cL,Result.andThen_ok,Sem.run_pure];rfl),rfl,w1,?_,w2⟩;exact .ow _ _ l c.w.heap.size 0 len (by simp[Cx.add]) (by simp[Cx.add]) hl
theorem I.aaA(hE:E.OK){aj:FuncId}{R:cT}{lits:List Nat}{ops:Array Oper}{o:Oper}{l:List Oper}{r:List aY}{t e len:Nat}{i ei:bA}{parts:Array (Nat × Operand)}(hg:o.guard=none)(cH:o.op=.buildSlice t len parts)
  (hi:E.T[t]?=some i) (hk:i.k=.slice e) (b9:E.T[e]?=some ei) {z:DV} (hz:ei.zero=[z]) (bP:ei.size=1) (hlen:Nat.blt 0 len=true) (wa:Nat.ble len 16777216=true)
  (H:vY E.G s parts.toList False fun ps=>yi (fun i=>some (i*1,1)) ps (ahC len (AV.d z)) False fun cs=>match Nat.beq cs.length len with
   |true=>cz s o.dst (.own h.length 0) fun s'=>I E aj R lits (.bF ops l::r) s' (h++[.cells cs])
   |false=>False):I E aj R lits (.bF ops (o::l)::r) s h:=by
 rcases Au H with h'|⟨ps,gu,H⟩
 ·exact h'.elim
 rcases C8 H with h'|⟨cs,H,hf⟩
 ·exact h'.elim
 split at H
 ·rename_i q;have ho:=aaz (h:=h) hE hi b9 hk gu hz bP (jO hlen) (ahA wa) (Nat.eq_of_beq_eq_true q) hf;rw[<- cH]at ho;rw[eW]at H;exact .of (.op (iF hg) ho H.to)
 ·exact H.elim
theorem QP{b g:Nat}{cs:List AV}(hb:c.heap[b]?=some (.cells cs)){v:Value}(hv:VR c (.own b g) v):∃ blk cap,c.own b=some (blk,cap)/\v=.slice (some ⟨blk,0,none⟩) cs.length cs.length:=by
 cases hv with
 |own _ _ _ l' blk cap k1 k2=>rw[hb]at k1;cases k1
 |jJ _ _ _ k1 k2=>rw[hb]at k1;cases k1
 |l7 _ _ g' _ _ _ k1 k2 _=>rw[hb]at k1;cases k1
 |ln _ _ _ k1 _=>rw[hb]at k1;cases k1
 |ow _ _ _ blk cap n k1 k2 k3=>rw[hb]at k1;cases k1;subst k3;exact⟨blk,cap,k2,rfl⟩
theorem I.aaB(hE:E.OK){aj:FuncId}{R:cT}{lits:List Nat}{ops:Array Oper}{o:Oper}{l:List Oper}{r:List aY}{t e b g:Nat}{i:bA}{x:Operand}{args:Array Operand}{ts:Array TypeId}{cs:List AV}(hg:o.guard=none)
  (cH:o.op=.call { callee := .builtin .len,args:=args,argTypes:=ts }) (hx:args.toList[0]?=some x) (ht:ts.toList[0]?=some t) (hi:E.T[t]?=some i) (hk:i.k=.slice e) (hv:bk E.G s x (.own b g)) (hb:h[b]?=some (.cells cs))
  (H:cz s o.dst (.d (.int .i64 cs.length)) fun s'=>I E aj R lits (.bF ops l::r) s' h):I E aj R lits (.bF ops (o::l)::r) s h:=by
 have ho:bE E o.op s h (.d (.int .i64 cs.length)) h:=by
  rw[cH];refine .quiet fun o c ac h1 h2 h3 h4=>?_;subst h2;obtain⟨blk,cap,-,q⟩:=QP hb (hv c ac h3 h4);exact⟨_,yo h1 hx ht (hE.types t i hi) q (.inl ⟨e,_,_,hk,rfl⟩),.d _ _ (.int _ _)⟩
 rw[eW]at H;exact .of (.op (iF hg) ho H.to)
theorem I.se(hE:E.OK){aj:FuncId}{R:cT}{lits:List Nat}{ops:Array Oper}{o:Oper}{l:List Oper}{r:List aY}{t e b g n:Nat}{ti ei:bA}{x y:Operand}{cs:List AV}{j:IntKind}(hg:o.guard=none)
  (cH:o.op=.indexAddr t x y) (hi:E.T[t]?=some ti) (hk:ti.k=.slice e) (b9:E.T[e]?=some ei) (bP:ei.size=1) (hv:bk E.G s x (.own b g)) (hy:bk E.G s y (.d (.int j n))) (hb:h[b]?=some (.cells cs)) (hn:n<cs.length)
  (H:cz s o.dst (.ptr b n) fun s'=>I E aj R lits (.bF ops l::r) s' h):I E aj R lits (.bF ops (o::l)::r) s h:=by
 have ho:bE E o.op s h (.ptr b n) h:=by
  rw[cH];refine .quiet fun o c ac h1 h2 h3 h4=>?_;subst h2;obtain⟨blk,cap,q1,q2⟩:=QP hb (hv c ac h3 h4);refine⟨_,AK h1 (v := .pointer (some ⟨blk,0+(n:Int).toNat*ei.size,none⟩)) ?_,?_⟩
  ·rw[q2,eT (hy c ac h3 h4)];exact GW (hE.types t ti hi) (hE.types e ei b9) hk oM oM
  ·rw[bP]
   simpa using VR.ptr (c:=c) b n cs blk cap hb q1
 rw[eW]at H;exact .of (.op (iF hg) ho H.to)
end
end Go.az
end
