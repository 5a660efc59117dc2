/- Lemmas of mine. Conditions: as stated. -/
import Derived.Test.YtfmdaiojokniiaaGreatDoorU10
import Derived.Test.YtfmdaiojokniiaaGreatDoorU11
set_option linter.unusedVariables false
set_option linter.unusedSimpArgs false
section
namespace Go.Proofs.YtfmdaiojokniiaaGreatDoor.P
open Go Go.ay
set_option maxRecDepth 100000
set_option maxHeartbeats 4000000
theorem G4{α:Type}{l:List α}(hn:l.Nodup){i j:Nat}{a:α}(hi:l[i]?=some a)(hj:l[j]?=some a):i=j:=by
 obtain⟨p1,e1⟩:=List.getElem?_eq_some_iff.1 hi;obtain⟨p2,e2⟩:=List.getElem?_eq_some_iff.1 hj;have h:=List.pairwise_iff_getElem.1 (List.nodup_iff_pairwise_ne.1 hn);rcases Nat.lt_trichotomy i j with dQ|dQ|dQ
 ·exact absurd (e1.trans e2.symm) (h i j p1 p2 dQ)
 ·exact dQ
 ·exact absurd (e2.trans e1.symm) (h j i p2 p1 dQ)
theorem C2(p:dj):dn E.T (TK.struct [(0,3),(1,9)]) (dj.en p):=⟨_,rfl,rfl,⟨_,rfl,_,rfl⟩,rfl,⟨_,rfl,_,rfl⟩,trivial⟩
def bc.spot(p:bc):dj:=(p.host,p.aw.aj)
theorem VN{z:aX}(h:eB z=true):z.ae≠[]:=fun e=>by
 simp only[eB,ra,Bool.and_eq_true]at h;simp[e,bh]at h
theorem C3{l:List bc}{k:Nat}{x:bc}(h:l[k]?=some x):(l.take (k+1)).map bc.spot=(l.take k).map bc.spot++[x.spot]:=by
 rw[cK h,List.map_append];rfl
theorem G5{l:List bc}{i:Nat}{x:bc}(hx:l[i]?=some x)(h:x.spot∈(l.take i).map bc.spot):¬ (l.map bc.spot).Nodup:=fun hn=>by
 obtain⟨y,hy,e⟩:=List.mem_map.1 h;obtain⟨m,hm⟩:=List.getElem?_of_mem hy;rw[List.getElem?_take]at hm;split at hm
 ·rename_i kF;have h1:(l.map bc.spot)[i]?=some x.spot:=by simp[hx]
  have h2:(l.map bc.spot)[m]?=some x.spot:=by simp[hm,e]
  have:=G4 hn h1 h2;omega
 ·cases hm
theorem G6{l:List bc}{i:Nat}{x:bc}(hx:l[i]?=some x)(h:((l.take i).map bc.spot).Nodup)(hn:x.spot ∉ (l.take i).map bc.spot):((l.take (i+1)).map bc.spot).Nodup:=by
 rw[C3 hx,List.nodup_append];exact⟨h,by simp,fun a ha b hb e=>by simp at hb;subst hb;subst e;exact hn ha⟩
theorem xK{es:List (DV × DV)}(h:mA dj.en es):∀ p∈es,dn E.T (TK.struct [(0,3),(1,9)]) p.1:=fun p hp=>by
 obtain⟨a,e⟩:=h p hp;rw[e];exact C2 a
theorem MX{α:Type}[DecidableEq α]{en:α->DV}(hk:∀ a b,eE (en a) (en b)=decide (a=b)){b:α}{v:DV}:∀ {es:List (DV × DV)},mA en es->(bU (en b) v es).length=es.length+(if (findD (en b) es).isSome then 0 else 1)
 |[],_=>by simp[bU,findD]
 |q::es,h=>by
  obtain⟨s,hs⟩:=h q (List.mem_cons_self ..);obtain⟨q1,q2⟩:=q;simp only at hs;subst hs;unfold bU;simp only[hk];by_cases e:b=s
  ·subst e;simp[findD,hk]
  ·have ih:=MX hk (b:=b) (v:=v) (es:=es) (fun r hr=>h r (List.mem_cons_of_mem _ hr));simp only[e,decide_false,Bool.false_eq_true,if_false,findD,hk,List.length_cons,ih];omega
theorem G7{α:Type}[DecidableEq α]{en:α->DV}(hk:∀ a b,eE (en a) (en b)=decide (a=b))(l:List α):∀ k,k<=l.length->(ek en (l.take k)).length=(eC [] (l.take k)).length
 |0,_=>rfl
 |k+1,h=>by
  obtain⟨x,hx⟩:=aG (l:=l) (k:=k) (by omega);have ih:=G7 hk l k (by omega);rw[G0 hx,MQ hx,MX hk (oo hk _).1,(vq hk _ x).2,ih];by_cases hm:x∈l.take k
  ·simp[hm]
  ·simp[hm]
theorem VO{l:List Host}{i k:Nat}{x y:Host}(hx:l[i]?=some x)(hy:l[k]?=some y)(hk:k<i)(e:y.addr=x.addr):gy l=false:=by
 have:¬ (l.map (·.addr)).Nodup:=fun hn=>by
  have h1:(l.map (·.addr))[i]?=some x.addr:=by simp[hx]
  have h2:(l.map (·.addr))[k]?=some x.addr:=by simp[hy,e]
  have:=G4 hn h1 h2;omega
 simp[gy,this]
theorem VP{l:List Int}{i:Nat}{x:Int}(h:(l.take i).Nodup)(hx:l[i]?=some x)(hn:∀ m y,m<i->l[m]?=some y->y≠x):(l.take (i+1)).Nodup:=by
 rw[cK hx,List.nodup_append];refine⟨h,by simp,fun a ha b hb e=>?_⟩;simp at hb;subst hb;subst e;obtain⟨m,hm⟩:=List.getElem?_of_mem ha;rw[List.getElem?_take]at hm;split at hm
 ·rename_i kF;exact hn m _ kF hm rfl
 ·cases hm
theorem MY(l:List Host)(hn:∀ x∈l,x.name.length<=maxLen):aq E 73 [.sl (l.map Host.enc)] (· = .bool (gy l)):=by
 refine eP F73 ?_;refine ai (fun h1=>?_) (fun h1=>?_)
 ·refine gO F73 ?_;have:gy l=false:=by simp[gy];simp at h1;omega
  rw[this]
 ·have hlen:l.length<=64:=by simp at h1;omega
  refine gO F73 ?_;refine I.loop (κ:=Nat) (rg 2 5++rg 10 53) (fun k=>[(3,.d (.int .i64 k)),(2,.d (.bool false))]) (fun _=>[]) (fun k=>k<=l.length/\(l.take k).all nx=true/\((l.map (·.addr)).take k).Nodup) (fun k=>l.length-k) 0 ⟨Nat.zero_le _,rfl,by simp⟩ ?_ ?_
  ·exact sZ
  rintro i ⟨hi,aJ,cX⟩ IH;refine I.head ab F73 2000 ?_;(conv=>whnf);refine ai (fun h5=>?_) (fun h5=>?_)
  ·have ah:i<l.length:=by simpa using h5
   obtain⟨x,hx⟩:=aG ah;have gS:=hn x (List.mem_of_getElem? hx);refine gO F73 ?_;refine aB (e:=x.enc) (aN hx) rfl ?_;refine gO F73 ?_
   with_reducible refine ao (eG x.name gS) ?_
   refine gO F73 ?_;cases hv:Nm.valid x.name
   ·repeat' (first|with_reducible(first|refine cY ?_|refine cN ?_|refine ai (fun _=>?_) (fun _=>?_))|refine gA F73 ?_|refine gB ?_|with_reducible rfl)
    all_goals (rw[GX hx (by simp[nx,hv])])
   ·have iy:x.name.length<=1000:=by have:=dO hv;omega
    repeat' (first|with_reducible(first|refine ao (CB x.name iy) ?_|refine au (CB x.name iy) ?_|refine cY ?_|refine cN ?_|refine ai (fun _=>?_) (fun _=>?_))|refine gA F73 ?_|refine gB ?_|with_reducible rfl)
    all_goals try (rw[GX hx (by(simp_all[nx,vn,kf]<;>omega))];done)
    have hb:nx x=true:=by(simp_all[nx,vn,kf]<;>omega)
    refine gO F73 ?_;refine I.loop (κ:=Nat) ([2,6]++rg 50 13) (fun k=>[(6,.d (.int .i64 k)),(2,.d (.bool false))]) (fun _=>[]) (fun k=>k<=i/\∀ m y,m<k->l[m]?=some y->y.addr≠x.addr) (fun k=>i-k) 0 ⟨Nat.zero_le _,fun m y h=>by omega⟩ ?_ ?_
    ·exact sZ
    rintro k ⟨hk,aI⟩ oZ;refine I.head ab F73 2000 ?_;(conv=>whnf);refine ai (fun h6=>?_) (fun h6=>?_)
    ·have lO:k<i:=by simpa using h6
     obtain⟨y,hy⟩:=aG (l:=l) (k:=k) (by omega);refine gO F73 ?_;refine I.bJ ab bG 2000 (by kernel_rfl) ?_;(conv=>whnf);refine aB (e:=y.enc) (aN hy) rfl ?_;refine gD ?_;refine gO F73 ?_;refine ai (fun h7=>?_) (fun h7=>?_)
     ·refine gO F73 ?_;rw[VO hx hy lO (by simpa using h7)]
     ·refine gO F73 ?_;refine I.back (oZ (k+1) ⟨by omega,fun m z hm hz=>?_⟩ (by omega)) ?_
      ·by_cases lQ:m=k
       ·subst lQ;rw[hy]at hz;cases hz;simpa using h7
       ·exact aI m z (by omega) hz
      ·exact sZ
    ·have xL:i<=k:=by simpa using h6
     refine gO F73 ?_;refine I.back (IH (i+1) ⟨by omega,dw aJ hx hb,VP (x:=x.addr) cX (by simp[hx]) (fun m z hm hz=>?_)⟩ (by omega)) ?_
     ·simp only[List.getElem?_map,Option.map_eq_some_iff]at hz;obtain⟨y,hy,rfl⟩:=hz;exact aI m y (by omega) hy
     ·exact sZ
  ·have aA:l.length<=i:=by simpa using h5
   rw[List.take_of_length_le aA]at aJ;rw[List.take_of_length_le (by simpa using aA)]at cX;refine gO F73 ?_;simp[gy,aJ,cX,hlen]
theorem MZ(a:cM)(l:List Int)(hf:a.Fits)(hl:l.length<=1000000):aq E 74 [a.enc,.sl (l.map (.int .i64))] (· = .bool (kh a l)):=by
 refine eP F74 ?_;refine I.loop (κ:=Nat) ([4,5]++rg 7 18) (fun k=>[(5,.d (.int .i64 k)),(4,.d (.bool false))]) (fun _=>[]) (fun k=>k<=l.length/\(l.take k).all kf=true) (fun k=>l.length-k) 0 ⟨Nat.zero_le _,rfl⟩ ?_ ?_
 ·exact sZ
 rintro i ⟨hi,aJ⟩ IH;refine I.head ab F74 2000 ?_;(conv=>whnf);refine ai (fun h5=>?_) (fun h5=>?_)
 ·have ah:i<l.length:=by simpa using h5
  obtain⟨x,hx⟩:=aG ah;refine gO F74 ?_;repeat' (first|with_reducible(first|refine aB (aN hx) rfl ?_|refine cY ?_|refine cN ?_|refine ai (fun _=>?_) (fun _=>?_))|refine gA F74 ?_|refine gB ?_|with_reducible rfl)
  all_goals try (have bK:l.all kf=false:=di hx (by(simp_all[kf]<;>omega));simp[kh,bK];done)
  refine gO F74 ?_;refine I.back (IH (i+1) ⟨by omega,dw aJ hx (by(simp_all[kf]<;>omega))⟩ (by omega)) ?_;exact sZ
 ·have aA:l.length<=i:=by simpa using h5
  rw[List.take_of_length_le aA]at aJ;refine gO F74 ?_;repeat' (first|with_reducible(first|refine ao (xu a hf) ?_|refine au (xu a hf) ?_|refine cY ?_|refine cN ?_|refine ai (fun _=>?_) (fun _=>?_))|refine gA F74 ?_|refine gB ?_|with_reducible rfl)
  all_goals try (simp_all[kh];done)
  all_goals
   rename_i e1 e2 e3 e4;have VQ:a.type=6:=by simpa using e2
   have VT:a.name=[46]:=by simpa using e3
   by_cases hz:1<=l.length
   ·simp[kh,e1,VQ,VT,aJ,hz];try (simp at e4;omega)
    try omega
   ·first
     |(simp[kh,hz];done)
     |(exfalso;simp at e4;omega)
def mB(out:List Text)(a:Text):List Text:=if a∈out then out else out.takeWhile (fun x=>decide (bC x a<0))++a::out.dropWhile (fun x=>decide (bC x a<0))
def tf(out:List Text):Prop:=out.Pairwise fun x y=>bC x y<0
def mC(l:List Text):List Text:=l.foldl mB []
theorem VU{p:Text->Bool}{out:List Text}{k:Nat}(hk:k<=out.length)(kc:∀ m x,m<k->out[m]?=some x->p x=true)(qQ:∀ x,out[k]?=some x->p x=false):out.takeWhile p=out.take k/\out.dropWhile p=out.drop k:=by
 induction out generalizing k with
 |nil=>simp
 |cons y out ih =>
  cases k with
  |zero=>have:=qQ y rfl;simp[this]
  |succ k =>
   have h0:=kc 0 y (by omega) rfl;have:=ih (k:=k) (by simpa using hk) (fun m x hm hx=>kc (m+1) x (by omega) (by simpa using hx)) (fun x hx=>qQ x (by simpa using hx));simp[h0,this]
theorem VV{out:List Text}(h:tf out){i j:Nat}{x y:Text}(dQ:i<j)(hx:out[i]?=some x)(hy:out[j]?=some y):bC x y<0:=by
 obtain⟨p1,e1⟩:=List.getElem?_eq_some_iff.1 hx;obtain⟨p2,e2⟩:=List.getElem?_eq_some_iff.1 hy;have:=List.pairwise_iff_getElem.1 h i j p1 p2 dQ
 rwa [e1,e2]at this
theorem M0{out:List Text}{a:Text}{k:Nat}(h:tf out)(hk:k<=out.length)(kc:∀ m x,m<k->out[m]?=some x->bC x a<0)(qQ:∀ x,out[k]?=some x->¬ bC x a<0)(aI:out[k]? ≠ some a):a ∉ out/\mB out a=out.take k++a::out.drop k:=by
 have bK:a ∉ out:=fun hm=>by
  obtain⟨m,hm⟩:=List.getElem?_of_mem hm;rcases Nat.lt_trichotomy m k with lQ|rfl|lQ
  ·have:=kc m a lQ hm;rw[o3]at this;omega
  ·exact aI hm
  ·obtain⟨x,hx⟩:=aG (l:=out) (k:=k) (by have:=aQ hm;omega);exact qQ x hx (VV h lQ hx hm)
 refine⟨bK,?_⟩;obtain⟨h1,h2⟩:=VU (p:=fun x=>decide (bC x a<0)) hk (fun m x hm hx=>by simpa using kc m x hm hx) (fun x hx=>by simpa using qQ x hx);rw[mB,if_neg bK,h1,h2]
theorem VW{out:List Text}(a:Text)(h:tf out):tf (mB out a):=by
 unfold mB;split
 ·exact h
 ·rename_i bK;have hs:=h;unfold tf at h ⊢;rw[<- List.takeWhile_append_dropWhile (p:=fun x=>decide (bC x a<0)) (l:=out)]at h;rw[List.pairwise_append]at h;obtain⟨h1,h2,h3⟩:=h;rw[List.pairwise_append];have kc:∀ x∈out.takeWhile (fun x=>decide (bC x a<0)),bC x a<0:=fun x hx=>by simpa using GR _ _ x hx
  have VX:∀ x∈out.dropWhile (fun x=>decide (bC x a<0)),bC a x<0:=fun x hx=>by
   cases hd:out.dropWhile (fun x=>decide (bC x a<0))with
   |nil=>rw[hd]at hx;simp at hx
   |cons y r =>
    rw[hd]at hx h2;have hy:¬ bC y a<0:=by
     have:=List.head?_dropWhile_not (p:=fun x=>decide (bC x a<0)) out;rw[hd]at this
     simpa using this
    have xM:bC a y<0:=by
     have e:=Ab a y;rcases Int.lt_trichotomy (bC a y) 0 with q|q|q
     ·exact q
     ·have:=pT q;subst this;have uN:a∈out:=by
       rw[<- List.takeWhile_append_dropWhile (p:=fun x=>decide (bC x a<0)) (l:=out),hd];simp
      exact absurd uN bK
     ·omega
    rcases List.mem_cons.1 hx with rfl|hx
    ·exact xM
    ·exact Ac xM ((List.pairwise_cons.1 h2).1 x hx)
  refine⟨h1,List.pairwise_cons.2 ⟨VX,h2⟩,fun x hx y hy=>?_⟩;rcases List.mem_cons.1 hy with rfl|hy
  ·exact kc x hx
  ·exact h3 x hx y hy
theorem VY{out:List Text}{a x:Text}:x∈mB out a↔x∈out\/x=a:=by
 unfold mB;split
 ·rename_i h;constructor
  ·exact .inl
  ·rintro(h1|rfl)
   ·exact h1
   ·exact h
 ·have e:=List.takeWhile_append_dropWhile (p:=fun x=>decide (bC x a<0)) (l:=out);constructor
  ·intro hx;rw[<- e];simp only[List.mem_append,List.mem_cons]at hx ⊢;rcases hx with h|rfl|h
   ·exact .inl (.inl h)
   ·exact .inr rfl
   ·exact .inl (.inr h)
  ·intro hx;rw[<- e]at hx;simp only[List.mem_append,List.mem_cons]at hx ⊢;rcases hx with(h|h)|rfl
   ·exact .inl h
   ·exact .inr (.inr h)
   ·exact .inr (.inl rfl)
theorem M3(l:List Text):tf (mC l)/\∀ x,x∈mC l↔x∈l:=by
 have main:∀ (l out:List Text),tf out->tf (l.foldl mB out)/\∀ x,x∈l.foldl mB out↔x∈out\/x∈l:=by
  intro l
  induction l with
  |nil=>intro out h;exact⟨h,by simp⟩
  |cons a l ih =>
   intro out h;have:=ih (mB out a) (VW a h);refine⟨this.1,fun x=>?_⟩;rw[List.foldl_cons,this.2,VY];simp[or_assoc]
 have:=main l [] List.Pairwise.nil;exact⟨this.1,fun x=>by rw[mC,this.2];simp⟩
theorem VZ{l:List Text}{k:Nat}{x:Text}(h:l[k]?=some x):mC (l.take (k+1))=mB (mC (l.take k)) x:=by
 rw[cK h,mC,List.foldl_append];rfl
theorem M4(l:List Text):(mC l).length=(eC [] l).length:=by
 obtain⟨h1,h2⟩:=M3 l;refine VA ?_ (G1 List.nodup_nil) fun x=>by rw[h2,Ai];simp
 rw[List.nodup_iff_pairwise_ne];refine h1.imp fun{a b} qu e=>?_;subst e;rw[o3]at qu;omega
theorem G8{A:List Text}{n:Nat}{y a:Text}(hn:n<=A.length):((A.take n++y::A.drop n).map DV.str).set ((n:Int)).toNat (.str a)=(A.take n++a::A.drop n).map DV.str:=by
 rw[Int.toNat_natCast,<- List.map_set]
 congr 1
 rw[List.set_append_right _ _ (by simp;omega)];simp[Nat.min_eq_left hn]
theorem M5{A:List Text}{n:Nat}{y z:Text}(hz:A[n-1]?=some z)(h0:0<n):((A.take n++y::A.drop n).map DV.str).set ((n:Int)).toNat (.str z)=(A.take (n-1)++z::A.drop (n-1)).map DV.str:=by
 have hl:=aQ hz;rw[G8 (by omega)]
 congr 1
 obtain⟨m,rfl⟩:∃ m,n=m+1:=⟨n-1,by omega⟩;simp only[Nat.add_sub_cancel]at hz hl ⊢;rw[cK hz];obtain⟨p,e⟩:=List.getElem?_eq_some_iff.1 hz;rw[List.drop_eq_getElem_cons p,e];simp
def tg(n:Nat)(p:bc):Bool:=decide (0<=p.host)&&decide (p.host<n)&&eB p.aw
def M6(l:List bc):Nat:=(eC [] (l.map (·.aw.aj))).length
def th(n:Nat)(l:List bc):Bool:=decide (l.length<=4000)&&l.all (tg n)&&decide ((l.map bc.spot).Nodup)&&decide (M6 l<=500)
def C4(w:oY):Bool:=gy w.aC&&th w.aC.length w.jB&&kh w.anchor w.hints
def lR(x:Host):Bool := !(decide ((x.name.length:Int)>100))
def xN(a b c d:Nat):Bool:=decide (a<=20)&&decide (b<=70)&&decide (c<=20)&&decide (d<=20)
def aY.spot(c:aY):dj:=(c.host,c.aw.aj)
def aY.span(c:aY):Span:=⟨c.cu,c.upto⟩
def kU(aC:Nat)(fin:Int)(c:aY):Bool:=decide (0<=c.host)&&decide (c.host<aC)&&decide (0<=c.cu)&&decide (c.cu<c.upto)&&decide (c.upto<=fin)&&eB c.aw
def oq(d c:aY):Prop:=d.spot=c.spot->¬ (d.cu<c.upto/\c.cu<d.upto)
instance (d c : aY) : Decidable (oq d c) := by unfold oq; infer_instance
def vt(l:List aY):Nat:=(eC [] (l.map (·.aw.aj))).length
def gz(h:bZ):Bool:=decide (1<=h.fin)&&decide (h.fin<=10000000)&&decide (0<=h.bN)&&decide (h.bN<=1000)&&decide (h.aE.length<=4000)&&(gy h.aC&&kh h.anchor h.hints) &&
 h.aE.all (kU h.aC.length h.fin)&&decide (h.aE.Pairwise oq)&&decide (vt h.aE<=500)
structure bZ.Fits(h:bZ):Prop where
 aC:∀ x∈h.aC,x.name.length<=maxLen
 anchor:h.anchor.Fits
 hints:h.hints.length<=maxLen
 jB:∀ c∈h.aE,c.aw.Fits
structure RD where
 p:dj
 l:List Span
 blk:Nat
 cap:Nat
def RD.slice(d:RD):Value := .slice (some ⟨d.blk,0,none⟩) d.l.length d.cap
def RD.cC(d:RD):DV × DV:=(dj.en d.p,.raw d.slice)
def RD.ghost(d:RD):bk := .row ⟨d.blk,d.cap,(169,2),d.l.map Span.enc⟩
structure mE(l:List aY)(ds:List RD):Prop where
 nodup:(ds.map (·.p)).Nodup
 each:∀ d∈ds,d.l=(l.filter (fun c=>decide (c.spot=d.p))).map aY.span/\d.l≠[]
 all:∀ c∈l,∃ d∈ds,d.p=c.spot
theorem mE.nil:mE [] []:=⟨by simp,fun d hd=>by simp at hd,fun c hc=>by simp at hc⟩
def Clear(l:List Span):Prop:=l.Pairwise fun a b=>¬ (a.cu<b.upto/\b.cu<a.upto)
theorem M9{l m:List Span}(h:l.Perm m):Clear l↔Clear m:=h.pairwise_iff fun{x y} h1 h2=>h1 ⟨h2.2,h2.1⟩
theorem Wc{l:List aY}{ds:List RD}(h:mE l ds):l.Pairwise oq↔∀ d∈ds,Clear d.l:=by
 have each:∀ d∈ds,(Clear d.l↔l.Pairwise (fun a b=>a.spot=d.p->b.spot=d.p->¬ (a.cu<b.upto/\b.cu<a.upto))):=fun d hd=>by
  rw[(h.each d hd).1,Clear,List.pairwise_map,List.pairwise_filter];simp only[decide_eq_true_eq];rfl
 constructor
 ·intro hp d hd;rw[each d hd];exact hp.imp fun{a b} qu h1 h2=>qu (h1.trans h2.symm)
 ·intro hc;rw[List.pairwise_iff_getElem];intro i j hi hj dQ hs;obtain⟨d,hd,e⟩:=h.all l[i] (List.getElem_mem hi);have:=(each d hd).1 (hc d hd);rw[List.pairwise_iff_getElem]at this;exact this i j hi hj dQ e.symm (hs.symm.trans e.symm)
theorem Wd{l:List Span}(hw:∀ a∈l,a.cu<a.upto)(h:∀ (m:Nat) (a b:Span),l[m]?=some a->l[m+1]?=some b->a.upto<=b.cu):Clear l:=by
 have main:∀ (n i:Nat) (a b:Span),l[i]?=some a->l[i+1+n]?=some b->a.upto<=b.cu:=by
  intro n
  induction n with
  |zero=>intro i a b ha hb;exact h i a b ha hb
  |succ n ih =>
   intro i a b ha hb;obtain⟨c,hc⟩:∃ c,l[i+1+n]?=some c:=aG (by have:=aQ hb;omega);have h1:=ih i a c ha hc;have h2:=h (i+1+n) c b hc hb;have h3:=hw c (List.mem_of_getElem? hc);omega
 unfold Clear;rw[List.pairwise_iff_getElem];intro i j hi hj dQ h2;have:=main (j-i-1) i l[i] l[j] (by simp) (by rw[show i+1+(j-i-1)=j by omega];simp);omega
theorem We{l:List Span}(hw:∀ a∈l,a.cu<a.upto)(hs:l.Pairwise (fun a b=>a.cu<=b.cu)){i:Nat}{a b:Span}(h0:0<i)(ha:l[i-1]?=some a)(hb:l[i]?=some b)(h:b.cu<a.upto):¬ Clear l:=fun hc=>by
 obtain⟨p1,e1⟩:=List.getElem?_eq_some_iff.1 ha;obtain⟨p2,e2⟩:=List.getElem?_eq_some_iff.1 hb;have h1:=List.pairwise_iff_getElem.1 hc (i-1) i p1 p2 (by omega);have h2:=List.pairwise_iff_getElem.1 hs (i-1) i p1 p2 (by omega);have h3:=hw b (List.mem_of_getElem? hb);rw[e1,e2]at h1 h2;exact h1 ⟨by omega,h⟩
theorem Wf{l:List aY}{p:dj}{ds:List RD}(h:mE l ds)(hn:∀ d∈ds,d.p≠p):l.filter (fun c=>decide (c.spot=p))=[]:=by
 rw[List.filter_eq_nil_iff];intro c hc hp;obtain⟨d,hd,e⟩:=h.all c hc;exact hn d hd (e.trans (by simpa using hp))
theorem mE.found{l:List aY}{p1 p2:List RD}{d:RD}{c:aY}(h:mE l (p1++d::p2))(hp:d.p=c.spot)(blk cap:Nat):mE (l++[c]) (p1++⟨c.spot,d.l++[c.span],blk,cap⟩::p2):=by
 have cX:=h.nodup;simp only[List.map_append,List.map_cons]at cX;have aI:∀ e,e∈p1\/e∈p2->e.p≠c.spot:=fun e he q=>by
  rw[List.nodup_append]at cX;obtain⟨h1,h2,h3⟩:=cX;rw[List.nodup_cons]at h2;rcases he with he|he
  ·exact h3 e.p (List.mem_map_of_mem he) d.p (List.mem_cons_self ..) (q.trans hp.symm)
  ·exact h2.1 (List.mem_map.2 ⟨e,he,q.trans hp.symm⟩)
 have hold:∀ e,e∈p1\/e∈p2->e.l=((l++[c]).filter (fun c=>decide (c.spot=e.p))).map aY.span/\e.l≠[]:=fun e he=>by
  have h1:=h.each e (by rcases he with he|he<;>simp[he]);have h2:¬ c.spot=e.p:=fun q=>aI e he q.symm;refine⟨?_,h1.2⟩;rw[List.filter_append,List.filter_cons_of_neg (by simpa using h2),List.filter_nil,List.append_nil];exact h1.1
 refine⟨?_,fun e he=>?_,fun x hx=>?_⟩
 ·simp only[List.map_append,List.map_cons];rw[<- hp];exact cX
 ·rcases List.mem_append.1 he with he|he
  ·exact hold e (.inl he)
  ·rcases List.mem_cons.1 he with rfl|he
   ·have h1:=h.each d (by simp);refine⟨?_,by simp⟩;show d.l++[c.span]=_;rw[List.filter_append,List.filter_cons_of_pos (by simp),List.filter_nil,List.map_append,h1.1,hp];rfl
   ·exact hold e (.inr he)
 ·rcases List.mem_append.1 hx with hx|hx
  ·obtain⟨e,he,q⟩:=h.all x hx;rcases List.mem_append.1 he with he|he
   ·exact⟨e,by simp[he],q⟩
   ·rcases List.mem_cons.1 he with rfl|he
    ·exact⟨⟨c.spot,e.l++[c.span],blk,cap⟩,by simp,hp.symm.trans q⟩
    ·exact⟨e,by simp[he],q⟩
  ·simp at hx;subst hx;exact⟨⟨x.spot,d.l++[x.span],blk,cap⟩,by simp,rfl⟩
theorem mE.new{l:List aY}{ds:List RD}{c:aY}(h:mE l ds)(hn:∀ d∈ds,d.p≠c.spot)(blk cap:Nat):mE (l++[c]) (ds++[⟨c.spot,[c.span],blk,cap⟩]):=by
 refine⟨?_,fun e he=>?_,fun x hx=>?_⟩
 ·rw[List.map_append,List.nodup_append];refine⟨h.nodup,by simp,fun a ha b hb q=>?_⟩;simp at hb;subst hb;subst q;obtain⟨d,hd,q⟩:=List.mem_map.1 ha;exact hn d hd q
 ·rcases List.mem_append.1 he with he|he
  ·have h1:=h.each e he;have h2:¬ c.spot=e.p:=fun q=>hn e he q.symm;refine⟨?_,h1.2⟩;rw[List.filter_append,List.filter_cons_of_neg (by simpa using h2),List.filter_nil,List.append_nil];exact h1.1
  ·simp at he;subst he;refine⟨?_,by simp⟩;show[c.span]=_;rw[List.filter_append,List.filter_cons_of_pos (by simp),List.filter_nil,Wf h hn];rfl
 ·rcases List.mem_append.1 hx with hx|hx
  ·obtain⟨e,he,q⟩:=h.all x hx;exact⟨e,by simp[he],q⟩
  ·simp at hx;subst hx;exact⟨⟨x.spot,[x.span],blk,cap⟩,by simp,rfl⟩
theorem mE.len{l:List aY}{ds:List RD}(h:mE l ds){d:RD}(hd:d∈ds):d.l.length<=l.length:=by
 rw[(h.each d hd).1,List.length_map];exact List.length_filter_le _ _
theorem Wg{ds:List RD}:∀ {i:Nat} {d:RD},ds[i]?=some d->(ds.map (·.p)).Nodup->findD (dj.en d.p) (ds.map RD.cC)=some (.raw d.slice)/\eX (dj.en d.p) (ds.map RD.cC)=some i/\bU (dj.en d.p) (.raw d.slice) (ds.map RD.cC)=ds.map RD.cC:=by
 induction ds with
 |nil=>intro i d h;simp at h
 |cons e ds ih =>
  intro i d h hn;simp only[List.map_cons,List.nodup_cons]at hn;cases i with
  |zero =>
   simp at h;subst h;simp[findD,eX,bU,RD.cC,pV]
  |succ i =>
   have h':ds[i]?=some d:=by simpa using h
   have aI:¬ d.p=e.p:=fun q=>hn.1 (List.mem_map.2 ⟨d,List.mem_of_getElem? h',q⟩);obtain⟨h1,h2,h3⟩:=ih h' hn.2;simp only[List.map_cons,findD,eX,bU,RD.cC,pV,aI,decide_false,Bool.false_eq_true,if_false];exact⟨h1,by rw[h2];rfl,by rw[h3]⟩
theorem M'{p:dj}{v:DV}:∀ {ds:List RD},(∀ d∈ds,d.p≠p)->findD (dj.en p) (ds.map RD.cC)=none/\eX (dj.en p) (ds.map RD.cC)=none/\bU (dj.en p) v (ds.map RD.cC)=ds.map RD.cC++[(dj.en p,v)]
 |[],_=>by simp[findD,eX,bU]
 |e::ds,h=>by
  have aI:¬ p=e.p:=fun q=>h e (List.mem_cons_self ..) q.symm;obtain⟨h1,h2,h3⟩:=M' (p:=p) (v:=v) (ds:=ds) (fun d hd=>h d (List.mem_cons_of_mem _ hd));simp only[List.map_cons,findD,eX,bU,RD.cC,pV,aI,decide_false,Bool.false_eq_true,if_false];exact⟨h1,by rw[h2];rfl,by rw[h3];rfl⟩
theorem Na{ds:List RD}:∀ p∈ds.map RD.cC,dn E.T (TK.struct [(0,3),(1,9)]) p.1:=fun p hp=>by
 obtain⟨d,-,rfl⟩:=List.mem_map.1 hp;exact C2 d.p
theorem Nb(h:bZ)(hf:h.Fits)(dz:h.aE.length<=1000000):aq E 40 [h.enc] (· = .bool (gz h)):=by
 obtain⟨aC,aE,anchor,hints,bN,fin⟩:=h;obtain⟨gw,jd,Ak,Al⟩:=hf;simp only at gw jd Ak Al dz;show aq E _ [DV.agg [.sl (aC.map Host.enc),.sl (aE.map aY.enc),.str anchor.name,.int .i64 anchor.type,.int .i64 anchor.cy,.sl (anchor.data.map Datum.enc),.sl (hints.map (.int .i64)),.int .i64 bN,.int .i64 fin]] _;refine eP F40 ?_;repeat' (first|with_reducible(first|refine ao (MO aC anchor hints gw jd Ak) ?_|refine au (MO aC anchor hints gw jd Ak) ?_|refine cY ?_|refine cN ?_|refine ai (fun _=>?_) (fun _=>?_))|refine gA F40 ?_|refine gB ?_|with_reducible rfl)
 all_goals try (congr 1;simp_all[gz];done)
 all_goals try (congr 1;simp_all[gz];omega;done)
 ·rename_i h6;have hw:(gy aC&&kh anchor hints)=false:=by
   cases hq:(gy aC&&kh anchor hints)
   ·rfl
   ·rw[hq]at h6;cases h6
  simp only[gz,hw];simp
 rename_i h1 h2 h3 h4 h5 h6;have hw:(gy aC&&kh anchor hints)=true:=by
  cases hq:(gy aC&&kh anchor hints)
  ·rw[hq]at h6;cases h6
  ·rfl
 have fA:1<=fin/\fin<=10000000/\0<=bN/\bN<=1000/\aE.length<=4000:=by simp at h1 h2 h3 h4 h5;omega
 have bH:gz ⟨aC,aE,anchor,hints,bN,fin⟩=(aE.all (kU aC.length fin)&&decide (aE.Pairwise oq)&&decide (vt aE<=500)):=by
  simp only[gz,hw];simp[fA.1,fA.2.1,fA.2.2.1,fA.2.2.2.1,fA.2.2.2.2,Bool.and_assoc]
 rw[bH];clear bH h1 h2 h3 h4 h5 h6 hw;refine gO F40 ?_;refine gO F40 ?_;refine I.Ck (κ:=Nat × List RD) [2,5,6,47,48,49,50,51,52,53,54,55,56,57,58,59,60,61,62,63,64,65,66,67,68,69,70,71,72,73,74,75,76,77,78,79,80,81,82,83,84,85,86,87,88,89,90,91,92,93,94,95,96,97,98,99,100,101,102,103] (fun x=>[(47,.d (.int .i64 x.1)),(2,.d (.bool false)),(3,.map 1)]) (fun x=>[(1,.map (x.2.map RD.cC))]) (fun x=>x.2.map RD.ghost) (fun x=>x.1<=aE.length/\(aE.take x.1).all (kU aC.length fin)=true/\mE (aE.take x.1) x.2) (fun x=>aE.length-x.1) (0,[]) ⟨Nat.zero_le _,rfl,mE.nil⟩ rfl ?_ ?_
 ·(conv=>whnf);repeat (first|exact trivial|(refine sI ?_;conv=>whnf))
  refine And.intro rfl ?_;exact sZ
 rintro⟨k,ds⟩ ⟨hk,aJ,gj⟩ IH;simp only at hk aJ gj;refine I.head ab F40 2000 ?_;(conv=>whnf);refine ai (fun h5=>?_) (fun h5=>?_)
 ·have ah:k<aE.length:=by simpa using h5
  obtain⟨c,hc⟩:=aG ah;have nd:=Al c (List.mem_of_getElem? hc);refine gO F40 ?_;refine aB (e:=c.enc) (aN hc) rfl ?_;refine gO F40 ?_;repeat' (first|with_reducible(first|refine ao (vk c.aw nd) ?_|refine au (vk c.aw nd) ?_|refine cY ?_|refine cN ?_|refine ai (fun _=>?_) (fun _=>?_))|refine gA F40 ?_|refine gB ?_|with_reducible rfl)
  all_goals try (have bK:kU aC.length fin c=false:=by(simp_all[kU]<;>omega))
  all_goals try (rw[di hc bK];simp;done)
  rename_i h1 h2 h3 h4 h5 h6;have aM:kU aC.length fin c=true:=by simp_all[kU]
  have Cu:dj.en c.spot=.agg [.int .i64 c.host,.str c.aw.aj]:=rfl;refine gO F40 ?_;by_cases hex:∃ d∈ds,d.p=c.spot
  ·obtain⟨d,hd,ke⟩:=hex;obtain⟨p1,p2,rfl⟩:=List.append_of_mem hd;have hi:(p1++d::p2)[p1.length]?=some d:=by simp
   obtain⟨e1,e2,e3⟩:=Wg hi gj.nodup;rw[ke]at e1 e2 e3;rw[Cu]at e1 e2 e3;have nr:=gj.len hd;have dM:∀ d':RD,(p1++d::p2).set p1.length d'=p1++d'::p2:=fun d'=>by simp
   refine I.mapEntry ab (.raw (.slice none 0 0)) (.slice none 0 0) (.raw d.slice) p1.length ((p1++d::p2).map RD.cC) rfl rfl (fun _ _ => .raw _ rfl) ?_;(conv=>whnf);refine And.intro ⟨C2 c.spot,Na⟩ (And.intro (fun w=>by kernel_rfl) (And.intro ⟨by rw[e1];rfl,by rw[e2];rfl,e3⟩ ?_));(conv=>whnf);refine I.run ab F40 1 ?_;(conv=>whnf);refine I.borrow 93 (bz:=⟨d.blk,d.cap,(169,2),d.l.map Span.enc⟩) (n:=d.l.length) (g1:=p1.map RD.ghost) (g2:=p2.map RD.ghost) (by show(p1++d::p2).map RD.ghost=_;simp[RD.ghost]) rfl (by simp) ?_;refine gO F40 ?_;refine aV ⟨by simp at nr ⊢;omega,by simp[DV.cells]⟩ ?_;refine gO F40 ?_;refine I.cO 101 4 rfl (Nat.zero_le _) rfl (fun nj=>by simp at nj) (fun blk cap=>?_);refine I.entryStore ab p1.length (k0:=dj.en c.spot) (x0 := .raw d.slice) rfl rfl ?_;(conv=>whnf);refine And.intro (by simp[RD.cC,ke]) ?_;(conv=>whnf);refine And.intro rfl ?_;(conv=>whnf);refine gO F40 ?_;refine I.uR (rows:=(p1++⟨c.spot,d.l++[c.span],blk,cap⟩::p2).map RD.ghost) ?_ ?_
   ·have e:(p1++(⟨c.spot,d.l++[c.span],blk,cap⟩:RD)::p2).map RD.ghost=p1.map RD.ghost ++ .row ⟨blk,cap,(169,2),d.l.map Span.enc++[DV.agg [.int .i64 c.cu,.int .i64 c.upto]]⟩::p2.map RD.ghost:=by simp[RD.ghost,aY.span]
    rw[e];exact List.perm_middle.symm
   refine I.back (IH (k+1,p1++⟨c.spot,d.l++[c.span],blk,cap⟩::p2) ⟨by simp only;omega,dw aJ hc aM,by simp only;rw[cK hc];exact gj.found ke blk cap⟩ (by simp only;omega)) ?_;(conv=>whnf);repeat (first|exact trivial|(refine sI ?_;conv=>whnf))
   refine And.intro (by simp[RD.cC,RD.slice,aY.span]) ?_;exact sZ
  ·have bK:∀ d∈ds,d.p≠c.spot:=fun d hd e=>hex ⟨d,hd,e⟩;obtain⟨e1,e2,e3⟩:=M' (v := .raw (.slice none 0 0)) bK;rw[Cu]at e1 e2 e3;refine I.mapEntry ab (.raw (.slice none 0 0)) (.slice none 0 0) (.raw (.slice none 0 0)) ds.length (ds.map RD.cC++[(dj.en c.spot,.raw (.slice none 0 0))]) rfl rfl (fun _ _ => .raw _ rfl) ?_;(conv=>whnf);refine And.intro ⟨C2 c.spot,Na⟩ (And.intro (fun w=>by kernel_rfl) (And.intro ⟨by rw[e1];rfl,by rw[e2];simp,e3⟩ ?_));(conv=>whnf);refine I.run ab F40 1 ?_;(conv=>whnf);refine I.SI 93 (169,2) (by decide) rfl ?_;refine gO F40 ?_;refine aV ⟨by simp,by simp[DV.cells]⟩ ?_;refine gO F40 ?_;refine I.cO 101 4 rfl (Nat.zero_le _) rfl (fun nj=>by simp at nj) (fun blk cap=>?_);refine I.entryStore ab ds.length (k0:=dj.en c.spot) (x0 := .raw (.slice none 0 0)) rfl rfl ?_;(conv=>whnf);refine And.intro (by simp) ?_;(conv=>whnf);refine And.intro rfl ?_;(conv=>whnf);refine gO F40 ?_;refine I.uR (rows:=(ds++[(⟨c.spot,[c.span],blk,cap⟩:RD)]).map RD.ghost) ?_ ?_
   ·have e:(ds++[(⟨c.spot,[c.span],blk,cap⟩:RD)]).map RD.ghost=ds.map RD.ghost++[.row ⟨blk,cap,(169,2),[]++[DV.agg [.int .i64 c.cu,.int .i64 c.upto]]⟩]:=by simp[RD.ghost,aY.span]
    rw[e];exact(List.perm_append_singleton _ _).symm
   refine I.back (IH (k+1,ds++[⟨c.spot,[c.span],blk,cap⟩]) ⟨by simp only;omega,dw aJ hc aM,by simp only;rw[cK hc];exact gj.new bK blk cap⟩ (by simp only;omega)) ?_;(conv=>whnf);repeat (first|exact trivial|(refine sI ?_;conv=>whnf))
   refine And.intro (by simp[RD.cC,RD.slice,aY.span]) ?_;exact sZ
 ·have aA:aE.length<=k:=by simpa using h5
  rw[List.take_of_length_le aA]at aJ gj;have hw:∀ d∈ds,∀ a∈d.l,a.cu<a.upto:=fun d hd a ha=>by
   rw[(gj.each d hd).1]at ha;obtain⟨x,hx,rfl⟩:=List.mem_map.1 ha;have:=List.all_eq_true.1 aJ x (List.mem_filter.1 hx).1;simp only[kU,Bool.and_eq_true,decide_eq_true_eq]at this;exact this.1.1.2
  have xO:=Wc gj;rw[aJ,Bool.true_and];refine gO F40 ?_;refine I.range ab rfl rfl rfl rfl (aS rfl) rfl (Nat.zero_le _) (fun it sF lZ sM=>?_);obtain⟨bm,r,en,ck,since,seen,es⟩:=it;simp only at sF lZ sM;subst sF;subst lZ;refine gO F40 ?_;refine I.Ck (κ:=List Nat × List RD) ([3,43,104]++[2,8,9,106,107,108,109,110,111,112,113,114,115,116,117,118,119,120,121,122,123,124,125,126,127,128,129]) (fun _=>[(2,.d (.bool false))]) (fun _=>[]) (fun x => .iter ⟨bm,r,en,ck,since,x.1,ds.map RD.cC⟩::x.2.map RD.ghost) (fun x=>(∀ j d,ds[j]?=some d->j ∉ x.1->d∈x.2)/\(∀ d∈x.2,d∈ds)/\∀ j d,ds[j]?=some d->j∈x.1->Clear d.l) (fun x=>x.2.length) ([],ds) ⟨fun j d hd _=>List.mem_of_getElem? hd,fun _ h=>h,fun j d _ h=>by simp at h⟩ rfl ?_ ?_
  ·exact sZ
  rintro⟨seen,pd⟩ ⟨ru,oQ,G'⟩ oZ;simp only at ru oQ G';refine I.head ab F40 2000 ?_;(conv=>whnf);refine I.next (it:=⟨bm,r,en,ck,since,seen,ds.map RD.cC⟩) (g1:=[]) (g2:=pd.map RD.ghost) rfl rfl sM rfl (aS rfl) (fun vu=>?_) (fun j kk y hj kH=>?_)
  ·refine gO F40 ?_;refine aR ?_;refine gO F40 ?_;have dA:aE.Pairwise oq:=xO.2 fun d hd=>by
    obtain⟨j,hj⟩:=List.getElem?_of_mem hd;have hl:=aQ hj;exact G' j d hj (vu j (by simpa using hl))
   refine jv (VC aE dz) ?_;rintro u b ⟨dV,rfl,rfl⟩;refine gO F40 ?_;simp only[dA,decide_true,Bool.true_and,vt,List.length_map]
   congr 2
   simp;omega
  ·obtain⟨d,C6,e⟩:∃ d,ds[j]?=some d/\RD.cC d=(kk,y):=by simpa using hj
   cases e;have hd:=List.mem_of_getElem? C6;obtain⟨p1,p2,rfl⟩:=List.append_of_mem (ru j d C6 kH);refine gO F40 ?_;refine bj ?_;refine gO F40 ?_;refine I.entry (it:=⟨bm,r,en,ck,since,seen++[j],ds.map RD.cC⟩) (g1:=[]) (g2:=(p1++d::p2).map RD.ghost) (pre:=seen) (j:=j) rfl rfl rfl rfl hj (aS rfl) ?_;(conv=>whnf);refine I.run ab F40 2 ?_;(conv=>whnf);refine I.borrow 8 (bz:=⟨d.blk,d.cap,(169,2),d.l.map Span.enc⟩) (n:=d.l.length) (g1 := .iter ⟨bm,r,en,ck,since,seen++[j],ds.map RD.cC⟩::p1.map RD.ghost) (g2:=p2.map RD.ghost) (by show(_::(p1++d::p2).map RD.ghost)=_;simp[RD.ghost]) rfl (by simp) ?_;refine gO F40 ?_;have Wh:d.l≠[]:=(gj.each d hd).2;have nr:d.l.length<=aE.length:=gj.len hd;refine jv (Wb d.l Wh (by omega)) ?_;rintro u b ⟨rfl,l',rB,Ha,rfl⟩;have tS:∀ a∈l',a.cu<a.upto:=fun a ha=>hw d hd a (rB.mem_iff.1 ha);have oI:l'.length<=aE.length:=by rw[rB.length_eq];exact nr
   refine gO F40 ?_;refine I.loop (κ:=Nat) ([2,9]++rg 112 18) (fun i=>[(9,.d (.int .i64 i)),(2,.d (.bool false))]) (fun _=>[]) (fun i=>1<=i/\i<=max 1 l'.length/\∀ (m:Nat) (a b:Span),m+1<i->l'[m]?=some a->l'[m+1]?=some b->a.upto<=b.cu) (fun i=>l'.length-i) 1 ⟨Nat.le_refl _,by omega,fun m a b h=>by omega⟩ ?_ ?_
   ·exact sZ
   rintro i ⟨wC,xn,Nc⟩ Am;refine I.head ab F40 2000 ?_;(conv=>whnf);refine ai (fun h6=>?_) (fun h6=>?_)
   ·have ah:i<l'.length:=by simpa using h6
    obtain⟨x,hx⟩:=aG ah;obtain⟨q,hq⟩:∃ q,l'[i-1]?=some q:=aG (by omega);refine gO F40 ?_;refine I.bJ ab bG 2000 (by kernel_rfl) ?_;(conv=>whnf);refine aV ⟨by omega,by simp;omega⟩ ?_;refine gD ?_;refine aB (e:=x.enc) (aN hx) rfl ?_;refine gD ?_;have o5:IntKind.i64.wrap ((i:Int)-1)=((i-1:Nat):Int):=by rw[wrap64 (by omega) (by omega)];omega
    refine aV ⟨by rw[o5];omega,by rw[o5];simp;omega⟩ ?_;refine gD ?_;refine aB (e:=q.enc) (by rw[o5,Int.toNat_natCast];exact aN hq) rfl ?_;refine gD ?_;refine gO F40 ?_;refine ai (fun h7=>?_) (fun h7=>?_)
    ·refine gO F40 ?_;have Wi:¬ aE.Pairwise oq:=fun hp=>We tS Ha (by omega) hq hx (by simpa using h7) ((M9 rB).2 (xO.1 hp d hd));simp[Wi]
    ·refine gO F40 ?_;refine I.back (Am (i+1) ⟨by omega,by omega,fun m a b hm ha hb=>?_⟩ (by omega)) ?_
     ·by_cases kF:m+1=i
      ·have e1:m=i-1:=by omega
       subst e1;rw[hq]at ha;rw[kF,hx]at hb;cases ha;cases hb
       simpa using h7
      ·exact Nc m a b (by omega) ha hb
     ·exact sZ
   ·have xL:l'.length<=i:=by simpa using h6
    have dA:Clear d.l:=(M9 rB).1 (Wd tS fun m a b ha hb=>Nc m a b (by have:=aQ hb;omega) ha hb);refine gO F40 ?_;refine I.uR (rows := .iter ⟨bm,r,en,ck,since,seen++[j],ds.map RD.cC⟩::(p1++p2).map RD.ghost) (List.Perm.of_eq (by simp)) ?_;have n4:=gj.nodup;refine I.back (oZ (seen++[j],p1++p2) ⟨fun j' d' fj eK=>?_,fun d' fj=>oQ d' (by simp at fj ⊢;rcases fj with h|h<;>simp[h]),fun j' d' fj eK=>?_⟩ (by simp)) ?_
    ·simp only at fj eK ⊢;rw[List.mem_append,List.mem_singleton,not_or]at eK;have h1:=ru j' d' fj eK.1;have aI:d'≠d:=fun e=>by
      subst e;have q1:(ds.map (·.p))[j']?=some d'.p:=by simp[fj]
      have q2:(ds.map (·.p))[j]?=some d'.p:=by simp[C6]
      exact eK.2 (G4 n4 q1 q2)
     rcases List.mem_append.1 h1 with h1|h1
     ·exact List.mem_append_left _ h1
     ·rcases List.mem_cons.1 h1 with h1|h1
      ·exact absurd h1 aI
      ·exact List.mem_append_right _ h1
    ·simp only at eK;rw[List.mem_append,List.mem_singleton]at eK;rcases eK with eK|rfl
     ·exact G' j' d' fj eK
     ·rw[C6]at fj;cases fj;exact dA
    ·exact sZ
theorem Wj(l:List aY)(hl:l.length<=1000000)(hn:∀ c∈l,c.aw.aj.length<=1000):aq E 76 [.sl (l.map aY.enc)] (· = .sl ((mC (l.map (·.aw.aj))).map .str)):=by
 generalize hT:l.map (·.aw.aj)=T;have CZ:T.length=l.length:=by rw[<- hT];simp
 have Wk:∀ x∈T,x.length<=1000:=fun x hx=>by
  rw[<- hT]at hx;obtain⟨c,hc,rfl⟩:=List.mem_map.1 hx;exact hn c hc
 have ng:∀ k,(mC (T.take k)).length<=l.length:=fun k=>by
  rw[M4];have:=CY (l:=T.take k) (acc:=[]);simp at this;omega
 refine eP F76 ?_;refine I.wB 3 (9,1) (by decide) rfl ?_;refine I.loop (κ:=Nat) (rg 3 68) (fun k=>[(4,.d (.int .i64 k)),(3,.own 0 1)]) (fun k=>[(0,.arr 1 (9,1) ((mC (T.take k)).map .str))]) (fun k=>k<=l.length) (fun k=>l.length-k) 0 (Nat.zero_le _) ?_ ?_
 ·(conv=>whnf);repeat (first|exact trivial|(refine sI ?_;conv=>whnf))
  refine And.intro rfl ?_;exact sZ
 intro i hi IH;obtain⟨hS,hM⟩:=M3 (T.take i);have hC:=ng i;have aF:∀ {a:Text},T[i]?=some a->mC (T.take (i+1))=mB (mC (T.take i)) a:=fun h=>VZ h;have Nd:∀ x∈mC (T.take i),x.length<=1000:=fun x hx=>Wk x (List.mem_of_mem_take ((hM x).1 hx));generalize hA:mC (T.take i)=A at hS hM hC aF Nd;refine I.head ab F76 2000 ?_;(conv=>whnf);refine ai (fun h5=>?_) (fun h5=>?_)
 ·have ah:i<l.length:=by simpa using h5
  obtain⟨c,hc⟩:=aG ah;have Wl:T[i]?=some c.aw.aj:=by rw[<- hT];simp[hc]
  have dA:=hn c (List.mem_of_getElem? hc);replace aF:=aF Wl;refine gO F76 ?_;refine aB (e:=c.enc) (aN hc) rfl ?_;refine gO F76 ?_;refine I.loop (κ:=Nat) ([6]++rg 20 15) (fun k=>[(6,.d (.int .i64 k))]) (fun _=>[]) (fun k=>k<=A.length/\∀ m x,m<k->A[m]?=some x->bC x c.aw.aj<0) (fun k=>A.length-k) 0 ⟨Nat.zero_le _,fun m x h=>by omega⟩ ?_ ?_
  ·exact sZ
  rintro k ⟨hk,kc⟩ oZ;refine I.head ab F76 2000 ?_;(conv=>whnf);refine ai (fun h6=>?_) (fun h6=>?_)
  ·have lO:k<A.length:=by simpa using h6
   obtain⟨y,hy⟩:=aG lO;refine gO F76 ?_;refine aV ⟨by omega,by simp;omega⟩ ?_;refine gO F76 ?_;refine aB (e := .str y) (aN hy) rfl ?_;refine gO F76 ?_
   with_reducible refine ao (Gs y c.aw.aj (Nd y (List.mem_of_getElem? hy)) dA) ?_
   refine gO F76 ?_;refine ai (fun h7=>?_) (fun h7=>?_)
   ·refine gO F76 ?_;refine I.back (oZ (k+1) ⟨by omega,fun m x hm hx=>?_⟩ (by omega)) ?_
    ·by_cases lQ:m=k
     ·subst lQ;rw[hy]at hx;cases hx;simpa using h7
     ·exact kc m x (by omega) hx
    ·exact sZ
   ·have qQ:∀ x,A[k]?=some x->¬ bC x c.aw.aj<0:=fun x hx=>by rw[hy]at hx;cases hx;simpa using h7
    refine gO F76 ?_;refine aU (by simpa using lO) ?_;refine gO F76 ?_;refine aV ⟨by omega,by simp;omega⟩ ?_;refine gO F76 ?_;refine aB (e := .str y) (aN hy) rfl ?_;refine gO F76 ?_;refine ai (fun h8=>?_) (fun h8=>?_)
    ·have xM:y=c.aw.aj:=by simpa using h8
     refine gO F76 ?_;refine I.back (IH (i+1) (by omega) (by omega)) ?_;rw[aF];have fL:mB A c.aw.aj=A:=by rw[mB,if_pos (by rw[<- xM];exact List.mem_of_getElem? hy)]
     rw[fL];exact sZ
    ·have xM:A[k]? ≠ some c.aw.aj:=fun e=>by rw[hy]at e;cases e;simp at h8
     obtain⟨bK,Hb⟩:=M0 hS hk kc qQ xM;rw[Hb]at aF;refine gO F76 ?_;refine aV ⟨by simp;omega,by simp[DV.cells]⟩ ?_;refine gO F76 ?_;refine I.loop (κ:=Nat × Text) [7,54,55,56,57,58,59,60,61,62,63,64,65,66] (fun x=>[(7,.d (.int .i64 x.1)),(3,.own 0 2)]) (fun x=>[(0,.arr 2 (9,1) ((A.take x.1++x.2::A.drop x.1).map .str))]) (fun x=>k<=x.1/\x.1<=A.length) (fun x=>x.1-k) (A.length,c.aw.aj) ⟨hk,Nat.le_refl _⟩ ?_ ?_
     ·(conv=>whnf);repeat (first|exact trivial|(refine sI ?_;conv=>whnf))
      refine And.intro (by simp) ?_;(conv=>whnf);repeat (first|exact trivial|(refine sI ?_;conv=>whnf))
      refine And.intro (congrArg (DV.int .i64) ((wrap64 (by simp<;>omega) (by simp<;>omega)).trans (by simp only[List.length_append,List.length_map,List.length_singleton];omega))) ?_;exact sZ
     rintro⟨n,y⟩ ⟨Hc,jc⟩ Am;simp only at Hc jc;refine I.head ab F76 2000 ?_;(conv=>whnf);refine ai (fun h8=>?_) (fun h8=>?_)
     ·have An:k<n:=by simpa using h8
      obtain⟨z,hz⟩:=aG (l:=A) (k:=n-1) (by omega);have o5:IntKind.i64.wrap ((n:Int)-1)=((n-1:Nat):Int):=by rw[wrap64 (by omega) (by omega)];omega
      refine gO F76 ?_;refine aV ⟨by rw[o5];omega,by rw[o5];simp;omega⟩ ?_;refine gO F76 ?_;refine aB (e := .str z) ⟨by omega,by rw[o5,Int.toNat_natCast,Int.toNat_natCast,List.getElem?_map,List.getElem?_append_left (by simp;omega),List.getElem?_take,if_pos (by omega),hz];rfl⟩ rfl ?_;refine gO F76 ?_;refine aV ⟨by omega,by simp;omega⟩ ?_;refine gO F76 ?_;refine aB (e := .str y) ⟨by omega,by simp[List.getElem?_append_right,List.length_take,Nat.min_eq_left jc]⟩ rfl ?_;refine gO F76 ?_;refine gO F76 ?_;refine I.back (Am (n-1,z) ⟨by simp only;omega,by simp only;omega⟩ (by simp only;omega)) ?_;(conv=>whnf);repeat (first|exact trivial|(refine sI ?_;conv=>whnf))
      refine And.intro (M5 hz (by omega)) ?_;exact sZ
     ·have An : n=k := by have : n <= k := by simpa using h8
                          omega
      subst An;refine gO F76 ?_;refine aV ⟨by omega,by simp;omega⟩ ?_;refine gO F76 ?_;refine aB (e := .str y) ⟨by omega,by simp[List.getElem?_append_right,List.length_take,Nat.min_eq_left jc]⟩ rfl ?_;refine gO F76 ?_;refine gO F76 ?_;refine I.back (IH (i+1) (by omega) (by omega)) ?_;rw[aF];(conv=>whnf);repeat (first|exact trivial|(refine sI ?_;conv=>whnf))
      refine And.intro (G8 jc) ?_;exact sZ
  ·have xL:A.length<=k:=by simpa using h6
   have Nf:A[k]?=none:=List.getElem?_eq_none xL;obtain⟨bK,Hb⟩:=M0 hS hk kc (fun x hx=>by rw[Nf]at hx;cases hx) (by rw[Nf];simp);rw[Hb]at aF;refine gO F76 ?_;refine aR ?_;refine gO F76 ?_;refine aW (by simpa using xL) ?_;refine gO F76 ?_;refine aR ?_;refine gO F76 ?_;refine aV ⟨by simp;omega,by simp[DV.cells]⟩ ?_;refine gO F76 ?_;refine I.loop (κ:=Nat × Text) [7,54,55,56,57,58,59,60,61,62,63,64,65,66] (fun x=>[(7,.d (.int .i64 x.1)),(3,.own 0 2)]) (fun x=>[(0,.arr 2 (9,1) ((A.take x.1++x.2::A.drop x.1).map .str))]) (fun x=>k<=x.1/\x.1<=A.length) (fun x=>x.1-k) (A.length,c.aw.aj) ⟨hk,Nat.le_refl _⟩ ?_ ?_
   ·(conv=>whnf);repeat (first|exact trivial|(refine sI ?_;conv=>whnf))
    refine And.intro (by simp) ?_;(conv=>whnf);repeat (first|exact trivial|(refine sI ?_;conv=>whnf))
    refine And.intro (congrArg (DV.int .i64) ((wrap64 (by simp<;>omega) (by simp<;>omega)).trans (by simp only[List.length_append,List.length_map,List.length_singleton];omega))) ?_;exact sZ
   rintro⟨n,y⟩ ⟨Hc,jc⟩ Am;simp only at Hc jc;refine I.head ab F76 2000 ?_;(conv=>whnf);refine ai (fun h8=>?_) (fun h8=>?_)
   ·have An:k<n:=by simpa using h8
    obtain⟨z,hz⟩:=aG (l:=A) (k:=n-1) (by omega);have o5:IntKind.i64.wrap ((n:Int)-1)=((n-1:Nat):Int):=by rw[wrap64 (by omega) (by omega)];omega
    refine gO F76 ?_;refine aV ⟨by rw[o5];omega,by rw[o5];simp;omega⟩ ?_;refine gO F76 ?_;refine aB (e := .str z) ⟨by omega,by rw[o5,Int.toNat_natCast,Int.toNat_natCast,List.getElem?_map,List.getElem?_append_left (by simp;omega),List.getElem?_take,if_pos (by omega),hz];rfl⟩ rfl ?_;refine gO F76 ?_;refine aV ⟨by omega,by simp;omega⟩ ?_;refine gO F76 ?_;refine aB (e := .str y) ⟨by omega,by simp[List.getElem?_append_right,List.length_take,Nat.min_eq_left jc]⟩ rfl ?_;refine gO F76 ?_;refine gO F76 ?_;refine I.back (Am (n-1,z) ⟨by simp only;omega,by simp only;omega⟩ (by simp only;omega)) ?_;(conv=>whnf);repeat (first|exact trivial|(refine sI ?_;conv=>whnf))
    refine And.intro (M5 hz (by omega)) ?_;exact sZ
   ·have An : n=k := by have : n <= k := by simpa using h8
                        omega
    subst An;refine gO F76 ?_;refine aV ⟨by omega,by simp;omega⟩ ?_;refine gO F76 ?_;refine aB (e := .str y) ⟨by omega,by simp[List.getElem?_append_right,List.length_take,Nat.min_eq_left jc]⟩ rfl ?_;refine gO F76 ?_;refine gO F76 ?_;refine I.back (IH (i+1) (by omega) (by omega)) ?_;rw[aF];(conv=>whnf);repeat (first|exact trivial|(refine sI ?_;conv=>whnf))
    refine And.intro (G8 jc) ?_;exact sZ
 ·have aA:l.length<=i:=by simpa using h5
  rw[List.take_of_length_le (by omega)]at hA;refine gO F76 ?_;rw[hA]
theorem Wm{z:aX}(h:eB z=true):Nm.valid z.aj=true:=by
 simp only[eB,oe,Bool.and_eq_true]at h;simp_all
theorem Wn{l:List aY}{i k:Nat}{c d:aY}(hc:l[i]?=some c)(hd:l[k]?=some d)(hk:k<i)(h:d.host=c.host/\d.aw.aj=c.aw.aj/\d.cu<c.upto/\c.cu<d.upto):¬ l.Pairwise oq:=fun hp=>by
 obtain⟨p1,e1⟩:=List.getElem?_eq_some_iff.1 hc;obtain⟨p2,e2⟩:=List.getElem?_eq_some_iff.1 hd;have:=List.pairwise_iff_getElem.1 hp k i p2 p1 hk;rw[e1,e2]at this;exact this (by simp[aY.spot,h.1,h.2.1]) h.2.2
theorem Wo{α:Type}{R:α->α->Prop}{l:List α}{i:Nat}{x:α}(h:(l.take i).Pairwise R)(hx:l[i]?=some x)(hn:∀ m y,m<i->l[m]?=some y->R y x):(l.take (i+1)).Pairwise R:=by
 rw[cK hx,List.pairwise_append];refine⟨h,by simp,fun a ha b hb=>?_⟩;simp at hb;subst hb;obtain⟨m,hm⟩:=List.getElem?_of_mem ha;rw[List.getElem?_take]at hm;split at hm
 ·rename_i kF;exact hn m a kF hm
 ·cases hm
theorem Wp(h:bZ)(hf:h.Fits)(dz:h.aE.length<=1000000)(fM:h.hints.length<=1000000):aq E 29 [h.enc] (· = .bool (gz h)):=by
 obtain⟨aC,aE,anchor,hints,bN,fin⟩:=h;obtain⟨gw,jd,Ak,Al⟩:=hf;simp only at gw jd Ak Al dz fM;show aq E _ [DV.agg [.sl (aC.map Host.enc),.sl (aE.map aY.enc),.str anchor.name,.int .i64 anchor.type,.int .i64 anchor.cy,.sl (anchor.data.map Datum.enc),.sl (hints.map (.int .i64)),.int .i64 bN,.int .i64 fin]] _;refine eP F29 ?_;repeat' (first|with_reducible(first|refine ao (MY aC gw) ?_|refine au (MY aC gw) ?_|refine ao (MZ anchor hints jd fM) ?_|refine au (MZ anchor hints jd fM) ?_|refine cY ?_|refine cN ?_|refine ai (fun _=>?_) (fun _=>?_))|refine gA F29 ?_|refine gB ?_|with_reducible rfl)
 all_goals try (congr 1;simp_all[gz];done)
 all_goals try (congr 1;simp_all[gz];omega;done)
 rename_i h1 h2 h3 h4 h5 h6 h7;have fA:1<=fin/\fin<=10000000/\0<=bN/\bN<=1000/\aE.length<=4000:=by simp at h3 h4 h5 h6 h7;omega
 have hw:(gy aC&&kh anchor hints)=true:=by simp_all
 have bH:gz ⟨aC,aE,anchor,hints,bN,fin⟩=(aE.all (kU aC.length fin)&&decide (aE.Pairwise oq)&&decide (vt aE<=500)):=by
  simp only[gz,hw];simp[fA.1,fA.2.1,fA.2.2.1,fA.2.2.2.1,fA.2.2.2.2,Bool.and_assoc]
 rw[bH];clear bH h1 h2 h3 h4 h5 h6 h7 hw;refine gO F29 ?_;refine I.loop (κ:=Nat) (rg 2 5++rg 45 86) (fun k=>[(3,.d (.int .i64 k)),(2,.d (.bool false))]) (fun _=>[]) (fun k=>k<=aE.length/\(aE.take k).all (kU aC.length fin)=true/\(aE.take k).Pairwise oq) (fun k=>aE.length-k) 0 ⟨Nat.zero_le _,rfl,by simp⟩ ?_ ?_
 ·exact sZ
 rintro i ⟨hi,aJ,Hd⟩ IH;refine I.head ab F29 2000 ?_;(conv=>whnf);refine ai (fun h5=>?_) (fun h5=>?_)
 ·have ah:i<aE.length:=by simpa using h5
  obtain⟨c,hc⟩:=aG ah;have nd:=Al c (List.mem_of_getElem? hc);refine gO F29 ?_;refine aB (e:=c.enc) (aN hc) rfl ?_;refine gO F29 ?_;repeat' (first|with_reducible(first|refine ao (GH c.aw nd) ?_|refine au (GH c.aw nd) ?_|refine cY ?_|refine cN ?_|refine ai (fun _=>?_) (fun _=>?_))|refine gA F29 ?_|refine gB ?_|with_reducible rfl)
  all_goals try (have bK:kU aC.length fin c=false:=by(simp_all[kU]<;>omega))
  all_goals try (rw[di hc bK];simp;done)
  rename_i h1 h2 h3 h4 h5 h6;have aM:kU aC.length fin c=true:=by simp_all[kU]
  refine gO F29 ?_;refine I.loop (κ:=Nat) ([2,5,6]++rg 93 38) (fun k=>[(5,.d (.int .i64 k)),(2,.d (.bool false))]) (fun _=>[]) (fun k=>k<=i/\∀ m d,m<k->aE[m]?=some d->oq d c) (fun k=>i-k) 0 ⟨Nat.zero_le _,fun m y h=>by omega⟩ ?_ ?_
  ·exact sZ
  rintro k ⟨hk,aI⟩ oZ;refine I.head ab F29 2000 ?_;(conv=>whnf);refine ai (fun h6=>?_) (fun h6=>?_)
  ·have lO:k<i:=by simpa using h6
   obtain⟨d,hd⟩:=aG (l:=aE) (k:=k) (by omega);refine gO F29 ?_;refine aB (e:=d.enc) (aN hd) rfl ?_;refine gO F29 ?_;repeat' (first|with_reducible(first|refine cY ?_|refine cN ?_|refine ai (fun _=>?_) (fun _=>?_))|refine gA F29 ?_|refine gB ?_|with_reducible rfl)
   all_goals try
    (have qh := Wn hc hd lO (by(simp_all<;>omega))
     simp[qh];done)
   all_goals
    have xO:oq d c:=fun e=>by
     simp only[aY.spot,Prod.mk.injEq]at e;simp_all;try (intros;omega)
    refine gO F29 ?_;refine I.back (oZ (k+1) ⟨by omega,fun m z hm hz=>?_⟩ (by omega)) ?_
    ·by_cases lQ:m=k
     ·subst lQ;rw[hd]at hz;cases hz;exact xO
     ·exact aI m z (by omega) hz
    ·exact sZ
  ·have xL:i<=k:=by simpa using h6
   refine gO F29 ?_;refine I.back (IH (i+1) ⟨by omega,dw aJ hc aM,Wo Hd hc (fun m z hm hz=>aI m z (by omega) hz)⟩ (by omega)) ?_;exact sZ
 ·have aA:aE.length<=i:=by simpa using h5
  rw[List.take_of_length_le aA]at aJ Hd;have Wq:∀ c∈aE,c.aw.aj.length<=1000:=fun c hc=>by
   have h1:=List.all_eq_true.1 aJ c hc;simp only[kU,Bool.and_eq_true]at h1;have:=dO (Wm h1.2);omega
  refine gO F29 ?_
  with_reducible refine ao (Wj aE dz Wq) ?_
  refine gO F29 ?_;simp only[aJ,Hd,decide_true,Bool.true_and,vt,M4,List.length_map]
  congr 2
  simp;omega
end Go.Proofs.YtfmdaiojokniiaaGreatDoor.P
end
