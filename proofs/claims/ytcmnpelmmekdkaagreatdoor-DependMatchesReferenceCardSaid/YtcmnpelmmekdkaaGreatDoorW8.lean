/- Lemmas of mine. Conditions: as stated. -/
import Derived.Test.YtcmnpelmmekdkaaGreatDoorW5
import Derived.Test.YtcmnpelmmekdkaaGreatDoorW6
import Derived.Test.YtcmnpelmmekdkaaGreatDoorW7
set_option linter.unusedVariables false
set_option linter.unusedSimpArgs false
section
namespace Go.Proofs.YtcmnpelmmekdkaaGreatDoor.P
open Go Go.aA
set_option maxRecDepth 100000
set_option maxHeartbeats 4000000
theorem XX(l:List DV)(hl:l.length<=2147483648)(hc:∀ e∈l,e.cells.length=3):au E 147 [.sl l] (· = .sl l):=by
 by_cases h:l=[]
 ·subst h;refine au.norm ?_;refine eP F147 ?_;refine aa.vH ag rfl rfl rfl rfl (bg rfl) (fun b hb=>?_);cases b
  ·refine gO F147 ?_;refine aY ?_;refine gO F147 ?_;refine bA ⟨by decide,fun e he=>by cases he⟩ ?_;refine gO F147 ?_;rfl
  ·refine gO F147 ?_;refine bp ?_;refine gO F147 ?_;rfl
 ·refine eP F147 ?_;refine aa.vH ag rfl rfl rfl rfl (bg rfl) (fun b hb=>?_);obtain rfl:b=false:=by
   cases b
   ·rfl
   ·exact absurd (hb rfl) h
  refine gO F147 ?_;refine aY ?_;refine gO F147 ?_;refine bA ⟨by simp;omega,hc⟩ ?_;refine gO F147 ?_;rfl
theorem XY(l:List DV)(hl:l.length<=2147483648)(hc:∀ e∈l,e.cells.length=6):au E 148 [.sl l] (· = .sl l):=by
 by_cases h:l=[]
 ·subst h;refine au.norm ?_;refine eP F148 ?_;refine aa.vH ag rfl rfl rfl rfl (bg rfl) (fun b hb=>?_);cases b
  ·refine gO F148 ?_;refine aY ?_;refine gO F148 ?_;refine bA ⟨by decide,fun e he=>by cases he⟩ ?_;refine gO F148 ?_;rfl
  ·refine gO F148 ?_;refine bp ?_;refine gO F148 ?_;rfl
 ·refine eP F148 ?_;refine aa.vH ag rfl rfl rfl rfl (bg rfl) (fun b hb=>?_);obtain rfl:b=false:=by
   cases b
   ·rfl
   ·exact absurd (hb rfl) h
  refine gO F148 ?_;refine aY ?_;refine gO F148 ?_;refine bA ⟨by simp;omega,hc⟩ ?_;refine gO F148 ?_;rfl
structure aP.gY(z:aP):Prop where
 ab:z.ab.length<=2147483648
 each:∀ s∈z.ab,s.set.data.length<=2147483648/\s.sigs.length<=2147483648
theorem Hw{z:aP}(h:eT z=true):z.gY:=by
 simp only[eT,Bool.and_eq_true]at h;obtain⟨h1,h2,h3,h4,h5⟩:=h;obtain⟨q1,q2,q3⟩:=vC h1;refine⟨by omega,fun s hs=>⟨?_,?_⟩⟩
 ·have:=q2 s hs;simp only[fH,Bool.and_eq_true]at this;have:=rD this.1;omega
 ·obtain⟨i,hi⟩:=List.getElem?_of_mem hs;have ai:=aX hi;obtain⟨o,ho⟩:=bd (l:=rJ z) (k:=i) (by rw[GZ];exact ai);have hm:(s,o)∈z.ab.zip (rJ z):=List.mem_of_getElem? (i:=i) (by rw[List.getElem?_zip_eq_some];exact⟨hi,ho⟩);have h6:=List.all_eq_true.1 h5 _ hm;simp only[vB,nZ,Bool.and_eq_true,decide_eq_true_eq]at h6;omega
theorem XZ{z:aP}(hg:z.Good)(h:xw z=true):z.Fits/\z.gY/\z.Aa:=by
 simp only[xw,Bool.and_eq_true,decide_eq_true_eq]at h;obtain⟨h1,h2⟩:=h;rw[List.take_of_length_le (by omega)]at h1;have he:∀ s∈z.ab,s.set.data.length<=20/\s.sigs.length<=20:=fun s hs=>by
  have:=List.all_eq_true.1 h1 s hs;simp[xv]at this;omega
 refine⟨⟨hg.1,fun s hs=>⟨((hg.2.2 s hs).1).1,by have:=he s hs;omega,fun d hd=>(((hg.2.2 s hs).1).2.2.2.2 d hd).1⟩⟩,⟨by omega,fun s hs=>by have:=he s hs;omega⟩,⟨by omega,fun s hs=>⟨by have:=he s hs;omega,by have:=he s hs;omega⟩⟩⟩
theorem X0{α:Type}{l:List α}{k:Nat}(h:k<l.length):∃ x,l[k]?=some x:=⟨l[k],by simp⟩
def iV(z:aP):Int:=match z.ab[(aq z.ab ⟨z.ad,4⟩).toNat]? with
 |some s=>(match s.set.data[0]? with|some d=>d.n|none=>0)
 |none=>0
theorem OP{i j:Nat}(h:i+j<=4294967296):IntKind.i64.wrap (qS .shr .u64 (IntKind.u64.wrap (IntKind.i64.wrap ((i:Int)+j))) (Int.toNat 1))=(((i+j) / 2:Nat):Int):=NR h
theorem Hy{z:aP}(h:eT z=true):∃ (k:Nat) (s:Signed) (d:Datum),aq z.ab ⟨z.ad,4⟩=k/\z.ab[k]?=some s/\cC ⟨z.ad,4⟩ s=true/\s.set.data[0]?=some d/\iV z=d.n:=by
 have h0:=h;simp only[eT,Bool.and_eq_true]at h;obtain⟨h1,h2,h3,h4,h5⟩:=h;simp only[rH,Bool.and_eq_true,Bool.not_eq_true',decide_eq_false_iff_not]at h2;have h6:=h2.1.1;cases hf:z.ab.findIdx? (cC ⟨z.ad,4⟩)with
 |none=>simp[aq,hf]at h6
 |some k =>
  obtain⟨hk,hq,_⟩:=List.findIdx?_eq_some_iff_getElem.1 hf;have hs:z.ab[k]?=some z.ab[k]:=List.getElem?_eq_getElem hk;obtain⟨q1,q2,q3⟩:=vC h1;have aN:=q2 z.ab[k] (List.getElem_mem hk);simp only[fH,Bool.and_eq_true]at aN;have hl:=rD aN.1;obtain⟨d,hd⟩:=X0 (l:=z.ab[k].set.data) (k:=0) (by omega);have e:aq z.ab ⟨z.ad,4⟩=k:=by simp[aq,hf]
  exact⟨k,z.ab[k],d,e,hs,hq,hd,by simp[iV,e,hs,hd]⟩
theorem X1(z:aP)(hf:z.Fits)(h:eT z=true):au E 88 [z.enc] (· = .aJ [.int .i64 (iV z),.int .i64 0]):=by
 have c1:=Hd z hf;rw[h]at c1;obtain⟨k,s,d,e1,e2,e3,e4,e5⟩:=Hy h;have cj:n' z=true:=by simp only[eT,Bool.and_eq_true]at h;exact h.1
 obtain⟨f1,f2,_⟩:=Hc cj;obtain⟨g1,_,g3⟩:=vC cj;have c2:=C2 z ⟨z.ad,4⟩ (by omega) f2 g3 f1;obtain⟨za,zs⟩:=z;simp only at e1 e2 e3 c2;show au E _ [DV.agg [.str za,.sl (zs.map Signed.enc)]] _;refine eP Tryz.func88 ?_;refine aj (c1) ?_;refine gO Tryz.func88 ?_;refine aY ?_;refine gO Tryz.func88 ?_;refine uP c2 ?_;rintro r ⟨i,_,rfl,hi⟩;obtain rfl:=hi k s e2 e3;refine gO Tryz.func88 ?_;refine aC (e:=s.enc) (aS e2) rfl ?_;refine gO Tryz.func88 ?_;refine aC (e:=d.enc) (ta e4) rfl ?_;refine gO Tryz.func88 ?_;rw[e5]
theorem OQ(z:aP)(h:eT z=true):au E 48 [z.enc] (· = .int .i64 (iV z)):=by
 obtain⟨k,s,d,e1,e2,e3,e4,e5⟩:=Hy h;have hl:z.ab.length<=2147483648:=(Hw h).ab;have c1:=vz z ⟨z.ad,4⟩ hl;rw[e1]at c1;obtain⟨za,zs⟩:=z;show au E _ [DV.agg [.str za,.sl (zs.map Signed.enc)]] _;refine eP Tryz.func48 ?_;refine aa.draw ag bN 14 2000 (by kernel_rfl) ?_;(conv=>whnf);refine bj (c1) ?_;refine gD ?_;refine aC (e:=s.enc) (aS e2) rfl ?_;refine gD ?_;refine aC (e:=d.enc) (ta e4) rfl ?_;refine gD ?_;refine gS ?_;refine gO Tryz.func48 ?_;rw[e5]
end Go.Proofs.YtcmnpelmmekdkaaGreatDoor.P
end
section
namespace Go.Proofs.YtcmnpelmmekdkaaGreatDoor.P
open Go Go.aA
theorem OR{C H:List Text}(hA:jf H)(hP:tn H)(rM:∀ d∈H,d∈C)(xI:∀ c∈C,∃ d∈H,Nm.under c d=true)(aH:∀ c∈C,c≠[]) :
  ∀ (rest done:List Text) (cut:Text) (k:Nat),jf (done++rest)->(∀ c∈C,c∈done++rest)->k<=H.length->(match done.getLast? with|none=>cut=[]|some p=>rL H p cut)->(∀ m d,m<k->H[m]?=some d->∃ p,done.getLast?=some p/\bq d p<=0)->∀ (i:Nat) (n r:Text),rest[i]?=some n->(ng H k rest)[i]?=some r->rL H n r
 |[],_,_,_,_,_,_,_,_=>fun i n r h=>by simp at h
 |n::rest,done,cut,k,rN,aW,hk,hcut,lJ=>by
  have xJ:∀ p,done.getLast?=some p->bq p n<=0:=fun p hp=>by
   have hl:0<done.length:=by cases done with|nil=>simp at hp|cons=>simp
   rw[List.getLast?_eq_getElem?]at hp;exact rN (done.length-1) done.length p n (by omega) (by rw[List.getElem?_append_left (by omega)];exact hp) (by simp)
  have C6:∀ d∈H,bq d n<0->∃ p,done.getLast?=some p/\bq d p<=0:=fun d hd o9=>by
   have:=aW d (rM d hd);obtain⟨i,hi⟩:=List.getElem?_of_mem this;have qP:(done++n::rest)[done.length]?=some n:=by simp
   have ai:i<done.length:=by
    rcases Nat.lt_trichotomy i done.length with h|h|h
    ·exact h
    ·subst h;rw[qP]at hi;cases hi;rw[jE]at o9;omega
    ·have h1:=rN done.length i n d h qP hi;have h2:=tg d n;omega
   rw[List.getElem?_append_left ai]at hi;obtain⟨p,hp⟩:=bd (l:=done) (k:=done.length-1) (by omega);refine⟨p,by rw[List.getLast?_eq_getElem?];exact hp,?_⟩;rcases Nat.lt_or_ge i (done.length-1)with h|h
   ·exact rN i (done.length-1) d p h (by rw[List.getElem?_append_left ai];exact hi) (by rw[List.getElem?_append_left (by omega)];exact hp)
   ·obtain rfl:i=done.length-1:=by omega
    rw[hp]at hi;cases hi;rw[jE];omega
  obtain⟨f2,f3⟩:=N1 hA hP (n:=n) hk (fun m d hm hd=>by
   obtain⟨p,hp,kK⟩:=lJ m d hm hd
   exact C4 kK (xJ p hp))
  have ih:=OR hA hP rM xI aH rest (done++[n]) (mq H n (eR H n k)) (eR H n k) (by simpa using rN) (by simpa using aW) (CO hk) (by simpa using f2) (fun m d hm hd=>⟨n,by simp,f3 m d hm hd⟩);intro i m r hm hr;cases i with
  |zero =>
   simp at hm;subst hm;simp only[ng,List.getElem?_cons_zero,Option.some.injEq]at hr;subst hr;exact f2
  |succ i=>exact ih i m r (by simpa using hm) (by simpa [ng]using hr)
end Go.Proofs.YtcmnpelmmekdkaaGreatDoor.P
end
section
namespace Go.Proofs.YtcmnpelmmekdkaaGreatDoor.P
open Go Go.aA
set_option maxRecDepth 100000
structure qj where
 kind:Int
 ab:List Signed
 cut:Text
 deriving DecidableEq
@[reducible] def qj.enc (a : qj) : DV := .agg [.int .i64 a.kind, .sl (a.ab.map Signed.enc), .str a.cut]
theorem X2{x y:Signed}:nY y.set x.set=0↔cC ⟨x.set.name,x.set.type⟩ y=true:=by
 rw[<- C1,<- xG];show _↔(ob y.set.name y.set.type x.set.name x.set.type==0)=true;simp
theorem xT{l:List Signed}(h:fe l){k:Nat}{x:Signed}(hx:l[k]?=some x):aq l ⟨x.set.name,x.set.type⟩=k :=
 Nb (fun j y hj hy=>by
  have h1:=h j k y x hj hy hx;cases e:cC ⟨x.set.name,x.set.type⟩ y
  ·rfl
  ·rw[X2.2 e]at h1;omega) hx (by simp[cC])
theorem jH{l:List Signed}{q:aM}(h:0<=aq l q):∃ s,l[(aq l q).toNat]?=some s/\cC q s=true:=by
 unfold aq at h ⊢;cases e:l.findIdx? (cC q)with
 |none=>rw[e]at h;simp at h
 |some k =>
  obtain⟨h1,h2,_⟩:=List.findIdx?_eq_some_iff_getElem.1 e;exact⟨l[k],by simp,h2⟩
theorem ga{l:List Signed}{q:aM} : -1<=aq l q/\aq l q<l.length:=by
 unfold aq;cases e:l.findIdx? (cC q)with
 |none=>exact⟨Int.le_refl _,by show(-1:Int)<l.length;omega⟩
 |some k =>
  obtain⟨h1,h2,_⟩:=List.findIdx?_eq_some_iff_getElem.1 e;exact⟨by show(-1:Int)<=(k:Int);omega,by show(k:Int)<l.length;omega⟩
theorem qk{q:aM}{s:Signed}(h:cC q s=true):q=⟨s.set.name,s.set.type⟩:=by
 obtain⟨n,t⟩:=q;simp[cC]at h;rw[h.1,h.2]
def bM(l:List Signed)(ps:List Int):List Signed:=ps.filterMap fun p=>l[p.toNat]?
def du(ps:List Int)(p:Int):List Int:=if p<0\/p∈ps then ps else ps++[p]
def b8(ps:List Int):List Int:=ps.foldl du []
def lL(l:List Signed)(ps:List Int):Prop:=∀ p∈ps,0<=p/\p<l.length
theorem lL.nil{l:List Signed}:lL l []:=fun p hp=>by simp at hp
theorem lL.add{l:List Signed}{ps:List Int}{p:Int}(h:lL l ps)(hp:p<l.length):lL l (du ps p):=by
 unfold du;split
 ·exact h
 ·rename_i hn;intro q hq;rcases List.mem_append.1 hq with hq|hq
  ·exact h q hq
  ·rw[List.mem_singleton.1 hq];exact⟨by omega,hp⟩
theorem AD{ps:List Int}{p:Int}:b8 (ps++[p])=du (b8 ps) p:=by rw[b8,List.foldl_append];rfl
theorem OS{ps:List Int}{k:Nat}{p:Int}(h:ps[k]?=some p):b8 (ps.take (k+1))=du (b8 (ps.take k)) p:=by rw[dW h,AD]
theorem Hz{p:Int}:∀ {ps:List Int},p∈b8 ps↔0<=p/\p∈ps:=by
 have main:∀ (ps acc:List Int),(∀ q∈acc,0<=q)->(p∈ps.foldl du acc↔p∈acc\/(0<=p/\p∈ps)):=by
  intro ps
  induction ps with
  |nil=>intro acc _;simp
  |cons x ps ih =>
   intro acc ha;rw[List.foldl_cons,ih]
   ·unfold du;split
    ·rename_i hx;constructor
     ·rintro(h|h)
      ·exact .inl h
      ·exact .inr ⟨h.1,List.mem_cons_of_mem _ h.2⟩
     ·rintro(h|⟨h1,h2⟩)
      ·exact .inl h
      ·rcases List.mem_cons.1 h2 with rfl|h2
       ·rcases hx with hx|hx
        ·omega
        ·exact .inl hx
       ·exact .inr ⟨h1,h2⟩
    ·rename_i hx;simp only[List.mem_append,List.mem_cons,List.not_mem_nil,or_false];constructor
     ·rintro((h|rfl)|h)
      ·exact .inl h
      ·exact .inr ⟨by omega,.inl rfl⟩
      ·exact .inr ⟨h.1,.inr h.2⟩
     ·rintro(h|⟨h1,h2⟩)
      ·exact .inl (.inl h)
      ·rcases h2 with rfl|h2
       ·exact .inl (.inr rfl)
       ·exact .inr ⟨h1,h2⟩
   ·intro q hq;unfold du at hq;split at hq
    ·exact ha q hq
    ·rename_i hx;rcases List.mem_append.1 hq with hq|hq
     ·exact ha q hq
     ·rw[List.mem_singleton.1 hq];omega
 intro ps;have:=main ps [] (fun q hq=>by simp at hq)
 simpa [b8]using this
theorem X3{l:List Signed}{ps:List Int}(h:∀ p∈ps,p<l.length):lL l (b8 ps):=fun p hp=>by
 obtain⟨h1,h2⟩:=Hz.1 hp;exact⟨h1,h p h2⟩
theorem HE{ps:List Int}:(b8 ps).length<=ps.length:=by
 have main:∀ (ps acc:List Int),(ps.foldl du acc).length<=acc.length+ps.length:=by
  intro ps
  induction ps with
  |nil=>intro acc;simp
  |cons x ps ih =>
   intro acc;rw[List.foldl_cons];refine Nat.le_trans (ih _) ?_;have:(du acc x).length<=acc.length+1:=by unfold du;split<;>simp
   simp;omega
 have:=main ps []
 simpa [b8]using this
theorem AE{l:List Signed}{ps:List Int}:(bM l ps).length<=ps.length:=List.length_filterMap_le ..
theorem OU{l:List Signed}{ps:List Int}{p:Int}{s:Signed}(h0:0<=p)(hs:l[p.toNat]?=some s):bM l (du ps p)=if p∈ps then bM l ps else bM l ps++[s]:=by
 unfold du;by_cases h:p∈ps
 ·rw[if_pos (.inr h),if_pos h]
 ·rw[if_neg (by rintro(e|e);omega;exact h e),if_neg h,bM,List.filterMap_append];simp[bM,hs]
theorem get_mem{l:List Signed}{ps:List Int}{s:Signed}:s∈bM l ps↔∃ p∈ps,l[p.toNat]?=some s:=by simp[bM,List.mem_filterMap]
def gJ(l:List Signed)(n:Text):Bool:=l.any fun s=>Nm.under s.set.name n
def iq(P:Signed->Bool)(l:List Signed):Nat:=(l.takeWhile P).length
theorem xU{P:Signed->Bool}{l:List Signed}:iq P l<=l.length:=by
 unfold iq;exact(List.takeWhile_sublist P).length_le
theorem HJ{P:Signed->Bool}:∀ {l:List Signed} (_:∀ (i j:Nat) (x y:Signed),i<j->l[i]?=some x->l[j]?=some y->P y=true->P x=true) {i:Nat} {x:Signed} (_:l[i]?=some x),P x=true↔i<iq P l
 |[],_,i,x,hx=>by simp at hx
 |a::l,hd,i,x,hx=>by
  unfold iq;rw[List.takeWhile_cons];cases ha:P a
  ·simp only[Bool.false_eq_true,if_false,List.length_nil,Nat.not_lt_zero,iff_false];intro e;cases i with
   |zero=>simp at hx;subst hx;rw[ha]at e;cases e
   |succ i =>
    have:=hd 0 (i+1) a x (by omega) rfl hx e;rw[ha]at this;cases this
  ·rw[if_pos rfl,List.length_cons];cases i with
   |zero=>simp at hx;subst hx;simp[ha]
   |succ i =>
    have:=HJ (P:=P) (l:=l) (fun i j x y h h1 h2=>hd (i+1) (j+1) x y (by omega) h1 h2) (i:=i) (x:=x) (by simpa using hx);unfold iq at this;rw[this];omega
theorem X4{a b c:Text}(h:bq a b<=0)(k:bq b c<0):bq a c<0:=by
 rcases Int.lt_or_eq_of_le h with h|h
 ·exact o7 h k
 ·rw[oa h];exact k
theorem HK{l:List Signed}(hs:fe l){i j:Nat}{x y:Signed}(h:i<j)(hx:l[i]?=some x)(hy:l[j]?=some y):bq x.set.name y.set.name<=0:=Hb (hs i j x y h hx hy)
def ji(n:Text)(s:Signed):Bool:=decide (bq s.set.name n<0)
def iK(n:Text)(s:Signed):Bool:=decide (bq s.set.name n<=0)
theorem lt_iff{l:List Signed}(hs:fe l){n:Text}{i:Nat}{x:Signed}(hx:l[i]?=some x):bq x.set.name n<0↔i<iq (ji n) l:=by
 rw[<- HJ (P:=ji n) (fun i j x y h h1 h2 h3=>by
  simp only[ji,decide_eq_true_eq]at h3 ⊢
  exact X4 (HK hs h h1 h2) h3) hx]
 simp[ji]
theorem le_iff{l:List Signed}(hs:fe l){n:Text}{i:Nat}{x:Signed}(hx:l[i]?=some x):bq x.set.name n<=0↔i<iq (iK n) l:=by
 rw[<- HJ (P:=iK n) (fun i j x y h h1 h2 h3=>by
  simp only[iK,decide_eq_true_eq]at h3 ⊢
  exact C4 (HK hs h h1 h2) h3) hx]
 simp[iK]
theorem X5{l:List Signed}(hs:fe l){n:Text}:gJ l n=match l[iq (ji n) l]? with
  |some s=>Nm.under s.set.name n
  |none=>false:=by
 rw[Bool.eq_iff_iff];constructor
 ·intro h;obtain⟨x,hx,hu⟩:=List.any_eq_true.1 h;obtain⟨j,hj⟩:=List.getElem?_of_mem hx;have h1:=Ak hu;have h2:¬ bq x.set.name n<0:=by rw[tg];omega
  have h3:iq (ji n) l<=j:=by have:=(lt_iff hs (n:=n) hj);omega
  obtain⟨s,iF⟩:=bd (l:=l) (k:=iq (ji n) l) (by have:=(List.getElem?_eq_some_iff.1 hj).1;omega);rw[iF];show Nm.under s.set.name n=true;rcases Nat.lt_or_eq_of_le h3 with h3|h3
  ·have h4:¬ bq s.set.name n<0:=fun e=>by have:=(lt_iff hs (n:=n) iF).1 e;omega
   exact xF (by rw[tg];omega) (HK hs h3 iF hj) hu
  ·rw[<- h3,iF]at hj;cases hj;exact hu
 ·intro h;cases e:l[iq (ji n) l]? with
  |none=>rw[e]at h;cases h
  |some s=>rw[e]at h;exact List.any_eq_true.2 ⟨s,List.mem_of_getElem? e,h⟩
def fI(P:Nat->Bool):Nat->Int
 |0 => -1
 |n+1=>if P n then(n:Int)else fI P n
theorem OV{P:Nat->Bool}:∀ {n:Nat},-1<=fI P n/\fI P n<n
 |0=>by simp[fI]
 |n+1=>by
  have:=OV (P:=P) (n:=n);rw[fI];split<;>omega
theorem OW{P:Nat->Bool}:∀ {n:Nat},0<=fI P n->P (fI P n).toNat=true
 |0,h=>by simp[fI]at h
 |n+1,h=>by
  rw[fI]at h ⊢;split
  ·rename_i hp;simpa using hp
  ·rename_i hp;rw[if_neg hp]at h;exact OW h
theorem OX{P Q:Nat->Bool}:∀ {n:Nat},(∀ i,i<n->P i=Q i)->fI P n=fI Q n
 |0,_=>rfl
 |n+1,h=>by rw[fI,fI,h n (by omega),OX fun i hi=>h i (by omega)]
theorem OY{P:Nat->Bool}{n:Nat}:∀ {d:Nat},(∀ i,n<=i->P i=false)->fI P (n+d)=fI P n
 |0,_=>rfl
 |d+1,h=>by
  rw[show n+(d+1)=n+d+1 by omega,fI,h (n+d) (by omega),if_neg (by decide),OY h]
def rQ(l:List Signed)(i:Nat):Bool:=match l[i]? with
 |some s=>s.set.type==8
 |none=>false
def ql(l:List Signed)(n:Text)(i:Nat):Bool:=match l[i]? with
 |some s=>s.set.type==8&&decide (bq s.set.name n<=0)
 |none=>false
def cK(l:List Signed)(n:Text):Int:=fI (rQ l) (iq (iK n) l)
theorem X6{l:List Signed}(hs:fe l){n:Text}:fI (ql l n) l.length=cK l n:=by
 have hle:=xU (P:=iK n) (l:=l);have e:l.length=iq (iK n) l+(l.length-iq (iK n) l):=by omega
 rw[e,OY (fun i hi=>?_),cK]
 ·refine OX fun i hi=>?_;unfold ql rQ;cases h:l[i]? with
  |none=>rfl
  |some s =>
   have:=(le_iff hs (n:=n) h).2 hi;simp[this]
 ·unfold ql;cases h:l[i]? with
  |none=>rfl
  |some s =>
   have:¬ bq s.set.name n<=0:=fun e=>by have:=(le_iff hs (n:=n) h).1 e;omega
   simp[this]
theorem tA{l:List Signed}{n:Text} : -1<=cK l n/\cK l n<l.length:=by
 have h1:=OV (P:=rQ l) (n:=iq (iK n) l);have h2:=xU (P:=iK n) (l:=l);unfold cK;omega
theorem X7{l:List Signed}{n:Text}(h:0<=cK l n):∃ s,l[(cK l n).toNat]?=some s/\s.set.type=8:=by
 have h2:rQ l (cK l n).toNat=true:=OW h;unfold rQ at h2;cases e:l[(cK l n).toNat]? with
 |none=>rw[e]at h2;cases h2
 |some s=>rw[e]at h2;exact⟨s,rfl,by simpa using h2⟩
def fQ(L:List Text):Text:=if L=[]then[46]else Nm.glue L
theorem rR(s:Text):fQ (Nm.labels s)=s:=by
 unfold fQ Nm.labels;by_cases h:s=[46]
 ·rw[if_pos h,if_pos rfl,h]
 ·rw[if_neg h,if_neg (Nm.nT s),Nm.vj]
def kn(l:List Signed):List Text->List Text
 |[]=>[]
 |x::r=>if gJ l (fQ (x::r))then x::r else kn l r
def qm(l:List Signed)(s:Text):Text:=fQ (kn l (Nm.labels s))
def jI(M:List Text):Option Text:=if Nm.parts M&&decide ((fQ M).length<=60)then some (fQ M)else none
def pg(l:List Signed)(s:Text):Option Text:=jI ([42]::kn l (Nm.labels s))
def gZ(z:aP)(n:Text):Option Text:=(bO z.ad z.ab).find? fun c=>Nm.under n c
def ep(l:List Signed)(c:Text):Int:=if aq l ⟨c,6⟩<0 then aq l ⟨c,8⟩else aq l ⟨c,6⟩
def xV(l:List Signed)(c:Text):List Datum:=match l[(aq l ⟨c,2⟩).toNat]? with
 |some s=>s.set.data
 |none=>[]
def lM(l:List Signed)(c:Text):List Int:=((xV l c).filter fun d=>Nm.under d.text c).map fun d=>aq l ⟨d.text,1⟩
def ia(l:List Signed)(c:Text):List Int:=b8 (aq l ⟨c,2⟩::ep l c::lM l c)
def ib(z:aP)(q:aM):qj :=
 if 0<=aq z.ab q then⟨1,bM z.ab [aq z.ab q],[]⟩
 else if 0<=aq z.ab ⟨q.name,3⟩/\q.type≠8 then⟨3,bM z.ab [aq z.ab ⟨q.name,3⟩],[]⟩
 else if gJ z.ab q.name then⟨5,bM z.ab (b8 [aq z.ab ⟨z.ad,4⟩,cK z.ab q.name]),[]⟩
 else match pg z.ab q.name with
  |none=>⟨6,bM z.ab (b8 [aq z.ab ⟨z.ad,4⟩,cK z.ab q.name]),[]⟩
  |some w =>
   if 0<=aq z.ab ⟨w,q.type⟩then⟨2,bM z.ab (b8 [aq z.ab ⟨w,q.type⟩,cK z.ab q.name]),[]⟩
   else if 0<=aq z.ab ⟨w,3⟩/\q.type≠8 then⟨3,bM z.ab (b8 [aq z.ab ⟨w,3⟩,cK z.ab q.name]),[]⟩
   else if gJ z.ab w then⟨5,bM z.ab (b8 [aq z.ab ⟨z.ad,4⟩,cK z.ab q.name,cK z.ab w]),[]⟩
   else⟨6,bM z.ab (b8 [aq z.ab ⟨z.ad,4⟩,cK z.ab q.name,cK z.ab w]),[]⟩
def bU(z:aP)(q:aM):qj :=
 if Nm.under q.name z.ad then
  match gZ z q.name with
  |some c=>if q.name=c/\(q.type=6\/q.type=8)then ib z q else⟨4,bM z.ab (ia z.ab c),c⟩
  |none=>ib z q
 else⟨7,[],[]⟩
def jJ(q:aM):Bool:=Nm.valid q.name&&(decide (1<=q.type)&&decide (q.type<=8))
def kU(z:aP)(q:aM):Int:=if eT z&&jJ q then 0 else 1
def mr(z:aP)(q:aM):qj:=if kU z q=0 then bU z q else⟨0,[],[]⟩
structure ey(z:aP):Prop where
 sorted:fe z.ab
 names:∀ s∈z.ab,Nm.valid s.set.name=true
 ab:∀ s∈z.ab,fa s.set=true
 ad:Nm.valid z.ad=true
 under:∀ s∈z.ab,Nm.under s.set.name z.ad=true
 len:z.ab.length<=20000
 start:0<=aq z.ab ⟨z.ad,4⟩
 db:∀ c∈bO z.ad z.ab,∀ d∈bO z.ad z.ab,∀ n,Nm.under n c=true->Nm.under n d=true->c=d
theorem lN{z:aP}(h:eT z=true):ey z:=by
 have h0:=h;simp only[eT,Bool.and_eq_true]at h;obtain⟨h1,-,-,h4,-⟩:=h;obtain⟨hs,hv,hn⟩:=Hc h1;obtain⟨hl,aN,AF⟩:=vC h1;have aH:∀ s∈z.ab,s.set.name≠[]:=fun s h=>(hn s h).1;have hA:=N5 (ad:=z.ad) (C7 hs);obtain⟨g1,g2,g3⟩:=NY _ hA;have OZ:∀ c∈bO z.ad z.ab,c≠[]:=fun c hc=>by
  obtain⟨s,h,rfl,-⟩:=n4 hc;exact aH s h
 have aW:∀ c∈bO z.ad z.ab,c∈([]:List Text)++z.ab.map (·.set.name):=fun c hc=>by
  obtain⟨s,h,rfl,-⟩:=n4 hc
  simpa using⟨s,h,rfl⟩
 have bW:=OR g1 g2 xx g3 OZ (z.ab.map (·.set.name)) [] [] 0 (by simpa using C7 hs) aW (Nat.zero_le _) rfl (fun m d hm=>by omega);have dN:∀ c∈bO z.ad z.ab,c∈fy (bO z.ad z.ab):=fun c hc=>by
  obtain⟨s,X8,rfl,hcut⟩:=n4 hc;obtain⟨i,hi⟩:=List.getElem?_of_mem X8;have ai:=aX hi;obtain⟨b,hb⟩:=bd (l:=je z) (k:=i) (by rw[tc];exact ai);have hF:=bW i s.set.name b (by simp[hi]) hb;obtain⟨d,hd,hu⟩:=g3 _ hc;rcases hF with⟨k1,k2⟩|⟨-,k2⟩
  ·have hz:=List.all_eq_true.1 h4 (s,b) (List.mem_of_getElem? (xz hi hb));have iA:b≠[]:=OZ b (xx b k1);have ht:s.set.type=2:=by
    simp only[iJ,Bool.and_eq_true,beq_iff_eq]at hcut;exact hcut.1
   simp only[qa,Bool.and_eq_true]at hz;have h5:=hz.1.1;simp[iA,ht]at h5;rw[h5];exact k1
  ·rw[k2 d hd]at hu;cases hu
 obtain⟨k,s,d,e1,-⟩:=Hy h0;refine⟨hs,hv,fun s h=>?_,AF,fun s h=>?_,hl,by rw[e1];omega,fun c hc d hd n dS o9=>NZ g1 g2 (dN c hc) (dN d hd) dS o9⟩
 ·have:=aN s h;simp only[fH,Bool.and_eq_true]at this;exact this.1
 ·have:=aN s h;simp only[fH,Bool.and_eq_true]at this;exact this.2
theorem ey.O0{z:aP}(V:ey z):gJ z.ab z.ad=true:=by
 obtain⟨s,h1,h2⟩:=jH V.start;exact List.any_eq_true.2 ⟨s,List.mem_of_getElem? h1,V.under s (List.mem_of_getElem? h1)⟩
end Go.Proofs.YtcmnpelmmekdkaaGreatDoor.P
end
section
namespace Go.Proofs.YtcmnpelmmekdkaaGreatDoor.P
open Go Go.aA
set_option maxRecDepth 100000
set_option maxHeartbeats 4000000
theorem Dc(t:Text):(Nm.back ⟨t.toArray⟩).length=(Nm.labels t).length:=by simp[Nm.back,kf]
theorem X9{t:Text}{i:Nat}{x:Text}(h:(Nm.labels t)[i]?=some x):(Nm.back ⟨t.toArray⟩)[(Nm.labels t).length-1-i]?=some ⟨x.toArray⟩:=by
 have hi:=aX h;simp only[Nm.back,kf,List.getElem?_map];rw[List.getElem?_reverse (by omega),show(Nm.labels t).length-1-((Nm.labels t).length-1-i)=i by omega,h];rfl
def vJ(t:Text):DV:=if Nm.valid t then .aJ [.sl ((Nm.labels t).map .str),.int .i64 0]else .aJ [.a7,.int .i64 11]
theorem O1(t:Text)(ht:t.length<=maxLen):au E 153 [.str t] (· = vJ t):=by
 unfold au;refine⟨⟨_,Tryz.func153,rfl,by decide⟩,fun ak w vs eN _ hv=>?_⟩;obtain⟨hl,hv⟩:=hv;obtain⟨v,rfl⟩:∃ v,vs=[v]:=by
  cases vs with
  |nil=>simp at hl
  |cons v r=>cases r with
   |nil=>exact⟨v,rfl⟩
   |cons u r=>simp at hl
 have:=hv 0 (.str t) v rfl rfl;cases this;cases h:Nm.valid t
 ·refine(WV ⟨t.toArray⟩ w (size_mk ht) (by rw[kf];exact h)).mono fun e w' ⟨h1,h2⟩=>⟨_,vJ t,h1,rfl,?_,h2⟩;simp only[vJ,h]
  exact .aJ _ _ rfl (fun j x v hx hv=>by
   match j with
   |0=>simp at hx hv;subst hx;subst hv;exact .a7
   |1=>simp at hx hv;subst hx;subst hv;exact .int _ _
   |j+2=>simp at hx)
 ·refine(WQ ⟨t.toArray⟩ w (by rw[kf];exact h)).mono fun e w' ⟨B,k,hk,h1,h2,hB,dF⟩=>⟨_,vJ t,h1,rfl,?_,h2⟩;simp only[vJ,h,if_true];refine .aJ _ _ rfl (fun j x v hx hv=>?_)
  match j with
  |0 =>
   simp at hx hv;subst hx;subst hv;cases gX:Nm.labels t with
   |nil =>
    rw[Dc,gX];exact .kZ _
   |cons y ys =>
    have aH:Nm.back ⟨t.toArray⟩≠[]:=by
     intro h0;have:=Dc t;rw[h0,gX]at this;simp at this
    have X':=hk aH;rw[Dc]at X';have e1:(Nm.back ⟨t.toArray⟩).length=((Nm.labels t).map DV.str).length:=by rw[Dc];simp
    rw[e1,<- gX];have cj:∀ (i j:Nat) (e x:DV),((Nm.labels t).map DV.str)[i]?=some e->e.cells[j]?=some x->∃ y,(Nm.labels t)[i]?=some y/\x=.str y/\j=0:=fun i j e x he hx=>by
     simp only[List.getElem?_map,Option.map_eq_some_iff]at he;obtain⟨y,hy,rfl⟩:=he
     match j with
     |0=>simp[DV.cells]at hx;exact⟨y,hy,hx.symm,rfl⟩
     |j+1=>simp[DV.cells]at hx
    refine .sl _ B k _ 1 (fun i _=>match (Nm.labels t)[i]? with|some y => .string ⟨y.toArray⟩|none=>undef) (fun _ hb=>by have:=eN B hb;omega) (by omega) (Nat.le_refl _) (fun i e he=>?_) (fun i j e x he hx=>?_) (fun i j e x he hx=>?_) (fun i j e x he hx=>?_)
    ·simp only[List.getElem?_map,Option.map_eq_some_iff]at he;obtain⟨y,hy,rfl⟩:=he;rfl
    ·obtain⟨y,hy,rfl,rfl⟩:=cj i j e x he hx;have hi:=aX hy;have:=dF _ _ (X9 hy);simp only[hy];rw[show k+(i*1+0)=7-((Nm.labels t).length-1-i) by omega];exact this
    ·obtain⟨y,hy,rfl,rfl⟩:=cj i j e x he hx;simp only[hy];exact .str y
    ·obtain⟨y,hy,rfl,rfl⟩:=cj i j e x he hx;simp only[hy];rfl
  |1=>simp at hx hv;subst hx;subst hv;exact .int _ _
  |j+2=>simp at hx
def vK(t:Text):Bool:=Nm.valid t&&rG t
theorem O2(t:Text)(ht:t.length<=maxLen):au E 106 [.str t] (· = .bool (vK t)):=by
 have mu:=O1 t ht;unfold vJ at mu;cases h:Nm.valid t
 ·simp only[h,Bool.false_eq_true,if_false]at mu;refine eP F106 ?_
  with_reducible refine aj (mu) ?_
  refine gO F106 ?_;refine aY ?_;refine gO F106 ?_;simp[vK,h]
 ·simp only[h,if_true]at mu;refine eP F106 ?_
  with_reducible refine aj (mu) ?_
  refine gO F106 ?_;cases hl:Nm.labels t with
  |nil =>
   refine aO rfl ?_;refine gO F106 ?_;simp[vK,rG,h,hl]
  |cons y ys =>
   have hy:(y::ys)[0]?=some y:=rfl;refine aI (by simp) ?_;refine gO F106 ?_;refine aC (e := .str y) (ta hy) rfl ?_;refine gO F106 ?_;simp[vK,rG,h,hl]
def kp(n:Int):Bool:=decide (1<=n)&&decide (n<=1000000)
theorem HO(n:Int):au E 107 [.int .i64 n] (· = .bool (kp n)):=by
 refine eP Tryz.func107 ?_;repeat' (first|with_reducible(first|refine cY ?_|refine cN ?_|refine ar (fun _=>?_) (fun _=>?_))|refine gA Tryz.func107 ?_|refine gB ?_|refine gC ?_|with_reducible rfl)
 all_goals (simp_all[kp]<;>omega)
theorem Dd(a b:Int):eW (.int .i64 a) (.int .i64 b)=(a==b):=rfl
def xW(es:List (DV × DV)):Prop:=∀ p∈es,∃ s,p.1=DV.int .i64 s
theorem O3{n:Int}{v:DV}:∀ {es:List (DV × DV)},xW es->xW (cx (.int .i64 n) v es)
 |[],_,p,hp=>by simp[cx]at hp;subst hp;exact⟨_,rfl⟩
 |q::es,h,p,hp=>by
  unfold cx at hp;split at hp
  ·rcases List.mem_cons.1 hp with rfl|hp
   ·exact⟨_,rfl⟩
   ·exact h p (List.mem_cons_of_mem _ hp)
  ·rcases List.mem_cons.1 hp with rfl|hp
   ·exact h _ (List.mem_cons_self ..)
   ·exact O3 (fun r hr=>h r (List.mem_cons_of_mem _ hr)) p hp
theorem O4{n m:Int}{v:DV}:∀ {es:List (DV × DV)},xW es->findD (.int .i64 m) (cx (.int .i64 n) v es)=if m==n then some v else findD (.int .i64 m) es
 |[],_=>by simp[cx,findD,Dd]
 |q::es,h=>by
  obtain⟨s,hs⟩:=h q (List.mem_cons_self ..);obtain⟨q1,q2⟩:=q;simp only at hs;subst hs;unfold cx;simp only[Dd];by_cases e:n=s
  ·subst e;simp only[beq_self_eq_true,if_true,findD,Dd];by_cases e2:m=n
   ·simp[e2]
   ·simp[e2]
  ·have ih:=O4 (n:=n) (m:=m) (v:=v) (es:=es) (fun r hr=>h r (List.mem_cons_of_mem _ hr));have e':(n==s)=false:=by simpa using e
   simp only[e',Bool.false_eq_true,if_false,findD,Dd,ih];by_cases e2:m=s
   ·subst e2;have:(m==n)=false:=by simpa using fun h=>e h.symm
    simp[this]
   ·simp[e2]
def mv(x:Host):Bool:=Nm.valid x.name && !vK x.name&&decide (0<=x.owner)&&decide (x.owner<32)&&kp x.addr
def jk(l:List Host):Bool:=decide (l.length<=64)&&l.all mv&&decide ((l.map (·.addr)).Nodup)
def vL(l:List Host):List (DV × DV):=l.foldl (fun es x=>cx (.int .i64 x.addr) (.bool true) es) []
theorem Ya{l:List Host}{k:Nat}{x:Host}(h:l[k]?=some x):vL (l.take (k+1))=cx (.int .i64 x.addr) (.bool true) (vL (l.take k)):=by
 rw[dW h,vL,List.foldl_append];rfl
theorem O5(l:List Host):xW (vL l)/\∀ n,findD (.int .i64 n) (vL l)=if n∈l.map (·.addr)then some (.bool true)else none:=by
 have main:∀ (l:List Host) (es:List (DV × DV)) (C:List Int),xW es->(∀ n,findD (.int .i64 n) es=if n∈C then some (.bool true)else none) ->
   xW (l.foldl (fun es x=>cx (.int .i64 x.addr) (.bool true) es) es)/\∀ n,findD (.int .i64 n) (l.foldl (fun es x=>cx (.int .i64 x.addr) (.bool true) es) es)=if n∈C++l.map (·.addr)then some (.bool true)else none:=by
  intro l
  induction l with
  |nil=>intro es C h1 h2;exact⟨h1,by simpa using h2⟩
  |cons s l ih =>
   intro es C h1 h2
   have:=ih (cx (.int .i64 s.addr) (.bool true) es) (C++[s.addr]) (O3 h1) (fun n=>by
    rw[O4 h1,h2 n];by_cases h:n=s.addr
    ·simp[h]
    ·simp[h])
   simpa using this
 have:=main l [] [] (fun p hp=>by simp at hp) (fun n=>by simp[findD])
 simpa [vL]using this
theorem HQ{l:List Host}{k:Nat}{x:Host}(hx:l[k]?=some x)(h:mv x=false):jk l=false:=by
 have:l.all mv=false:=by
  cases ha:l.all mv
  ·rfl
  ·rw[List.all_eq_true.1 ha x (List.mem_of_getElem? hx)]at h;cases h
 simp[jk,this]
theorem O6(l:List Host)(hn:∀ x∈l,x.name.length<=maxLen):au E 69 [.sl (l.map Host.enc)] (· = .bool (jk l)):=by
 refine eP F69 ?_;refine ar (fun h1=>?_) (fun h1=>?_)
 ·refine gO F69 ?_;have:jk l=false:=by simp[jk];simp at h1;omega
  rw[this]
 ·have hlen:l.length<=64:=by simp at h1;omega
  refine gO F69 ?_;refine gO F69 ?_;refine aa.loop (κ:=Nat) ([2,5]++rg 12 37) (fun k=>[(12,.d (.int .i64 k)),(2,.d (.bool false)),(3,.map 0)]) (fun k=>[(0,.map (vL (l.take k)))]) (fun k=>k<=l.length/\(l.take k).all mv=true/\((l.take k).map (·.addr)).Nodup) (fun k=>l.length-k) 0 ⟨Nat.zero_le _,rfl,by simp⟩ ?_ ?_
  ·(conv=>whnf);repeat (first|exact trivial|(refine And.intro (by first|with_reducible rfl|exact congrArg (DV.int .i64) (by omega)|exact rfl|exact congrArg (DV.int .i64) (wrap64 (by omega) (by omega))|exact congrArg (DV.int .i64) ((wrap64 (by omega) (by omega)).trans (by omega))) ?_;conv=>whnf))
  rintro k ⟨hk,aW,fG⟩ IH;refine aa.head ag F69 2000 ?_;(conv=>whnf);refine ar (fun h5=>?_) (fun h5=>?_)
  ·have ai:k<l.length:=by simpa using h5
   obtain⟨x,hx⟩:=bd ai;have bw:=hn x (List.mem_of_getElem? hx);refine gO F69 ?_;refine aC (e:=x.enc) (aS hx) rfl ?_;refine gO F69 ?_;repeat' (first|with_reducible(first|refine aj (nd x.name bw) ?_|refine bj (nd x.name bw) ?_|refine aj (O2 x.name bw) ?_|refine bj (O2 x.name bw) ?_|refine aj (HO x.addr) ?_|refine bj (HO x.addr) ?_|refine cY ?_|refine cN ?_|refine ar (fun _=>?_) (fun _=>?_))|refine gA F69 ?_|refine gB ?_|refine gC ?_|with_reducible rfl)
   all_goals try (rw[HQ hx (by simp_all[mv]<;>omega)];done)
   have ff:=(O5 (l.take k)).2 x.addr;have nr:=(O5 (l.take k)).1;have hb:mv x=true:=by simp_all[mv]
   refine mb (.bool false) (.bool false) (v := .bool (decide (x.addr∈(l.take k).map (·.addr)))) (f:=decide (x.addr∈(l.take k).map (·.addr))) ⟨_,rfl⟩ nr (fun w=>by kernel_rfl) (fun _ _ => .bool _) (by rw[ff];split<;>simp_all) (by rw[ff];split<;>simp_all) ?_;refine gO F69 ?_;refine ar (fun h9=>?_) (fun h9=>?_)
   ·refine gO F69 ?_;have hm:x.addr∈(l.take k).map (·.addr):=by simpa using h9
    have:jk l=false:=by
     have qP:¬ (l.map (·.addr)).Nodup:=fun jF=>by
      obtain⟨y,hy,e⟩:=List.mem_map.1 hm;obtain⟨j,hj⟩:=List.getElem?_of_mem hy;rw[List.getElem?_take]at hj;split at hj
      ·rename_i y9;obtain⟨p1,e1⟩:=List.getElem?_eq_some_iff.1 hx;obtain⟨p2,e2⟩:=List.getElem?_eq_some_iff.1 hj;have:=List.pairwise_iff_getElem.1 (List.nodup_iff_pairwise_ne.1 jF) j k (by simpa using p2) (by simpa using p1) y9;apply this;simp[e1,e2,e]
      ·cases hj
     simp[jk,qP]
    rw[this]
   ·have hm:x.addr ∉ (l.take k).map (·.addr):=by simpa using h9
    refine gO F69 ?_;refine bA ⟨⟨_,rfl⟩,nr⟩ ?_;refine gO F69 ?_;refine aa.back (IH (k+1) ⟨by omega,jC aW hx hb,?_⟩ (by omega)) ?_
    ·rw[dW hx,List.map_append,List.nodup_append];refine⟨fG,by simp,fun a ha b tB e=>?_⟩;simp at tB;subst tB;subst e;exact hm ha
    ·(conv=>whnf);repeat (first|exact trivial|(refine sI ?_;conv=>whnf))
     refine And.intro (Ya hx).symm ?_;exact sZ
  ·have aG:l.length<=k:=by simpa using h5
   rw[List.take_of_length_le aG]at aW fG;refine gO F69 ?_;simp[jk,aW,fG,hlen]
theorem Yb(n:Int):au E 110 [.int .i64 n] (· = .bool (!kp n)):=by
 refine eP Tryz.func110 ?_
 with_reducible refine aj (HO n) ?_
 refine gO Tryz.func110 ?_
 with_reducible rfl
theorem Yc(l:List Int)(hl:l.length<=1000000):aB E 170 [] [.d (.sl (l.map (.int .i64))),.fn (.func 110) [] []] (fun a b=>∃ n:Int,a=.d (.int .i64 n)/\b=[]/\(0<=n↔l.all kp=false)):=by
 refine aB.run ag (fn:=Tryz.f170) Tryz.func170 (body:=Tryz.f170.body.getD .skip) rfl (by decide) 2000 rfl ?_;(conv=>whnf);refine aa.loop (κ:=Nat) ([4,5]++rg 8 11) (fun k=>[(8,.d (.int .i64 k))]) (fun _=>[]) (fun k=>k<=l.length/\(l.take k).all kp=true) (fun k=>l.length-k) 0 ⟨Nat.zero_le _,rfl⟩ ?_ ?_
 ·exact sZ
 rintro k ⟨hk,aW⟩ IH;refine aa.head ag F170 2000 ?_;(conv=>whnf);refine ar (fun h5=>?_) (fun h5=>?_)
 ·have ai:k<l.length:=by simpa using h5
  obtain⟨x,hx⟩:=bd ai;refine gO F170 ?_;refine aC (e := .int .i64 x) (aS hx) rfl ?_;refine gO F170 ?_
  with_reducible refine aj (Yb x) ?_
  refine gO F170 ?_;refine ar (fun h6=>?_) (fun h6=>?_)
  ·refine gO F170 ?_;refine⟨k,rfl,rfl,?_⟩;have:l.all kp=false:=by
    cases ha:l.all kp
    ·rfl
    ·have:=List.all_eq_true.1 ha x (List.mem_of_getElem? hx);simp[this]at h6
   simp[this]
  ·refine gO F170 ?_;refine aa.back (IH (k+1) ⟨by omega,jC aW hx (by simpa using h6)⟩ (by omega)) ?_;exact sZ
 ·have aG:l.length<=k:=by simpa using h5
  rw[List.take_of_length_le aG]at aW;refine gO F170 ?_;exact⟨_,rfl,rfl,by simp[aW]⟩
theorem Yd(l:List Int)(hl:l.length<=1000000):aB E 109 [] [.d (.sl (l.map (.int .i64))),.fn (.func 110) [] []] (fun a b=>a=.d (.bool (!l.all kp))/\b=[]):=by
 refine aB.run ag (fn:=Tryz.f109) Tryz.func109 (body:=Tryz.f109.body.getD .skip) rfl (by decide) 2000 rfl ?_;(conv=>whnf);refine sJ (Yc l hl) ?_;rintro r b ⟨n,rfl,rfl,h⟩;refine gO Tryz.func109 ?_;cases ha:l.all kp
 ·simp[h.2 ha]
 ·have:¬ 0<=n:=fun h0=>by rw[h.1 h0]at ha;cases ha
  simp;omega
def oh(a:eD)(l:List Int):Bool:=fa a&&decide (a.type=6)&&decide (a.name=[46])&&decide (1<=l.length)&&decide (l.length<=8)&&l.all kp
theorem O7(a:eD)(l:List Int)(hf:a.Fits)(hl:l.length<=maxLen):au E 71 [a.enc,.sl (l.map (.int .i64))] (· = .bool (oh a l)):=by
 refine eP Tryz.func71 ?_;repeat' (first|with_reducible(first|refine aj (CE a hf) ?_|refine bj (CE a hf) ?_|refine cY ?_|refine cN ?_|refine ar (fun _=>?_) (fun _=>?_))|refine gA Tryz.func71 ?_|refine gB ?_|refine gC ?_|with_reducible rfl)
 all_goals try (simp_all[oh]<;>omega;done)
 rename_i h1 h2 h3 h4 h5;refine sJ (Yd l (by simp at h5;omega)) ?_;rintro r b ⟨rfl,rfl⟩;refine gO Tryz.func71 ?_;have e1:fa a=true:=by simpa using h1
 have e2:a.type=6:=by simpa using h2
 have e3:a.name=[46]:=by simpa using h3
 have e4:1<=l.length:=by simp at h4;omega
 have e5:l.length<=8:=by simp at h5;omega
 simp[oh,e1,e2,e3,e4,e5]
end Go.Proofs.YtcmnpelmmekdkaaGreatDoor.P
end
section
namespace Go.Proofs.YtcmnpelmmekdkaaGreatDoor.P
open Go Go.aA
set_option maxRecDepth 100000
set_option maxHeartbeats 4000000
set_option linter.unusedSectionVars false
section
variable {α:Type} [DecidableEq α] {en:α->DV}
def lO(en:α->DV)(es:List (DV × DV)):Prop:=∀ p∈es,∃ a,p.1=en a
theorem De{b:α}{v:DV}:∀ {es:List (DV × DV)},lO en es->lO en (cx (en b) v es)
 |[],_,p,hp=>by simp[cx]at hp;subst hp;exact⟨_,rfl⟩
 |q::es,h,p,hp=>by
  unfold cx at hp;split at hp
  ·rcases List.mem_cons.1 hp with rfl|hp
   ·exact⟨_,rfl⟩
   ·exact h p (List.mem_cons_of_mem _ hp)
  ·rcases List.mem_cons.1 hp with rfl|hp
   ·exact h _ (List.mem_cons_self ..)
   ·exact De (fun r hr=>h r (List.mem_cons_of_mem _ hr)) p hp
theorem Df(hk:∀ a b,eW (en a) (en b)=decide (a=b)){a b:α}{v:DV}:∀ {es:List (DV × DV)},lO en es->findD (en a) (cx (en b) v es)=if a=b then some v else findD (en a) es
 |[],_=>by simp[cx,findD,hk]
 |q::es,h=>by
  obtain⟨s,hs⟩:=h q (List.mem_cons_self ..);obtain⟨q1,q2⟩:=q;simp only at hs;subst hs;unfold cx;simp only[hk];by_cases e:b=s
  ·subst e;simp only[decide_true,if_true,findD,hk];by_cases e2:a=b
   ·simp[e2]
   ·simp[e2]
  ·have ih:=Df hk (a:=a) (b:=b) (v:=v) (es:=es) (fun r hr=>h r (List.mem_cons_of_mem _ hr));simp only[e,decide_false,Bool.false_eq_true,if_false,findD,hk,ih];by_cases e2:a=s
   ·subst e2;have:¬ a=b:=fun h=>e h.symm;simp[this]
   ·simp[e2]
def gb(en:α->DV)(l:List α):List (DV × DV):=l.foldl (fun es x=>cx (en x) (.bool true) es) []
theorem O8{l:List α}{k:Nat}{x:α}(h:l[k]?=some x):gb en (l.take (k+1))=cx (en x) (.bool true) (gb en (l.take k)):=by
 rw[dW h,gb,List.foldl_append];rfl
theorem AG(l:List α)(x:α):gb en (l++[x])=cx (en x) (.bool true) (gb en l):=by
 rw[gb,List.foldl_append];rfl
theorem tC(hk:∀ a b,eW (en a) (en b)=decide (a=b))(l:List α):lO en (gb en l)/\∀ a,findD (en a) (gb en l)=if a∈l then some (.bool true)else none:=by
 have main:∀ (l:List α) (es:List (DV × DV)) (C:List α),lO en es->(∀ n,findD (en n) es=if n∈C then some (.bool true)else none) ->
   lO en (l.foldl (fun es x=>cx (en x) (.bool true) es) es)/\∀ n,findD (en n) (l.foldl (fun es x=>cx (en x) (.bool true) es) es)=if n∈C++l then some (.bool true)else none:=by
  intro l
  induction l with
  |nil=>intro es C h1 h2;exact⟨h1,by simpa using h2⟩
  |cons s l ih =>
   intro es C h1 h2
   have:=ih (cx (en s) (.bool true) es) (C++[s]) (De h1) (fun n=>by
    rw[Df hk h1,h2 n];by_cases h:n=s
    ·simp[h]
    ·simp[h])
   simpa using this
 have:=main l [] [] (fun p hp=>by simp at hp) (fun n=>by simp[findD])
 simpa [gb]using this
theorem Dg(hk:∀ a b,eW (en a) (en b)=decide (a=b))(l:List α)(a:α):(findD (en a) (gb en l)).getD (.bool false)=.bool (decide (a∈l))/\(findD (en a) (gb en l)).isSome=decide (a∈l):=by
 rw[(tC hk l).2 a];split<;>simp_all
def fR:List α->List α->List α
 |acc,[]=>acc
 |acc,x::l=>fR (if x∈acc then acc else acc++[x]) l
theorem O9(acc l:List α)(x:α):fR acc (l++[x])=if x∈fR acc l then fR acc l else fR acc l++[x]:=by
 induction l generalizing acc with
 |nil=>rfl
 |cons y l ih =>
  show fR _ (l++[x])=_;rw[ih];rfl
theorem AH{x:α}:∀ {l acc:List α},x∈fR acc l↔x∈acc\/x∈l
 |[],acc=>by simp[fR]
 |y::l,acc=>by
  rw[fR,AH (l:=l)];split
  ·rename_i h;constructor
   ·rintro(h1|h1)
    ·exact .inl h1
    ·exact .inr (List.mem_cons_of_mem _ h1)
   ·rintro(h1|h1)
    ·exact .inl h1
    ·rcases List.mem_cons.1 h1 with rfl|h1
     ·exact .inl h
     ·exact .inr h1
  ·simp[or_assoc]
theorem HW:∀ {l acc:List α},acc.Nodup->(fR acc l).Nodup
 |[],_,h=>h
 |y::l,acc,h=>by
  rw[fR];refine HW ?_;split
  ·exact h
  ·rename_i hy;rw[List.nodup_append];exact⟨h,by simp,fun a ha b hb e=>by simp at hb;subst hb;subst e;exact hy ha⟩
theorem HZ:∀ {l acc:List α},(fR acc l).length<=acc.length+l.length
 |[],_=>by simp[fR]
 |y::l,acc=>by
  rw[fR];refine Nat.le_trans HZ ?_;split<;>simp<;>omega
theorem O'{l:List α}{k:Nat}{x:α}(h:l[k]?=some x):fR [] (l.take (k+1))=if x∈l.take k then fR [] (l.take k)else fR [] (l.take k)++[x]:=by
 rw[dW h,O9];have:=AH (x:=x) (l:=l.take k) (acc:=[]);simp only[List.not_mem_nil,false_or]at this;by_cases hx:x∈l.take k
 ·rw[if_pos hx,if_pos (this.2 hx)]
 ·rw[if_neg hx,if_neg (fun h=>hx (this.1 h))]
end
theorem rS(a b:Text):eW (.str a) (.str b)=decide (a=b):=by
 show(a==b)=_;rw[Bool.eq_iff_iff];simp
theorem Pb(a b:Int):eW (.int .i64 a) (.int .i64 b)=decide (a=b):=by
 show(a==b)=_;rw[Bool.eq_iff_iff];simp
abbrev qo:=Int × Text
@[reducible] def qo.en (p : qo) : DV := .agg [.int .i64 p.1, .str p.2]
theorem Pc(a b:qo):eW (qo.en a) (qo.en b)=decide (a=b):=by
 show(((a.1==b.1))&&((a.2==b.2)&&true))=_;rw[Bool.eq_iff_iff];simp[Prod.ext_iff]
end Go.Proofs.YtcmnpelmmekdkaaGreatDoor.P
end
section
namespace Go.aA
open Go Go.RowKit
section
variable {E:Env} {s:List AV} {h:List af}
theorem Pd{t:Nat}{x:Operand}{n:Int}{kt et:TypeId}(hu:E.P.underlying t=some (.map kt et))(hx:bh E.G s x (.d (.int .i64 n))):aQ E (.makeMap t (some x)) s h (.map h.length) (h++[.map []]):=fun o c ac h1 h2 h3 h4=>by
 subst h2;have hv:=hx c ac h3 h4;obtain⟨k1,k2⟩:=h3.add (.map []) 0 (.map #[] 0);have bI:(c.add (.map []) 0 (.map #[] 0)).own c.heap.length=some (c.w.heap.size,0):=by simp[Cx.add]
 have kB:(c.add (.map []) 0 (.map #[] 0)).heap[c.heap.length]?=some (.map []):=by simp[Cx.add]
 refine⟨_,.map (some c.w.heap.size),.inl ?_,rfl,k2 ⟨c.w.heap.size,0,#[],0,bI,heap_alloc_new _ _,⟨rfl,by simp,by simp,by simp,rfl⟩,fun j k x m hj=>by simp at hj⟩,.map c.heap.length [] c.w.heap.size 0 kB bI,k1⟩;generalize vc:ac.eval x=u at hv;cases hv with
 |d _ _ hv =>
  cases hv;simp only[execOp,h1,Option.map_some,vc,Instr.makeMap,Sem.run_bind,Sem.run_pure,run_underlying hu,Result.andThen_ok];rfl
end
section
variable {E:Env} {ae:FuncId} {R:bZ} {ops:Array Oper} {k:List aK} {F:List Nat} {n:Nat} {B:List Nat} {X:List af} {lits:List Nat} {j:Nat} {o:Oper} {l:List Oper} {s:List AV} {h:List af}
theorem aU.Pe{t:Nat}{x:Operand}{m:Int}{kt et:TypeId}(hF:bV j F=false)(hg:o.guard=none)(bX:o.op=.makeMap t (some x))(hu:E.P.underlying t=some (.map kt et))(hx:bh E.G (bY (ca ops o) 0 s) x (.d (.int .i64 m)))
  (H:lY h (.map []) 0 fun h' m=>cX n B 0 h'=X/\bK s o.dst (.map m) fun s'=>aU E ae R ops k F n B X lits (j+1) l s' h'):aU E ae R ops k F n B X lits j (o::l) s h:=by
 rw[nD,df,Nat.zero_add]at H;obtain⟨H1,H⟩:=H;unfold aU;unfold fP;rw[hF];exact⟨_,_,dm.of (eC hg) (bX ▸ Pd hu hx),fun t e=>(by rw[bX]at e;cases e),H1,H.to⟩
theorem aa.Pe{t:Nat}{x:Operand}{m:Int}{kt et:TypeId}{k:List aK}(hg:o.guard=none)(bX:o.op=.makeMap t (some x))(hu:E.P.underlying t=some (.map kt et))(hx:bh E.G s x (.d (.int .i64 m)))
  (H:lY h (.map []) 0 fun h' m=>bK s o.dst (.map m) fun s'=>aa E ae R lits (.bF ops l::k) s' h'):aa E ae R lits (.bF ops (o::l)::k) s h:=by
 rw[nD,df,Nat.zero_add]at H;exact .of (.op (eC hg) (v := .map h.length) (h':=h++[.map []]) (bX ▸ Pd hu hx) H.to)
end
end Go.aA
end
