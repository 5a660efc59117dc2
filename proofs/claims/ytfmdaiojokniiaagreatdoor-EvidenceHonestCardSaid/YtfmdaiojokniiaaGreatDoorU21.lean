/- Lemmas of mine. Conditions: as stated. -/
import Derived.Test.YtfmdaiojokniiaaGreatDoorU9
import Derived.Test.YtfmdaiojokniiaaGreatDoorU10
import Derived.Test.YtfmdaiojokniiaaGreatDoorU11
set_option linter.unusedVariables false
set_option linter.unusedSimpArgs false
section
namespace Go.Proofs.YtfmdaiojokniiaaGreatDoor.P
open Go Go.ay
set_option maxRecDepth 100000
theorem Zl{x y:Signed}:oc y.set x.set=0↔cZ ⟨x.set.name,x.set.type⟩ y=true:=by
 rw[<- CN,<- xF];show _↔(oh y.set.name y.set.type x.set.name x.set.type==0)=true;simp
theorem Zm{l:List Signed}(h:gg l){k:Nat}{x:Signed}(hx:l[k]?=some x):bh l ⟨x.set.name,x.set.type⟩=k :=
 LN (fun j y hj hy=>by
  have h1:=h j k y x hj hy hx;cases e:cZ ⟨x.set.name,x.set.type⟩ y
  ·rfl
  ·rw[Zl.2 e]at h1;omega) hx (by simp[cZ])
theorem HV{l:List Signed}{q:bB}(h:0<=bh l q):∃ s,l[(bh l q).toNat]?=some s/\cZ q s=true:=by
 unfold bh at h ⊢;cases e:l.findIdx? (cZ q)with
 |none=>rw[e]at h;simp at h
 |some k =>
  obtain⟨h1,h2,_⟩:=List.findIdx?_eq_some_iff_getElem.1 e;exact⟨l[k],by simp,h2⟩
theorem gU{l:List Signed}{q:bB} : -1<=bh l q/\bh l q<l.length:=by
 unfold bh;cases e:l.findIdx? (cZ q)with
 |none=>exact⟨Int.le_refl _,by show(-1:Int)<l.length;omega⟩
 |some k =>
  obtain⟨h1,h2,_⟩:=List.findIdx?_eq_some_iff_getElem.1 e;exact⟨by show(-1:Int)<=(k:Int);omega,by show(k:Int)<l.length;omega⟩
theorem HW{q:bB}{s:Signed}(h:cZ q s=true):q=⟨s.set.name,s.set.type⟩:=by
 obtain⟨n,t⟩:=q;simp[cZ]at h;rw[h.1,h.2]
def eH(l:List Signed)(ps:List Int):List Signed:=ps.filterMap fun p=>l[p.toNat]?
def lb(ps:List Int)(p:Int):List Int:=if p<0\/p∈ps then ps else ps++[p]
def c7(ps:List Int):List Int:=ps.foldl lb []
def AO(l:List Signed)(ps:List Int):Prop:=∀ p∈ps,0<=p/\p<l.length
theorem AO.nil{l:List Signed}:AO l []:=fun p hp=>by simp at hp
theorem AO.add{l:List Signed}{ps:List Int}{p:Int}(h:AO l ps)(hp:p<l.length):AO l (lb ps p):=by
 unfold lb;split
 ·exact h
 ·rename_i hn;intro q hq;rcases List.mem_append.1 hq with hq|hq
  ·exact h q hq
  ·rw[List.mem_singleton.1 hq];exact⟨by omega,hp⟩
theorem Zn{ps:List Int}{p:Int}:c7 (ps++[p])=lb (c7 ps) p:=by rw[c7,List.foldl_append];rfl
theorem OC{ps:List Int}{k:Nat}{p:Int}(h:ps[k]?=some p):c7 (ps.take (k+1))=lb (c7 (ps.take k)) p:=by rw[cK h,Zn]
theorem Zo{p:Int}:∀ {ps:List Int},p∈c7 ps↔0<=p/\p∈ps:=by
 have main:∀ (ps acc:List Int),(∀ q∈acc,0<=q)->(p∈ps.foldl lb acc↔p∈acc\/(0<=p/\p∈ps)):=by
  intro ps
  induction ps with
  |nil=>intro acc _;simp
  |cons x ps ih =>
   intro acc ha;rw[List.foldl_cons,ih]
   ·unfold lb;split
    ·rename_i hx;constructor
     ·rintro(h|h)
      ·exact .inl h
      ·exact .inr ⟨h.1,List.mem_cons_of_mem _ h.2⟩
     ·rintro(h|⟨h1,h2⟩)
      ·exact .inl h
      ·rcases List.mem_cons.1 h2 with rfl|h2
       ·rcases hx with hx|hx
        ·omega
        ·exact .inl hx
       ·exact .inr ⟨h1,h2⟩
    ·rename_i hx;simp only[List.mem_append,List.mem_cons,List.not_mem_nil,or_false];constructor
     ·rintro((h|rfl)|h)
      ·exact .inl h
      ·exact .inr ⟨by omega,.inl rfl⟩
      ·exact .inr ⟨h.1,.inr h.2⟩
     ·rintro(h|⟨h1,h2⟩)
      ·exact .inl (.inl h)
      ·rcases h2 with rfl|h2
       ·exact .inl (.inr rfl)
       ·exact .inr ⟨h1,h2⟩
   ·intro q hq;unfold lb at hq;split at hq
    ·exact ha q hq
    ·rename_i hx;rcases List.mem_append.1 hq with hq|hq
     ·exact ha q hq
     ·rw[List.mem_singleton.1 hq];omega
 intro ps;have:=main ps [] (fun q hq=>by simp at hq)
 simpa [c7]using this
theorem Zp{ps:List Int}:(c7 ps).length<=ps.length:=by
 have main:∀ (ps acc:List Int),(ps.foldl lb acc).length<=acc.length+ps.length:=by
  intro ps
  induction ps with
  |nil=>intro acc;simp
  |cons x ps ih =>
   intro acc;rw[List.foldl_cons];refine Nat.le_trans (ih _) ?_;have:(lb acc x).length<=acc.length+1:=by unfold lb;split<;>simp
   simp;omega
 have:=main ps []
 simpa [c7]using this
theorem Zq{l:List Signed}{ps:List Int}:(eH l ps).length<=ps.length:=List.length_filterMap_le ..
theorem Zr{l:List Signed}{ps:List Int}{p:Int}{s:Signed}(h0:0<=p)(hs:l[p.toNat]?=some s):eH l (lb ps p)=if p∈ps then eH l ps else eH l ps++[s]:=by
 unfold lb;by_cases h:p∈ps
 ·rw[if_pos (.inr h),if_pos h]
 ·rw[if_neg (by rintro(e|e);omega;exact h e),if_neg h,eH,List.filterMap_append];simp[eH,hs]
def kr(l:List Signed)(n:Text):Bool:=l.any fun s=>Nm.under s.set.name n
def iq(P:Signed->Bool)(l:List Signed):Nat:=(l.takeWhile P).length
theorem AP{P:Signed->Bool}{l:List Signed}:iq P l<=l.length:=by
 unfold iq;exact(List.takeWhile_sublist P).length_le
theorem HX{P:Signed->Bool}:∀ {l:List Signed} (_:∀ (i j:Nat) (x y:Signed),i<j->l[i]?=some x->l[j]?=some y->P y=true->P x=true) {i:Nat} {x:Signed} (_:l[i]?=some x),P x=true↔i<iq P l
 |[],_,i,x,hx=>by simp at hx
 |a::l,hd,i,x,hx=>by
  unfold iq;rw[List.takeWhile_cons];cases ha:P a
  ·simp only[Bool.false_eq_true,if_false,List.length_nil,Nat.not_lt_zero,iff_false];intro e;cases i with
   |zero=>simp at hx;subst hx;rw[ha]at e;cases e
   |succ i =>
    have:=hd 0 (i+1) a x (by omega) rfl hx e;rw[ha]at this;cases this
  ·rw[if_pos rfl,List.length_cons];cases i with
   |zero=>simp at hx;subst hx;simp[ha]
   |succ i =>
    have:=HX (P:=P) (l:=l) (fun i j x y h h1 h2=>hd (i+1) (j+1) x y (by omega) h1 h2) (i:=i) (x:=x) (by simpa using hx);unfold iq at this;rw[this];omega
theorem Zs{a b c:Text}(h:bC a b<=0)(k:bC b c<0):bC a c<0:=by
 rcases Int.lt_or_eq_of_le h with h|h
 ·exact Ac h k
 ·rw[pT h];exact k
theorem HY{l:List Signed}(hs:gg l){i j:Nat}{x y:Signed}(h:i<j)(hx:l[i]?=some x)(hy:l[j]?=some y):bC x.set.name y.set.name<=0:=GS (hs i j x y h hx hy)
def ji(n:Text)(s:Signed):Bool:=decide (bC s.set.name n<0)
def jD(n:Text)(s:Signed):Bool:=decide (bC s.set.name n<=0)
theorem lt_iff{l:List Signed}(hs:gg l){n:Text}{i:Nat}{x:Signed}(hx:l[i]?=some x):bC x.set.name n<0↔i<iq (ji n) l:=by
 rw[<- HX (P:=ji n) (fun i j x y h h1 h2 h3=>by
  simp only[ji,decide_eq_true_eq]at h3 ⊢
  exact Zs (HY hs h h1 h2) h3) hx]
 simp[ji]
theorem le_iff{l:List Signed}(hs:gg l){n:Text}{i:Nat}{x:Signed}(hx:l[i]?=some x):bC x.set.name n<=0↔i<iq (jD n) l:=by
 rw[<- HX (P:=jD n) (fun i j x y h h1 h2 h3=>by
  simp only[jD,decide_eq_true_eq]at h3 ⊢
  exact CS (HY hs h h1 h2) h3) hx]
 simp[jD]
theorem Zt{l:List Signed}(hs:gg l){n:Text}:kr l n=match l[iq (ji n) l]? with
  |some s=>Nm.under s.set.name n
  |none=>false:=by
 rw[Bool.eq_iff_iff];constructor
 ·intro h;obtain⟨x,hx,hu⟩:=List.any_eq_true.1 h;obtain⟨j,hj⟩:=List.getElem?_of_mem hx;have h1:=Ad hu;have h2:¬ bC x.set.name n<0:=by rw[Ab];omega
  have h3:iq (ji n) l<=j:=by have:=(lt_iff hs (n:=n) hj);omega
  obtain⟨s,iO⟩:=aG (l:=l) (k:=iq (ji n) l) (by have:=(List.getElem?_eq_some_iff.1 hj).1;omega);rw[iO];show Nm.under s.set.name n=true;rcases Nat.lt_or_eq_of_le h3 with h3|h3
  ·have h4:¬ bC s.set.name n<0:=fun e=>by have:=(lt_iff hs (n:=n) iO).1 e;omega
   exact xE (by rw[Ab];omega) (HY hs h3 iO hj) hu
  ·rw[<- h3,iO]at hj;cases hj;exact hu
 ·intro h;cases e:l[iq (ji n) l]? with
  |none=>rw[e]at h;cases h
  |some s=>rw[e]at h;exact List.any_eq_true.2 ⟨s,List.mem_of_getElem? e,h⟩
def qa(P:Nat->Bool):Nat->Int
 |0 => -1
 |n+1=>if P n then(n:Int)else qa P n
theorem OD{P:Nat->Bool}:∀ {n:Nat},-1<=qa P n/\qa P n<n
 |0=>by simp[qa]
 |n+1=>by
  have:=OD (P:=P) (n:=n);rw[qa];split<;>omega
def x6(l:List Signed)(i:Nat):Bool:=match l[i]? with
 |some s=>s.set.type==8
 |none=>false
def eT(l:List Signed)(n:Text):Int:=qa (x6 l) (iq (jD n) l)
theorem vL{l:List Signed}{n:Text} : -1<=eT l n/\eT l n<l.length:=by
 have h1:=OD (P:=x6 l) (n:=iq (jD n) l);have h2:=AP (P:=jD n) (l:=l);unfold eT;omega
def gK(L:List Text):Text:=if L=[]then[46]else Nm.glue L
theorem AQ(s:Text):gK (Nm.labels s)=s:=by
 unfold gK Nm.labels;by_cases h:s=[46]
 ·rw[if_pos h,if_pos rfl,h]
 ·rw[if_neg h,if_neg (Nm.n' s),Nm.uG]
def nF(l:List Signed):List Text->List Text
 |[]=>[]
 |x::r=>if kr l (gK (x::r))then x::r else nF l r
def o8(M:List Text):Option Text:=if Nm.parts M&&decide ((gK M).length<=60)then some (gK M)else none
def tE(l:List Signed)(s:Text):Option Text:=o8 ([42]::nF l (Nm.labels s))
def nG(z:aX)(n:Text):Option Text:=(b9 z.aj z.ae).find? fun c=>Nm.under n c
def vM(l:List Signed)(c:Text):Int:=if bh l ⟨c,6⟩<0 then bh l ⟨c,8⟩else bh l ⟨c,6⟩
def HZ(l:List Signed)(c:Text):List Datum:=match l[(bh l ⟨c,2⟩).toNat]? with
 |some s=>s.set.data
 |none=>[]
def vN(l:List Signed)(c:Text):List Int:=((HZ l c).filter fun d=>Nm.under d.text c).map fun d=>bh l ⟨d.text,1⟩
def lV(l:List Signed)(c:Text):List Int:=c7 (bh l ⟨c,2⟩::vM l c::vN l c)
def qb(z:aX)(q:bB):dR :=
 if 0<=bh z.ae q then⟨1,eH z.ae [bh z.ae q],[]⟩
 else if 0<=bh z.ae ⟨q.name,3⟩/\q.type≠8 then⟨3,eH z.ae [bh z.ae ⟨q.name,3⟩],[]⟩
 else if kr z.ae q.name then⟨5,eH z.ae (c7 [bh z.ae ⟨z.aj,4⟩,eT z.ae q.name]),[]⟩
 else match tE z.ae q.name with
  |none=>⟨6,eH z.ae (c7 [bh z.ae ⟨z.aj,4⟩,eT z.ae q.name]),[]⟩
  |some w =>
   if 0<=bh z.ae ⟨w,q.type⟩then⟨2,eH z.ae (c7 [bh z.ae ⟨w,q.type⟩,eT z.ae q.name]),[]⟩
   else if 0<=bh z.ae ⟨w,3⟩/\q.type≠8 then⟨3,eH z.ae (c7 [bh z.ae ⟨w,3⟩,eT z.ae q.name]),[]⟩
   else if kr z.ae w then⟨5,eH z.ae (c7 [bh z.ae ⟨z.aj,4⟩,eT z.ae q.name,eT z.ae w]),[]⟩
   else⟨6,eH z.ae (c7 [bh z.ae ⟨z.aj,4⟩,eT z.ae q.name,eT z.ae w]),[]⟩
def tF(z:aX)(q:bB):dR :=
 if Nm.under q.name z.aj then
  match nG z q.name with
  |some c=>if q.name=c/\(q.type=6\/q.type=8)then qb z q else⟨4,eH z.ae (lV z.ae c),c⟩
  |none=>qb z q
 else⟨7,[],[]⟩
def rM(z:aX)(q:bB):Int:=if eB z&&fF q then 0 else 1
def o9(z:aX)(q:bB):dR:=if rM z q=0 then tF z q else⟨0,[],[]⟩
structure iJ(z:aX):Prop where
 sorted:gg z.ae
 names:∀ s∈z.ae,Nm.valid s.set.name=true
 ae:∀ s∈z.ae,ef s.set=true
 aj:Nm.valid z.aj=true
 under:∀ s∈z.ae,Nm.under s.set.name z.aj=true
 len:z.ae.length<=20000
 start:0<=bh z.ae ⟨z.aj,4⟩
 cL:∀ c∈b9 z.aj z.ae,∀ d∈b9 z.aj z.ae,∀ n,Nm.under n c=true->Nm.under n d=true->c=d
theorem OE{z:aX}(h:eB z=true):iJ z:=by
 have h0:=h;simp only[eB,Bool.and_eq_true]at h;obtain⟨h1,-,-,h4,-⟩:=h;obtain⟨hs,hv,hn⟩:=MD h1;obtain⟨hl,aM,xO⟩:=xz h1;have aI:∀ s∈z.ae,s.set.name≠[]:=fun s h=>(hn s h).1;have hA:=Mz (aj:=z.aj) (CU hs);obtain⟨g1,g2,g3⟩:=Ms _ hA;have OF:∀ c∈b9 z.aj z.ae,c≠[]:=fun c hc=>by
  obtain⟨s,h,rfl,-⟩:=pR hc;exact aI s h
 have aJ:∀ c∈b9 z.aj z.ae,c∈([]:List Text)++z.ae.map (·.set.name):=fun c hc=>by
  obtain⟨s,h,rfl,-⟩:=pR hc
  simpa using⟨s,h,rfl⟩
 have bH:=OB g1 g2 xx g3 OF (z.ae.map (·.set.name)) [] [] 0 (by simpa using CU hs) aJ (Nat.zero_le _) rfl (fun m d hm=>by omega);have fL:∀ c∈b9 z.aj z.ae,c∈fe (b9 z.aj z.ae):=fun c hc=>by
  obtain⟨s,Ds,rfl,hcut⟩:=pR hc;obtain⟨i,hi⟩:=List.getElem?_of_mem Ds;have ah:=aQ hi;obtain⟨b,hb⟩:=aG (l:=iZ z) (k:=i) (by rw[s4];exact ah);have hF:=bH i s.set.name b (by simp[hi]) hb;obtain⟨d,hd,hu⟩:=g3 _ hc;rcases hF with⟨k1,k2⟩|⟨-,k2⟩
  ·have hz:=List.all_eq_true.1 h4 (s,b) (List.mem_of_getElem? (xy hi hb));have jO:b≠[]:=OF b (xx b k1);have ht:s.set.type=2:=by
    simp only[iF,Bool.and_eq_true,beq_iff_eq]at hcut;exact hcut.1
   simp only[pS,Bool.and_eq_true]at hz;have h5:=hz.1.1;simp[jO,ht]at h5;rw[h5];exact k1
  ·rw[k2 d hd]at hu;cases hu
 obtain⟨k,s,d,e1,-⟩:=Zk h0;refine⟨hs,hv,fun s h=>?_,xO,fun s h=>?_,hl,by rw[e1];omega,fun c hc d hd n ea rz=>Mt g1 g2 (fL c hc) (fL d hd) ea rz⟩
 ·have:=aM s h;simp only[fo,Bool.and_eq_true]at this;exact this.1
 ·have:=aM s h;simp only[fo,Bool.and_eq_true]at this;exact this.2
theorem iJ.Zu{z:aX}(V:iJ z):kr z.ae z.aj=true:=by
 obtain⟨s,h1,h2⟩:=HV V.start;exact List.any_eq_true.2 ⟨s,List.mem_of_getElem? h1,V.under s (List.mem_of_getElem? h1)⟩
end Go.Proofs.YtfmdaiojokniiaaGreatDoor.P
end
section
namespace Go.Proofs.YtfmdaiojokniiaaGreatDoor.P
open Go Go.ay
set_option maxRecDepth 100000
set_option maxHeartbeats 4000000
theorem Zw(a b:bB):eE a.enc b.enc=decide (a=b):=by
 obtain⟨an,at_⟩:=a;obtain⟨bn,bt⟩:=b;show eE (DV.agg [.str an,.int .i64 at_]) (DV.agg [.str bn,.int .i64 bt])=_;rw[Bool.eq_iff_iff];simp[eE,ud,qy];exact fun _ _=>by decide
def vm(l:List Signed):List (DV × DV):=l.zipIdx.foldl (fun es p=>bU (bB.enc ⟨p.1.set.name,p.1.set.type⟩) (.int .i64 p.2) es) []
theorem Zx(l:List Signed)(x:Signed):vm (l++[x])=bU (bB.enc ⟨x.set.name,x.set.type⟩) (.int .i64 l.length) (vm l):=by
 rw[vm,List.zipIdx_append,List.foldl_append];simp[vm]
theorem OG{l:List Signed}{k:Nat}{x:Signed}(h:l[k]?=some x):vm (l.take (k+1))=bU (bB.enc ⟨x.set.name,x.set.type⟩) (.int .i64 k) (vm (l.take k)):=by
 have hk:k<l.length:=(List.getElem?_eq_some_iff.1 h).1;rw[cK h,Zx,List.length_take,Nat.min_eq_left (by omega)]
theorem OH(l:List Signed):mA bB.enc (vm l):=by
 have main:∀ (l:List (Signed × Nat)) (es:List (DV × DV)),mA bB.enc es->mA bB.enc (l.foldl (fun es p=>bU (bB.enc ⟨p.1.set.name,p.1.set.type⟩) (.int .i64 p.2) es) es):=by
  intro l
  induction l with
  |nil=>intro es h;exact h
  |cons p l ih=>intro es h;exact ih _ (GY h)
 exact main _ _ fun p hp=>by simp at hp
theorem Zy{q:bB}{x:Signed}(h:q≠⟨x.set.name,x.set.type⟩):cZ q x=false:=by
 cases e:cZ q x
 ·rfl
 ·exact absurd (HW e) h
theorem Zz{l:List Signed}{q:bB}{x:Signed}(h:q≠⟨x.set.name,x.set.type⟩):bh (l++[x]) q=bh l q:=by
 unfold bh;rw[List.findIdx?_append];cases e:l.findIdx? (cZ q)with
 |some k=>simp
 |none=>simp[List.findIdx?_cons,Zy h]
theorem OI{q:bB}{l:List Signed}(hs:gg l):∀ (k:Nat),k<=l.length->findD q.enc (vm (l.take k))=if 0<=bh (l.take k) q then some (.int .i64 (bh (l.take k) q))else none
 |0,_=>by simp[vm,findD,bh]
 |k+1,hk=>by
  obtain⟨x,hx⟩:=aG (l:=l) (k:=k) (by omega);have ih:=OI (q:=q) hs k (by omega);have ZA:gg (l.take (k+1)):=fun i j a b dQ ha hb=>by
   rw[List.getElem?_take]at ha hb;split at ha
   case isFalse=>cases ha
   split at hb
   case isFalse=>cases hb
   exact hs i j a b dQ ha hb
  rw[OG hx,GZ Zw (OH _)];by_cases e:q=⟨x.set.name,x.set.type⟩
  ·subst e;have:=Zm ZA (k:=k) (x:=x) (by rw[List.getElem?_take,if_pos (by omega)];exact hx);rw[if_pos rfl,this,if_pos (by omega)]
  ·rw[if_neg e,cK hx,Zz e];exact ih
theorem ZB{q:bB}{l:List Signed}(hs:gg l):findD q.enc (vm l)=if 0<=bh l q then some (.int .i64 (bh l q))else none:=by
 have:=OI (q:=q) hs l.length (Nat.le_refl _)
 rwa [List.take_length]at this
theorem H3(q:bB):dn E.T (.struct [(0,9),(1,3)]) q.enc:=⟨_,rfl,rfl,⟨_,rfl,_,rfl⟩,rfl,⟨_,rfl,_,rfl⟩,trivial⟩
theorem OJ(l:List Signed):∀ p∈vm l,dn E.T (.struct [(0,9),(1,3)]) p.1:=fun p hp=>by
 obtain⟨a,ha⟩:=OH l p hp;rw[ha];exact H3 a
def bD(z:aX)(q:bB)(cut:Text)(b:Bool)(w:Text):af := .cells [.d (.str z.aj),.d (.sl (z.ae.map Signed.enc)),.map 1,.d (.str q.name),.d (.int .i64 q.type),.d (.str cut),.d (.bool b),.d (.str w)]
def bp(z:aX):af := .map (vm z.ae)
theorem OL(a b:Text)(ha:Nm.valid a=true)(hb:Nm.valid b=true):aq E 294 [.str a,.str b] (· = .int .i64 (bC a b)):=by
 refine eP Tryz.func294 ?_;refine ao (GL a b ha hb) ?_;refine gO Tryz.func294 ?_
 with_reducible rfl
theorem vO(a b:Text)(ha:Nm.valid a=true)(hb:Nm.valid b=true):aq E 237 [.str a,.str b] (· = .bool (Nm.under a b)):=by
 have c1:=uU a b (by have:=dO ha;exact pt (by omega)) (by have:=dO hb;exact pt (by omega));refine eP Tryz.func237 ?_;refine ao (c1) ?_;refine gO Tryz.func237 ?_;rw[CO ha hb]
theorem ZC(z:aX)(q:bB)(hl:z.ae.length<=1000000):ar E 156 [] [.d z.enc,.d q.enc] (fun a b=>a=.ptr 3 0/\b=[.cells [.d (.str z.aj),.d (.sl (z.ae.map Signed.enc))],.cells [.d (.str q.name),.d (.int .i64 q.type)],.map (vm z.ae),.cells [.d (.str z.aj),.d (.sl (z.ae.map Signed.enc)),.map 2,.d (.str q.name),.d (.int .i64 q.type),.d (.str []),.d (.bool false),.d (.str [])]]):=by
 obtain⟨aj,l⟩:=z;obtain⟨qn,qt⟩:=q;show ar E _ [] [.d (DV.agg [.str aj,.sl (l.map Signed.enc)]),.d (DV.agg [.str qn,.int .i64 qt])] _;refine ar.run ab (fn:=Tryz.f156) Tryz.func156 (body:=Tryz.f156.body.getD .skip) rfl (by decide) 2000 rfl ?_;(conv=>whnf);refine I.bJ ab bG 2000 (by kernel_rfl) ?_;(conv=>whnf);refine bM.at rfl ?_;(conv=>whnf);refine kJ.op (Zv (kt:=36) (et:=3) (by kernel_rfl) (aS rfl)) ?_;refine gD ?_;refine And.intro (by kernel_rfl) ?_;(conv=>whnf);refine gO Tryz.func156 ?_;refine I.loop (κ:=Nat) ([6,7]++rg 22 18) (fun k=>[(22,.d (.int .i64 k))]) (fun k=>[(2,.map (vm (l.take k)))]) (fun k=>k<=l.length) (fun k=>l.length-k) 0 (Nat.zero_le _) ?_ ?_
 ·(conv=>whnf);repeat (first|exact trivial|(refine sI ?_;conv=>whnf))
  refine And.intro rfl ?_;exact sZ
 intro k hk IH;refine I.head ab Tryz.func156 2000 ?_;(conv=>whnf);refine ai (fun h5=>?_) (fun h5=>?_)
 ·have ah:k<l.length:=by simpa using h5
  obtain⟨x,hx⟩:=aG ah;have gS:=OG hx;simp only at hl;refine gO Tryz.func156 ?_;refine aB (e:=x.enc) (aN hx) rfl ?_;refine gO Tryz.func156 ?_;refine I.bJ ab bG 2000 (by kernel_rfl) ?_;(conv=>whnf);refine aV ⟨H3 ⟨x.set.name,x.set.type⟩,OJ _⟩ ?_;refine gD ?_;refine And.intro (by kernel_rfl) ?_;(conv=>whnf);refine gO Tryz.func156 ?_;refine I.back (IH (k+1) (by omega) (by omega)) ?_;rw[gS];exact sZ
 ·have aA:l.length<=k:=by simpa using h5
  rw[List.take_of_length_le aA];refine gO Tryz.func156 ?_;exact⟨rfl,rfl⟩
theorem rN(z:aX)(q:bB)(cut:Text)(b:Bool)(w:Text)(n:Text)(t:Int)(hs:gg z.ae):ar E 236 [bD z q cut b w,bp z] [.ptr 0 0,.d (.str n),.d (.int .i64 t)] (fun x h=>x=.d (.int .i64 (bh z.ae ⟨n,t⟩))/\h=[bD z q cut b w,bp z]):=by
 have hf:=ZB (q:=⟨n,t⟩) hs;have aA : -1<=bh z.ae ⟨n,t⟩:=gU.1;unfold bD bp;refine ar.run ab (fn:=Tryz.f236) Tryz.func236 (body:=Tryz.f236.body.getD .skip) rfl (by decide) 2000 rfl ?_;(conv=>whnf);have iw:=OJ z.ae;have OM:=H3 ⟨n,t⟩;by_cases h0:0<=bh z.ae ⟨n,t⟩
 ·rw[if_pos h0]at hf;refine oK (.int .i64 0) (.int .i64 0) (v := .int .i64 (bh z.ae ⟨n,t⟩)) (f:=true) OM iw (fun w=>by kernel_rfl) (fun _ _ => .int _ _) (by rw[hf];rfl) (by rw[hf];rfl) ?_;refine gO Tryz.func236 ?_;refine bj ?_;refine gO Tryz.func236 ?_;exact⟨rfl,rfl⟩
 ·rw[if_neg h0]at hf;refine oK (.int .i64 0) (.int .i64 0) (v := .int .i64 0) (f:=false) OM iw (fun w=>by kernel_rfl) (fun _ _ => .int _ _) (by rw[hf];rfl) (by rw[hf];rfl) ?_;refine gO Tryz.func236 ?_;refine aR ?_;refine gO Tryz.func236 ?_;exact⟨by rw[show bh z.ae ⟨n,t⟩ = -1 by omega],rfl⟩
theorem H4(z:aX)(q:bB)(cut:Text)(b:Bool)(w:Text)(hs:gg z.ae):ar E 240 [bD z q cut b w,bp z] [.ptr 0 0] (fun x h=>x=.d (.int .i64 (bh z.ae ⟨z.aj,4⟩))/\h=[bD z q cut b w,bp z]):=by
 have c1:=fun n t=>rN z q cut b w n t hs;unfold bD bp at c1;unfold bD bp;refine ar.run ab (fn:=Tryz.f240) Tryz.func240 (body:=Tryz.f240.body.getD .skip) rfl (by decide) 2000 rfl ?_;conv=>whnf
 with_reducible refine aO (c1 z.aj 4) ?_
 refine gO Tryz.func240 ?_;exact⟨rfl,rfl⟩
theorem ZD(l:List Int)(v:Int)(hl:l.length<=1000000):aq E 336 [.sl (l.map (.int .i64)),.int .i64 v] (fun r=>∃ n:Int,r=.int .i64 n/\(0<=n↔v∈l)):=by
 refine eP F336 ?_;refine I.loop (κ:=Nat) ([4,5]++rg 8 11) (fun k=>[(8,.d (.int .i64 k))]) (fun _=>[]) (fun k=>k<=l.length/\∀ j x,j<k->l[j]?=some x->v≠x) (fun k=>l.length-k) 0 ⟨Nat.zero_le _,fun j x h=>by omega⟩ ?_ ?_
 ·exact sZ
 rintro k ⟨hk,aJ⟩ IH;refine I.head ab F336 2000 ?_;(conv=>whnf);refine ai (fun h5=>?_) (fun h5=>?_)
 ·have ah:k<l.length:=by simpa using h5
  obtain⟨x,hx⟩:=aG ah;refine gO F336 ?_;refine aB (e := .int .i64 x) (aN hx) rfl ?_;refine gO F336 ?_;by_cases e:v=x
  ·refine aU (by simpa using e) ?_;refine gO F336 ?_;exact⟨k,rfl,fun _=>e ▸ List.mem_of_getElem? hx,fun _=>by omega⟩
  ·refine aW (by simpa using e) ?_;refine gO F336 ?_;refine I.back (IH (k+1) ⟨by omega,fun j y hj hy=>?_⟩ (by omega)) ?_
   ·rcases Nat.lt_or_eq_of_le (Nat.le_of_lt_succ hj)with h|h
    ·exact aJ j y h hy
    ·subst h;rw[hx]at hy;cases hy;exact e
   exact sZ
 ·have aA:k=l.length:=by simp at h5;omega
  subst aA;refine gO F336 ?_;refine⟨-1,rfl,fun h=>absurd h (by decide),fun h=>?_⟩;obtain⟨j,hj⟩:=List.getElem?_of_mem h;exact absurd rfl (aJ j v (List.getElem?_eq_some_iff.1 hj).1 hj)
theorem ZE(l:List Int)(v:Int)(hl:l.length<=1000000):aq E 291 [.sl (l.map (.int .i64)),.int .i64 v] (· = .bool (decide (v∈l))):=by
 refine eP Tryz.func291 ?_
 with_reducible refine wU (ZD l v hl) ?_
 rintro r ⟨n,rfl,hn⟩;refine gO Tryz.func291 ?_;rw[show decide (n>=0)=decide (v∈l) by rw[Bool.eq_iff_iff,decide_eq_true_eq,decide_eq_true_eq];exact hn]
theorem ZF(z:aX)(q:bB)(cut:Text)(b:Bool)(w n:Text)(hv:∀ s∈z.ae,Nm.valid s.set.name=true)(hn:Nm.valid n=true){i:Nat}{s:Signed}(hi:z.ae[i]?=some s):ar E 293 [.cells [.ptr 2 0],.cells [.d (.str n)],.cells [.d (.str z.aj),.d (.sl (z.ae.map Signed.enc)),.map 3,.d (.str q.name),.d (.int .i64 q.type),.d (.str cut),.d (.bool b),.d (.str w)],bp z] [.d (.int .i64 i),.ptr 0 0,.ptr 1 0] (fun x h=>x=.d (.bool (!ji n s))/\h=[.cells [.ptr 2 0],.cells [.d (.str n)],.cells [.d (.str z.aj),.d (.sl (z.ae.map Signed.enc)),.map 3,.d (.str q.name),.d (.int .i64 q.type),.d (.str cut),.d (.bool b),.d (.str w)],bp z]):=by
 have c1:=OL s.set.name n (hv s (List.mem_of_getElem? hi)) hn;unfold bp;refine ar.run ab (fn:=Tryz.f293) Tryz.func293 (body:=Tryz.f293.body.getD .skip) rfl (by decide) 2000 rfl ?_;(conv=>whnf);refine I.bJ ab bG 2000 (by kernel_rfl) ?_;(conv=>whnf);refine aB (e:=s.enc) (aN hi) rfl ?_;refine gD ?_;refine au (c1) ?_;refine gD ?_;refine gO Tryz.func293 ?_;refine⟨?_,rfl⟩;refine congrArg (fun b=>AV.d (DV.bool b)) ?_;unfold ji;rw[Bool.eq_iff_iff];simp
theorem ZG(z:aX)(q:bB)(cut:Text)(b:Bool)(w n:Text)(hs:gg z.ae)(hl:z.ae.length<=1000000)(hv:∀ s∈z.ae,Nm.valid s.set.name=true)(hn:Nm.valid n=true):ar E 292 [.cells [.ptr 2 0],.cells [.d (.str n)],.cells [.d (.str z.aj),.d (.sl (z.ae.map Signed.enc)),.map 3,.d (.str q.name),.d (.int .i64 q.type),.d (.str cut),.d (.bool b),.d (.str w)],bp z] [.d (.int .i64 z.ae.length),.fn (.func 293) [] [.ptr 0 0,.ptr 1 0]] (fun x h=>x=.d (.int .i64 (iq (ji n) z.ae))/\h=[.cells [.ptr 2 0],.cells [.d (.str n)],.cells [.d (.str z.aj),.d (.sl (z.ae.map Signed.enc)),.map 3,.d (.str q.name),.d (.int .i64 q.type),.d (.str cut),.d (.bool b),.d (.str w)],bp z]):=by
 have c1:=fun i s hi=>ZF z q cut b w n hv hn (i:=i) (s:=s) hi;have hc:∀ i s,z.ae[i]?=some s->(ji n s=true↔i<iq (ji n) z.ae):=fun i s hi=>by rw[<- lt_iff hs hi];simp[ji]
 have dA:=AP (P:=ji n) (l:=z.ae);generalize iq (ji n) z.ae=m at *;unfold bp at *;refine ar.run ab (fn:=Tryz.f292) Tryz.func292 (body:=Tryz.f292.body.getD .skip) rfl (by decide) 2000 rfl ?_;(conv=>whnf);refine I.loop (κ:=Nat × Nat) [5,6,7,9,10,11,12,13,14,15,16,17,18,19,20,21,22,23,24] (fun k=>[(5,.d (.int .i64 k.1)),(6,.d (.int .i64 k.2))]) (fun _=>[]) (fun k=>k.1<=m/\m<=k.2/\k.2<=z.ae.length) (fun k=>k.2-k.1) (0,z.ae.length) ⟨Nat.zero_le _,dA,Nat.le_refl _⟩ ?_ ?_
 ·exact sZ
 rintro⟨i,j⟩ ⟨k1,k2,k3⟩ IH;simp only at k1 k2 k3;refine I.head ab F292 2000 ?_;(conv=>whnf);refine ai (fun h5=>?_) (fun h5=>?_)
 ·have ah:i<j:=by simpa using h5
  obtain⟨x,hx⟩:=aG (l:=z.ae) (k:=(i+j) / 2) (by omega);have Ae:=OA (i:=i) (j:=j) (by omega);have AR:=hc _ x hx;refine gO F292 ?_;refine aV (by decide) ?_;refine gO F292 ?_;rw[show IntKind.i64.wrap (lu .shr .u64 (IntKind.u64.wrap (IntKind.i64.wrap (((i,j).fst:Int)+((i,j).snd:Int)))) (Int.toNat 1))=(((i+j) / 2:Nat):Int)from Ae]
  with_reducible refine aO (c1 _ x hx) ?_
  refine gO F292 ?_;cases h6:ji n x
  ·have:¬ (i+j) / 2<m:=fun e=>by rw[AR.2 e]at h6;cases h6
   refine aW (by decide) ?_;refine gO F292 ?_;refine I.back (IH (i,(i+j) / 2) ⟨k1,by simp only;omega,by simp only;omega⟩ (by simp only;omega)) ?_;exact sZ
  ·have:=AR.1 h6;refine aU (by decide) ?_;refine gO F292 ?_;refine I.back (IH ((i+j) / 2+1,j) ⟨by simp only;omega,k2,k3⟩ (by simp only;omega)) ?_;exact sZ
 ·have aA:i=m:=by simp at h5;omega
  subst aA;refine gO F292 ?_;exact⟨rfl,rfl⟩
theorem ZH(z:aX)(q:bB)(cut:Text)(b:Bool)(w n:Text)(hs:gg z.ae)(hl:z.ae.length<=1000000)(hv:∀ s∈z.ae,Nm.valid s.set.name=true)(hn:Nm.valid n=true):ar E 239 [bD z q cut b w,bp z] [.ptr 0 0,.d (.str n)] (fun x h=>x=.d (.bool (kr z.ae n))/\h=[bD z q cut b w,bp z,.cells [.ptr 0 0],.cells [.d (.str n)]]):=by
 have c1:=ZG z q cut b w n hs hl hv hn;have hex:=Zt hs (n:=n);have dA:=AP (P:=ji n) (l:=z.ae);rw[hex];generalize iq (ji n) z.ae=m at *;clear hex;unfold bp at c1;unfold bD bp;refine ar.run ab (fn:=Tryz.f239) Tryz.func239 (body:=Tryz.f239.body.getD .skip) rfl (by decide) 2000 rfl ?_;(conv=>whnf);rw[show((z.ae.map Signed.enc).length:Int)=(z.ae.length:Int) by simp]
 with_reducible refine aO (c1) ?_
 refine gO Tryz.func239 ?_;rcases Nat.lt_or_ge m z.ae.length with h1|h1
 ·obtain⟨x,hx⟩:=aG h1;have c2:=vO x.set.name n (hv x (List.mem_of_getElem? hx)) hn;rw[hx];refine I.bJ ab bG 2000 (by kernel_rfl) ?_;(conv=>whnf);refine aU (decide_eq_true (by simp;omega)) ?_;refine gD ?_;refine aB (e:=x.enc) (aN hx) rfl ?_;refine gD ?_;refine au (c2) ?_;refine gD ?_;refine gO Tryz.func239 ?_;exact⟨rfl,rfl⟩
 ·rw[List.getElem?_eq_none h1];refine I.bJ ab bG 2000 (by kernel_rfl) ?_;(conv=>whnf);refine aW (decide_eq_false (by simp;omega)) ?_;refine gD ?_;refine gO Tryz.func239 ?_;exact⟨rfl,rfl⟩
def pa(k:Int)(l:List Signed)(c:Text):DV := .agg [.int .i64 k,.sl (l.map Signed.enc),.str c]
theorem ZI{z:aX}{ps:List Int}{k:Nat}{p:Int}(hp:ps[k]?=some p){s:Signed}(h0:0<=p)(hs:z.ae[p.toNat]?=some s):eH z.ae (c7 (ps.take (k+1)))=if p∈ps.take k then eH z.ae (c7 (ps.take k))else eH z.ae (c7 (ps.take k))++[s]:=by
 rw[OC hp,Zr h0 hs];have:p∈c7 (ps.take k)↔p∈ps.take k:=by rw[Zo];exact⟨fun h=>h.2,fun h=>⟨h0,h⟩⟩
 by_cases e:p∈ps.take k
 ·rw[if_pos e,if_pos (this.2 e)]
 ·rw[if_neg e,if_neg (fun h=>e (this.1 h))]
theorem ZJ{ps:List Int}{k:Nat}{p:Int}(hp:ps[k]?=some p)(h0:p<0):c7 (ps.take (k+1))=c7 (ps.take k):=by
 rw[OC hp,lb,if_pos (.inl h0)]
theorem ZK(z:aX)(q:bB)(cut:Text)(b:Bool)(w:Text)(kind:Int)(ps:List Int)(hf:z.lP)(gM:∀ p∈ps,p<z.ae.length)(hl:ps.length<=1000):ar E 238 [bD z q cut b w,bp z] [.ptr 0 0,.d (.int .i64 kind),.d (.sl (ps.map (.int .i64)))] (fun x h=>x=.d (pa kind (eH z.ae (c7 ps)) [])/\h=[bD z q cut b w,bp z,.cells [.d (.int .i64 kind),.d (.sl ((eH z.ae (c7 ps)).map Signed.enc)),.d (.str [])],.cells [.d (.int .i64 kind),.d (.sl ((eH z.ae (c7 ps)).map Signed.enc)),.d (.str [])],.gone]):=by
 obtain⟨oP,iO⟩:=hf;unfold bD bp pa;refine ar.run ab (fn:=Tryz.f238) Tryz.func238 (body:=Tryz.f238.body.getD .skip) rfl (by decide) 2000 rfl ?_;(conv=>whnf);refine I.pK 3 1 (102,5) (by decide) rfl rfl ?_;(conv=>whnf);refine I.loop (κ:=Nat) ([8,9,10]++rg 15 38) (fun k=>[(15,.d (.int .i64 k))]) (fun k=>[(3,.cells [.d (.int .i64 kind),.own 4 1,.d (.str [])]),(4,.arr 1 (102,5) ((eH z.ae (c7 (ps.take k))).map Signed.enc))]) (fun k=>k<=ps.length) (fun k=>ps.length-k) 0 (Nat.zero_le _) ?_ ?_
 ·(conv=>whnf);repeat (first|exact trivial|(refine sI ?_;conv=>whnf))
  refine And.intro rfl ?_;exact sZ
 intro k hk IH;refine I.head ab F238 2000 ?_;(conv=>whnf);refine ai (fun h5=>?_) (fun h5=>?_)
 ·have ah:k<ps.length:=by simpa using h5
  obtain⟨p,hp⟩:=aG ah;refine gO F238 ?_;refine aB (e := .int .i64 p) (aN hp) rfl ?_;refine gO F238 ?_;refine ai (fun h6=>?_) (fun h6=>?_)
  ·have h0:=of_decide_eq_true h6;have gS:=ZJ hp h0;refine gO F238 ?_;refine bj ?_;refine gO F238 ?_;refine I.back (IH (k+1) (by omega) (by omega)) ?_;rw[gS];exact sZ
  ·have h0:=of_decide_eq_false h6;obtain⟨x,hx⟩:=aG (l:=z.ae) (k:=p.toNat) (by have:=gM p (List.mem_of_getElem? hp);omega);have gS:=ZI (z:=z) hp (by omega) hx;have mS:List.drop ((none:Option Int).getD 0).toNat (List.take ((some (k:Int)).getD ((ps.map (DV.int .i64)).length:Int)).toNat (ps.map (DV.int .i64)))=(ps.take k).map (DV.int .i64):=by simp[List.map_take]
   have c1:=ZE (ps.take k) p (by simp;omega);have A1:sO (z.ae.map Signed.enc) p x.enc:=by
    have:=aN (f:=Signed.enc) hx
    rwa [Int.toNat_of_nonneg (by omega)]at this
   have iE:=Zq (l:=z.ae) (ps:=c7 (ps.take k));have lp:=Zp (ps:=ps.take k);obtain⟨q1,q2⟩:=iO x (List.mem_of_getElem? hx);refine gO F238 ?_;refine aV ⟨by simp,by simp,by simp;omega,fun e he=>by obtain⟨y,_,rfl⟩:=List.mem_map.1 he;rfl⟩ ?_;(conv=>whnf);rw[mS];refine gO F238 ?_;refine ao (c1) ?_;refine gO F238 ?_;by_cases fL:p∈ps.take k
   ·rw[if_pos fL]at gS;refine aU (decide_eq_true fL) ?_;refine gO F238 ?_;refine I.back (IH (k+1) (by omega) (by omega)) ?_;rw[gS];exact sZ
   ·rw[if_neg fL]at gS;refine aW (decide_eq_false fL) ?_;refine gO F238 ?_;refine aB (e:=x.enc) A1 rfl ?_;refine gO F238 ?_;refine ao (C0 (x.set.data.map Datum.enc) (by simpa using q1) (fun e h=>by obtain⟨d,_,rfl⟩:=List.mem_map.1 h;simp[DV.cells])) ?_;refine gO F238 ?_;refine ao (MU (x.sigs.map da.enc) (by simpa using q2) (fun e h=>by obtain⟨d,_,rfl⟩:=List.mem_map.1 h;simp[DV.cells])) ?_;refine gO F238 ?_
    refine aV ⟨by have : (ps.take k).length <= 1000 := by{ rw[List.length_take];omega }
                  simp only[List.length_map, List.length_cons, List.length_nil];omega, by simp[DV.cells]⟩ ?_
    refine gO F238 ?_;refine I.back (IH (k+1) (by omega) (by omega)) ?_;rw[gS];(conv=>whnf);repeat (first|exact trivial|(refine sI ?_;conv=>whnf))
    refine And.intro (by simp) ?_;exact sZ
 ·have aA:ps.length<=k:=by simpa using h5
  rw[List.take_of_length_le aA];(conv=>whnf);refine I.freeze 4 ?_;(conv=>whnf);refine gO F238 ?_;exact⟨rfl,rfl⟩
theorem ZL(z:aX)(q:bB)(cut:Text)(b:Bool)(w n:Text)(hv:∀ s∈z.ae,Nm.valid s.set.name=true)(hn:Nm.valid n=true){i:Nat}{s:Signed}(hi:z.ae[i]?=some s):ar E 338 [.cells [.ptr 2 0],.cells [.d (.str n)],.cells [.d (.str z.aj),.d (.sl (z.ae.map Signed.enc)),.map 3,.d (.str q.name),.d (.int .i64 q.type),.d (.str cut),.d (.bool b),.d (.str w)],bp z] [.d (.int .i64 i),.ptr 0 0,.ptr 1 0] (fun x h=>x=.d (.bool (!jD n s))/\h=[.cells [.ptr 2 0],.cells [.d (.str n)],.cells [.d (.str z.aj),.d (.sl (z.ae.map Signed.enc)),.map 3,.d (.str q.name),.d (.int .i64 q.type),.d (.str cut),.d (.bool b),.d (.str w)],bp z]):=by
 have c1:=OL s.set.name n (hv s (List.mem_of_getElem? hi)) hn;unfold bp;refine ar.run ab (fn:=Tryz.f338) Tryz.func338 (body:=Tryz.f338.body.getD .skip) rfl (by decide) 2000 rfl ?_;(conv=>whnf);refine I.bJ ab bG 2000 (by kernel_rfl) ?_;(conv=>whnf);refine aB (e:=s.enc) (aN hi) rfl ?_;refine gD ?_;refine au (c1) ?_;refine gD ?_;refine gO Tryz.func338 ?_;refine⟨?_,rfl⟩;refine congrArg (fun b=>AV.d (DV.bool b)) ?_;unfold jD;rw[Bool.eq_iff_iff];simp
theorem ZM(z:aX)(q:bB)(cut:Text)(b:Bool)(w n:Text)(hs:gg z.ae)(hl:z.ae.length<=1000000)(hv:∀ s∈z.ae,Nm.valid s.set.name=true)(hn:Nm.valid n=true):ar E 292 [.cells [.ptr 2 0],.cells [.d (.str n)],.cells [.d (.str z.aj),.d (.sl (z.ae.map Signed.enc)),.map 3,.d (.str q.name),.d (.int .i64 q.type),.d (.str cut),.d (.bool b),.d (.str w)],bp z] [.d (.int .i64 z.ae.length),.fn (.func 338) [] [.ptr 0 0,.ptr 1 0]] (fun x h=>x=.d (.int .i64 (iq (jD n) z.ae))/\h=[.cells [.ptr 2 0],.cells [.d (.str n)],.cells [.d (.str z.aj),.d (.sl (z.ae.map Signed.enc)),.map 3,.d (.str q.name),.d (.int .i64 q.type),.d (.str cut),.d (.bool b),.d (.str w)],bp z]):=by
 have c1:=fun i s hi=>ZL z q cut b w n hv hn (i:=i) (s:=s) hi;have hc:∀ i s,z.ae[i]?=some s->(jD n s=true↔i<iq (jD n) z.ae):=fun i s hi=>by rw[<- le_iff hs hi];simp[jD]
 have dA:=AP (P:=jD n) (l:=z.ae);generalize iq (jD n) z.ae=m at *;unfold bp at *;refine ar.run ab (fn:=Tryz.f292) Tryz.func292 (body:=Tryz.f292.body.getD .skip) rfl (by decide) 2000 rfl ?_;(conv=>whnf);refine I.loop (κ:=Nat × Nat) [5,6,7,9,10,11,12,13,14,15,16,17,18,19,20,21,22,23,24] (fun k=>[(5,.d (.int .i64 k.1)),(6,.d (.int .i64 k.2))]) (fun _=>[]) (fun k=>k.1<=m/\m<=k.2/\k.2<=z.ae.length) (fun k=>k.2-k.1) (0,z.ae.length) ⟨Nat.zero_le _,dA,Nat.le_refl _⟩ ?_ ?_
 ·exact sZ
 rintro⟨i,j⟩ ⟨k1,k2,k3⟩ IH;simp only at k1 k2 k3;refine I.head ab F292 2000 ?_;(conv=>whnf);refine ai (fun h5=>?_) (fun h5=>?_)
 ·have ah:i<j:=by simpa using h5
  obtain⟨x,hx⟩:=aG (l:=z.ae) (k:=(i+j) / 2) (by omega);have Ae:=OA (i:=i) (j:=j) (by omega);have AR:=hc _ x hx;refine gO F292 ?_;refine aV (by decide) ?_;refine gO F292 ?_;rw[show IntKind.i64.wrap (lu .shr .u64 (IntKind.u64.wrap (IntKind.i64.wrap (((i,j).fst:Int)+((i,j).snd:Int)))) (Int.toNat 1))=(((i+j) / 2:Nat):Int)from Ae]
  with_reducible refine aO (c1 _ x hx) ?_
  refine gO F292 ?_;cases h6:jD n x
  ·have:¬ (i+j) / 2<m:=fun e=>by rw[AR.2 e]at h6;cases h6
   refine aW (by decide) ?_;refine gO F292 ?_;refine I.back (IH (i,(i+j) / 2) ⟨k1,by simp only;omega,by simp only;omega⟩ (by simp only;omega)) ?_;exact sZ
  ·have:=AR.1 h6;refine aU (by decide) ?_;refine gO F292 ?_;refine I.back (IH ((i+j) / 2+1,j) ⟨by simp only;omega,k2,k3⟩ (by simp only;omega)) ?_;exact sZ
 ·have aA:i=m:=by simp at h5;omega
  subst aA;refine gO F292 ?_;exact⟨rfl,rfl⟩
theorem ZN(z:aX)(q:bB)(cut:Text)(b:Bool)(w n:Text):ar E 295 [bD z q cut b w,bp z] [.ptr 0 0,.d (.str n)] (fun x h=>x=.fn (.func 337) [] [.ptr 2 0,.ptr 3 0]/\h=[bD z q cut b w,bp z,.cells [.ptr 0 0],.cells [.d (.str n)]]):=by
 unfold bD bp;refine ar.run ab (fn:=Tryz.f295) Tryz.func295 (body:=Tryz.f295.body.getD .skip) rfl (by decide) 2000 rfl ?_;(conv=>whnf);exact⟨rfl,rfl⟩
theorem ZO{P:Nat->Bool}{k:Nat}:qa P (k+1)=if P k then(k:Int)else qa P k:=rfl
theorem ZP(z:aX)(q:bB)(cut:Text)(b:Bool)(w n:Text)(hs:gg z.ae)(hl:z.ae.length<=1000000)(hv:∀ s∈z.ae,Nm.valid s.set.name=true)(hn:Nm.valid n=true):ar E 241 [bD z q cut b w,bp z] [.ptr 0 0,.d (.str n)] (fun x h=>x=.d (.int .i64 (eT z.ae n))/\h=[bD z q cut b w,bp z,.cells [.ptr 0 0],.cells [.d (.int .i64 (eT z.ae n))],.cells [.ptr 0 0],.cells [.d (.str n)]]):=by
 have c1:=ZN z q cut b w n;have c2:=ZM z q cut b w n hs hl hv hn;have dA:=AP (P:=jD n) (l:=z.ae);unfold eT;generalize iq (jD n) z.ae=m at *;unfold bp at c2;unfold bD bp at c1;unfold bD bp;refine ar.run ab (fn:=Tryz.f241) Tryz.func241 (body:=Tryz.f241.body.getD .skip) rfl (by decide) 2000 rfl ?_;conv=>whnf
 with_reducible refine aO (c1) ?_
 refine gO F241 ?_;refine I.rangeFunc (aS rfl) Tryz.func337 rfl (by decide) rfl (fun ll d t=>?_);refine gO F337 ?_;rw[show((z.ae.map Signed.enc).length:Int)=(z.ae.length:Int) by simp]
 with_reducible refine aO (c2) ?_
 refine gO F337 ?_;refine I.loop (κ:=Nat) ([5]++rg 15 8) (fun k=>[(5,.d (.int .i64 ((k:Int)-1)))]) (fun k=>[]) (fun k=>k<=m/\qa (x6 z.ae) m=qa (x6 z.ae) k) (fun k=>k) m ⟨Nat.le_refl _,rfl⟩ ?_ ?_
 ·exact sZ
 rintro k ⟨hk,vK⟩ IH;refine I.head ab F337 2000 ?_;(conv=>whnf);refine ai (fun h5=>?_) (fun h5=>?_)
 ·have h5:=of_decide_eq_true h5;obtain⟨k,rfl⟩:∃ j,k=j+1:=⟨k-1,by omega⟩;obtain⟨x,hx⟩:=aG (l:=z.ae) (k:=k) (by omega);have A1:sO (z.ae.map Signed.enc) (((k+1:Nat):Int)-1) x.enc:=by
   rw[show(((k+1:Nat):Int)-1)=(k:Int) by omega];exact aN hx
  have hw:IntKind.i64.wrap ((((k+1:Nat):Int)-1)-1)=(k:Int)-1:=by rw[wrap64 (by omega) (by omega)];omega
  have FK:x6 z.ae k=(x.set.type==8):=by simp[x6,hx]
  rw[ZO,FK]at vK;refine gO F337 ?_;refine I.yield 0 rfl rfl rfl (aS rfl) (ml (aS rfl)) rfl ?_;(conv=>whnf);refine gO F241 ?_;refine I.begin 0 rfl rfl rfl ?_;(conv=>whnf);refine gO F241 ?_;refine aB (e:=x.enc) A1 rfl ?_;refine gO F241 ?_;cases ht:(x.set.type==8)
  ·rw[ht]at vK;refine aR ?_;refine gO F241 ?_;refine I.pM 0 rfl rfl rfl ?_;(conv=>whnf);refine gO F337 ?_;refine aW (by decide) ?_;refine gO F337 ?_;refine I.back (IH k ⟨by omega,vK⟩ (by omega)) ?_;exact sZ
  ·rw[ht]at vK;refine bj ?_;refine gO F241 ?_;refine I.Ci 0 rfl rfl rfl ?_;(conv=>whnf);refine gO F337 ?_;refine aU (by decide) ?_;refine gO F337 ?_;refine I.kN ab F337 rfl rfl rfl rfl (fun e=>nomatch e) ?_;(conv=>whnf);refine gO F241 ?_;refine I.mo ab F241 rfl rfl rfl rfl rfl ?_;(conv=>whnf);rw[vK,if_pos rfl,show(((k+1:Nat):Int)-1)=(k:Int) by omega];exact⟨rfl,rfl⟩
 ·have aA:k=0:=by have:=of_decide_eq_false h5;omega
  subst aA;refine gO F337 ?_;refine I.kN ab F337 rfl rfl rfl rfl (fun e=>nomatch e) ?_;(conv=>whnf);refine gO F241 ?_;refine I.mo ab F241 rfl rfl rfl rfl rfl ?_;(conv=>whnf);rw[vK];exact⟨rfl,rfl⟩
theorem AS(z:aX)(q:bB)(cut:Text)(b:Bool)(w n:Text)(V:iJ z)(hn:Nm.valid n=true):ar E 239 [bD z q cut b w,bp z] [.ptr 0 0,.d (.str n)] (fun x h=>x=.d (.bool (kr z.ae n))/\h=[bD z q cut b w,bp z]) :=
 ar.qO (ZH z q cut b w n V.sorted (by have:=V.len;omega) V.names hn) rfl rfl
theorem vP(z:aX)(q:bB)(cut:Text)(b:Bool)(w n:Text)(V:iJ z)(hn:Nm.valid n=true):ar E 241 [bD z q cut b w,bp z] [.ptr 0 0,.d (.str n)] (fun x h=>x=.d (.int .i64 (eT z.ae n))/\h=[bD z q cut b w,bp z]) :=
 ar.qO (ZP z q cut b w n V.sorted (by have:=V.len;omega) V.names hn) rfl rfl
theorem mL(z:aX)(q:bB)(cut:Text)(b:Bool)(w:Text)(kind:Int)(ps:List Int)(hf:z.lP)(gM:∀ p∈ps,p<z.ae.length)(hl:ps.length<=1000):ar E 238 [bD z q cut b w,bp z] [.ptr 0 0,.d (.int .i64 kind),.d (.sl (ps.map (.int .i64)))] (fun x h=>x=.d (pa kind (eH z.ae (c7 ps)) [])/\h=[bD z q cut b w,bp z]) :=
 ar.qO (ZK z q cut b w kind ps hf gM hl) rfl rfl
theorem ZQ(z:aX)(q:bB)(cut:Text)(b:Bool)(w:Text)(V:iJ z)(hf:z.lP):ar E 158 [bD z q cut b w,bp z] [.ptr 0 0] (fun x h=>x=.aD [.d (pa 1 (eH z.ae (c7 [bh z.ae q])) []),.d (.bool (decide (bh z.ae q>=0)))]/\h=[bD z q cut b w,bp z]):=by
 have c1:=rN z q cut b w q.name q.type V.sorted;have c2:=mL z q cut b w 1 [bh z.ae q] hf (fun p hp=>by simp at hp;subst hp;exact gU.2) (by simp);simp only[List.map_cons,List.map_nil]at c2;unfold bD bp at c1 c2;apply ar.qO
 case hk=>rfl
 case hc =>
  unfold bD bp;refine ar.run ab (fn:=Tryz.f158) Tryz.func158 (body:=Tryz.f158.body.getD .skip) rfl (by decide) 2000 rfl ?_;(conv=>whnf);refine I.bJ ab bG 2000 (by kernel_rfl) ?_;(conv=>whnf);refine jS (c1) ?_;refine And.intro rfl ?_;refine gD ?_;refine gO Tryz.func158 ?_
  with_reducible refine aO (c2) ?_
  refine gO Tryz.func158 ?_;exact⟨rfl,rfl⟩
 case hr=>rfl
theorem ZR(z:aX)(q:bB)(cut:Text)(b:Bool)(w:Text)(V:iJ z)(hf:z.lP):ar E 159 [bD z q cut b w,bp z] [.ptr 0 0] (fun x h=>x=.aD [.d (pa 3 (eH z.ae (c7 [bh z.ae ⟨q.name,3⟩])) []),.d (.bool (decide (bh z.ae ⟨q.name,3⟩>=0)&&(q.type != 8)))]/\h=[bD z q cut b w,bp z]):=by
 have c1:=rN z q cut b w q.name 3 V.sorted;have ah:=(gU (l:=z.ae) (q:=⟨q.name,3⟩)).2;generalize bh z.ae ⟨q.name,3⟩=i at *;have c2:=mL z q cut b w 3 [i] hf (fun p hp=>by simp at hp;subst hp;exact ah) (by simp);simp only[List.map_cons,List.map_nil]at c2;unfold bD bp at c1 c2;apply ar.qO
 case hk=>rfl
 case hc =>
  unfold bD bp;refine ar.run ab (fn:=Tryz.f159) Tryz.func159 (body:=Tryz.f159.body.getD .skip) rfl (by decide) 2000 rfl ?_;conv=>whnf
  with_reducible refine aO (c1) ?_
  refine gO Tryz.func159 ?_;refine I.bJ ab bG 2000 (by kernel_rfl) ?_;(conv=>whnf);refine zx (c2) ?_;refine gD ?_;by_cases h:i>=0
  ·refine aU (decide_eq_true h) ?_;refine gD ?_;refine And.intro (by kernel_rfl) ?_;(conv=>whnf);refine gO Tryz.func159 ?_;rw[decide_eq_true h,Bool.true_and];exact⟨rfl,rfl⟩
  ·refine aW (decide_eq_false h) ?_;refine gD ?_;refine And.intro (by kernel_rfl) ?_;(conv=>whnf);refine gO Tryz.func159 ?_;rw[decide_eq_false h,Bool.false_and];exact⟨rfl,rfl⟩
 case hr=>rfl
theorem ON(z:aX)(q:bB)(cut:Text)(b:Bool)(w:Text)(V:iJ z)(hf:z.lP)(hq:Nm.valid q.name=true):ar E 161 [bD z q cut b w,bp z] [.ptr 0 0] (fun x h=>x=.aD [.d (pa 2 (eH z.ae (c7 [bh z.ae ⟨w,q.type⟩,eT z.ae q.name])) []),.d (.bool (decide (bh z.ae ⟨w,q.type⟩>=0)))]/\h=[bD z q cut b w,bp z]):=by
 have c1:=rN z q cut b w w q.type V.sorted;have c3:=vP z q cut b w q.name V hq;have ah:=(gU (l:=z.ae) (q:=⟨w,q.type⟩)).2;have lO:=(vL (l:=z.ae) (n:=q.name)).2;generalize bh z.ae ⟨w,q.type⟩=i at *;generalize eT z.ae q.name=j at *;have c2:=mL z q cut b w 2 [i,j] hf (fun p hp=>by simp at hp;rcases hp with rfl|rfl<;>assumption) (by simp);simp only[List.map_cons,List.map_nil]at c2;unfold bD bp at c1 c2 c3;apply ar.qO
 case hk=>rfl
 case hc =>
  unfold bD bp;refine ar.run ab (fn:=Tryz.f161) Tryz.func161 (body:=Tryz.f161.body.getD .skip) rfl (by decide) 2000 rfl ?_;(conv=>whnf);refine I.bJ ab bG 2000 (by kernel_rfl) ?_;(conv=>whnf);refine jS (c1) ?_;refine And.intro rfl ?_;refine gD ?_;refine gO Tryz.func161 ?_
  with_reducible refine aO (c3) ?_
  refine gO Tryz.func161 ?_
  with_reducible refine aO (c2) ?_
  refine gO Tryz.func161 ?_;exact⟨rfl,rfl⟩
 case hr=>rfl
theorem OO(z:aX)(q:bB)(cut:Text)(b:Bool)(w:Text)(V:iJ z)(hf:z.lP)(hq:Nm.valid q.name=true):ar E 162 [bD z q cut b w,bp z] [.ptr 0 0] (fun x h=>x=.aD [.d (pa 3 (eH z.ae (c7 [bh z.ae ⟨w,3⟩,eT z.ae q.name])) []),.d (.bool (decide (bh z.ae ⟨w,3⟩>=0)&&(q.type != 8)))]/\h=[bD z q cut b w,bp z]):=by
 have c1:=rN z q cut b w w 3 V.sorted;have c3:=vP z q cut b w q.name V hq;have ah:=(gU (l:=z.ae) (q:=⟨w,3⟩)).2;have lO:=(vL (l:=z.ae) (n:=q.name)).2;generalize bh z.ae ⟨w,3⟩=i at *;generalize eT z.ae q.name=j at *;have c2:=mL z q cut b w 3 [i,j] hf (fun p hp=>by simp at hp;rcases hp with rfl|rfl<;>assumption) (by simp);simp only[List.map_cons,List.map_nil]at c2;unfold bD bp at c1 c2 c3;apply ar.qO
 case hk=>rfl
 case hc =>
  unfold bD bp;refine ar.run ab (fn:=Tryz.f162) Tryz.func162 (body:=Tryz.f162.body.getD .skip) rfl (by decide) 2000 rfl ?_;conv=>whnf
  with_reducible refine aO (c1) ?_
  refine gO Tryz.func162 ?_;refine I.bJ ab bG 2000 (by kernel_rfl) ?_;(conv=>whnf);refine jS (c3) ?_;refine And.intro rfl ?_;refine gD ?_;refine jS (c2) ?_;refine And.intro rfl ?_;refine gD ?_;by_cases h:i>=0
  ·refine aU (decide_eq_true h) ?_;refine gD ?_;refine gO Tryz.func162 ?_;rw[decide_eq_true h,Bool.true_and];exact⟨rfl,rfl⟩
  ·refine aW (decide_eq_false h) ?_;refine gD ?_;refine gO Tryz.func162 ?_;rw[decide_eq_false h,Bool.false_and];exact⟨rfl,rfl⟩
 case hr=>rfl
theorem OP(z:aX)(q:bB)(cut:Text)(b:Bool)(w:Text)(V:iJ z)(hf:z.lP)(hq:Nm.valid q.name=true)(hw:w=[]\/Nm.valid w=true):ar E 164 [bD z q cut b w,bp z] [.ptr 0 0] (fun x h=>x=.d (pa 6 (eH z.ae (c7 (if w=[]then[bh z.ae ⟨z.aj,4⟩,eT z.ae q.name,-1]else[bh z.ae ⟨z.aj,4⟩,eT z.ae q.name,eT z.ae w]))) [])/\h=[bD z q cut b w,bp z]):=by
 have c1:=H4 z q cut b w V.sorted;have c3:=vP z q cut b w q.name V hq;have ah:=(gU (l:=z.ae) (q:=⟨z.aj,4⟩)).2;have lO:=(vL (l:=z.ae) (n:=q.name)).2;have ZS:=(vL (l:=z.ae) (n:=w)).2;generalize bh z.ae ⟨z.aj,4⟩=i at *;by_cases he:w=[]
 ·rw[if_pos he];generalize eT z.ae q.name=j at *;have c2:=mL z q cut b w 6 [i,j,-1] hf (fun p hp=>by simp at hp;rcases hp with rfl|rfl|rfl<;>first|assumption|omega) (by simp);simp only[List.map_cons,List.map_nil]at c2;unfold bD bp at c1 c2 c3;apply ar.qO
  case hk=>rfl
  case hc =>
   unfold bD bp;refine ar.run ab (fn:=Tryz.f164) Tryz.func164 (body:=Tryz.f164.body.getD .skip) rfl (by decide) 2000 rfl ?_;(conv=>whnf);refine aW (by simp[he]) ?_;refine gO Tryz.func164 ?_;refine I.bJ ab bG 2000 (by kernel_rfl) ?_;(conv=>whnf);refine jS (c1) ?_;refine And.intro rfl ?_;refine gD ?_;refine jS (c3) ?_;refine And.intro rfl ?_;refine gD ?_;refine jS (c2) ?_;refine And.intro rfl ?_;refine gD ?_;refine gO Tryz.func164 ?_;exact⟨rfl,rfl⟩
  case hr=>rfl
 ·have c4:=vP z q cut b w w V (hw.resolve_left he);rw[if_neg he];generalize eT z.ae q.name=j at *;generalize eT z.ae w=m at *;have c2:=mL z q cut b w 6 [i,j,m] hf (fun p hp=>by simp at hp;rcases hp with rfl|rfl|rfl<;>assumption) (by simp);simp only[List.map_cons,List.map_nil]at c2;unfold bD bp at c1 c2 c3 c4;apply ar.qO
  case hk=>rfl
  case hc =>
   unfold bD bp;refine ar.run ab (fn:=Tryz.f164) Tryz.func164 (body:=Tryz.f164.body.getD .skip) rfl (by decide) 2000 rfl ?_;(conv=>whnf);refine aU (by simp[he]) ?_;refine gO Tryz.func164 ?_
   with_reducible refine aO (c4) ?_
   refine gO Tryz.func164 ?_;refine I.bJ ab bG 2000 (by kernel_rfl) ?_;(conv=>whnf);refine jS (c1) ?_;refine And.intro rfl ?_;refine gD ?_;refine jS (c3) ?_;refine And.intro rfl ?_;refine gD ?_;refine jS (c2) ?_;refine And.intro rfl ?_;refine gD ?_;refine gO Tryz.func164 ?_;exact⟨rfl,rfl⟩
  case hr=>rfl
end Go.Proofs.YtfmdaiojokniiaaGreatDoor.P
end
section
namespace Go.Proofs.YtfmdaiojokniiaaGreatDoor.P
open Go Go.ay Go.RowKit
set_option maxRecDepth 100000
set_option maxHeartbeats 4000000
theorem OR{az:Nat->Prop}{w:World}{x y:DV}{vs:List Value}(h:jI az w [x,y] vs):∃ u v,vs=[u,v]/\VD az w x u/\VD az w y v:=by
 obtain⟨hl,hv⟩:=h;obtain⟨u,v,rfl⟩:∃ u v,vs=[u,v]:=by
  match vs,hl with
  |[u,v],_=>exact⟨u,v,rfl⟩
 exact⟨u,v,rfl,hv 0 x u rfl rfl,hv 1 y v rfl rfl⟩
theorem ZV{w w':World}(h:Below w.heap.size w w'):Ext w w':=⟨h.os,h.tape,h.output,h.size,h.block⟩
theorem ZW(t:Text)(c:UInt8):aq E 288 [.str t,.int .u8 c.toNat] (· = .int .i64 (Lib.indexByte t c)):=by
 unfold aq;refine⟨⟨_,Tryz.func288,rfl,by decide⟩,fun az w vs _ _ hv=>?_⟩;obtain⟨u,v,rfl,h1,h2⟩:=OR hv;cases h1;cases h2;have:=Any.strings_IndexByte Tryz.ZU ⟨t.toArray⟩ (c.toNat:Int) w;refine this.mono fun e w' ⟨h1,h2⟩=>⟨_,_,h1,rfl,?_,by rw[h2];exact Ext.refl w⟩;rw[show(ByteArray.mk t.toArray).data.toList=t by simp,show((c.toNat:Int)).toNat.toUInt8=c by simp];exact .int _ _
theorem H5:∀ (L:List Text),Lib.join L [46]=Nm.glue L
 |[]=>rfl
 |[x]=>by simp[Lib.join,List.intercalate,Nm.glue]
 |x::y::t=>by
  have:=H5 (y::t);unfold Lib.join at this ⊢;rw[Nm.glue,<- this];simp[List.intercalate]
theorem ZX(L:List Text)(hl:L.length<=1000)(hb:(Nm.glue L).length<=1000000):aq E 339 [.sl (L.map .str),.str [46]] (· = .str (Nm.glue L)):=by
 unfold aq;refine⟨⟨_,Tryz.func339,rfl,by decide⟩,fun az w vs _ _ hv=>?_⟩;obtain⟨u,v,rfl,h1,h2⟩:=OR hv;cases h2;have lQ:(L.map fun x=>ByteArray.mk x.toArray).map (·.data.toList)=L:=by simp[Function.comp_def]
 have fin:∀ e w',(e=Ending.returned (.string ⟨(Lib.join ((L.map fun x=>ByteArray.mk x.toArray).map (·.data.toList)) (ByteArray.mk [46].toArray).data.toList).toArray⟩)/\Below w.heap.size w w')->∃ v r,e=.returned v/\r=DV.str (Nm.glue L)/\VD (fun b=>az b) w' r v/\Ext w w':=fun e w' ⟨h1,h2⟩=>by
  refine⟨_,_,h1,rfl,?_,ZV h2⟩;rw[lQ,show(ByteArray.mk [46].toArray).data.toList=[46] by simp,H5];exact .str _
 generalize hD:L.map DV.str=D at h1;cases h1 with
 |slnil =>
  have hn:L=[]:=List.map_eq_nil_iff.1 hD;subst hn;exact(Any.strings_Join_none Tryz.Dt Tryz.Du none 0 ⟨#[46]⟩ w).mono fun e w' ⟨q1,q2⟩=>fin e w' ⟨q1,q2 ▸ Below.refl _ _⟩
 |ku a =>
  have hn:L=[]:=List.map_eq_nil_iff.1 hD;subst hn;exact(Any.strings_Join_none Tryz.Dt Tryz.Du (some a) 0 ⟨#[46]⟩ w).mono fun e w' ⟨q1,q2⟩=>fin e w' ⟨q1,q2 ▸ Below.refl _ _⟩
 |sl _ blk off cap sz f kg bP jm hlen dK bH bW =>
  subst hD;by_cases hn:L=[]
  ·subst hn;exact(Any.strings_Join_none Tryz.Dt Tryz.Du (some ⟨blk,off,none⟩) cap ⟨#[46]⟩ w).mono fun e w' ⟨q1,q2⟩=>fin e w' ⟨q1,q2 ▸ Below.refl _ _⟩
  ·have wi:∀ (j:Nat) x,(L.map fun x=>ByteArray.mk x.toArray)[j]?=some x->w.cell? ⟨blk,off+j,none⟩=some (.string x):=fun j x hx=>by
    rw[List.getElem?_map]at hx;cases e:L[j]? with
    |none=>rw[e]at hx;cases hx
    |some t =>
     rw[e]at hx;cases hx;have e1:(L.map DV.str)[j]?=some (.str t):=by rw[List.getElem?_map,e];rfl
     have oP:sz=1:=(hlen j _ e1).symm;have c1:=dK j 0 (.str t) (.str t) e1 rfl;have v1:=bH j 0 (.str t) (.str t) e1 rfl;rw[oP,Nat.mul_one,Nat.add_zero]at c1;rw[c1];generalize f j 0=u at v1;cases v1;rfl
   obtain⟨t,r,rfl⟩:=List.exists_cons_of_ne_nil hn;have dk:blk<w.heap.size:=World.block_lt_of_cell? _ _ (wi 0 ⟨t.toArray⟩ rfl);have:=Any.strings_Join Tryz.Dt Tryz.Du blk off cap ((t::r).map fun x=>ByteArray.mk x.toArray) ⟨#[46]⟩ w wi dk (by simp at hl ⊢;omega) (by simpa using jm) (by rw[lQ,show(ByteArray.mk [46].toArray).data.toList=[46] by simp,H5];omega);rw[List.length_map]at this;rw[List.length_map];exact this.mono fun e w' h=>fin e w' h
theorem OS:∀ {L:List Text},(∀ t∈L,t.length<=100)->(Nm.glue L).length<=L.length*101
 |[],_=>by simp[Nm.glue]
 |[x],h=>by have:=h x (by simp);simp[Nm.glue];omega
 |x::y::t,h=>by
  have h1:=h x (by simp);have h2:=OS (L:=y::t) fun u hu=>h u (List.mem_cons_of_mem _ hu);rw[Nm.glue];simp only[List.length_append,List.length_cons]at h2 ⊢;omega
theorem ZY(L:List Text)(hl:L.length<=1000)(hb:∀ t∈L,t.length<=100):aq E 296 [.sl (L.map .str)] (· = match o8 L with|some t => .aD [.str t,.int .i64 0]|none => .aD [.str [],.int .i64 11]):=by
 have no:Nm.parts L=false->o8 L=none:=fun e=>by rw[o8,e];rfl
 have c2:=fun h=>ZX L hl h;refine eP F296 ?_;by_cases h0:L=[]
 ·subst h0;have e:o8 []=some [46]:=by decide
  rw[e];refine aU (by decide) ?_;refine gO F296 ?_
  with_reducible rfl
 refine aW (by simpa using h0) ?_;refine gO F296 ?_;refine ai (fun h1=>?_) (fun h1=>?_)
 ·have h1:=of_decide_eq_true h1
  rw[no (by
   cases e:Nm.parts L
   ·rfl
   ·have:=(qP.1 e).1;simp at h1
    omega)]
  refine gO F296 ?_
  with_reducible rfl
 have ZZ:L.length<=8:=by have:=of_decide_eq_false h1;simp at this;omega
 refine gO F296 ?_;refine I.loop (κ:=Nat) (rg 2 4++rg 15 17) (fun k=>[(15,.d (.int .i64 k))]) (fun _=>[]) (fun k=>k<=L.length/\∀ i x,i<k->L[i]?=some x->gF i x=true) (fun k=>L.length-k) 0 ⟨Nat.zero_le _,fun i x h=>by omega⟩ ?_ ?_
 ·exact sZ
 rintro k ⟨hk,aJ⟩ IH;refine I.head ab F296 2000 ?_;(conv=>whnf);refine ai (fun h5=>?_) (fun h5=>?_)
 ·have ah:k<L.length:=by simpa using h5
  obtain⟨x,hx⟩:=aG ah
  have bad:gF k x=false->o8 L=none:=fun e=>no (by
   cases e2:Nm.parts L
   ·rfl
   ·have:=(qP.1 e2).2 k x hx
    rw[e]at this;cases this)
  have ic:gF k x=true->∀ i y,i<k+1->L[i]?=some y->gF i y=true:=fun e i y hi hy=>by
   rcases Nat.lt_or_eq_of_le (Nat.le_of_lt_succ hi)with h|h
   ·exact aJ i y h hy
   ·subst h;rw[hx]at hy;cases hy;exact e
  refine gO F296 ?_;refine aB (e := .str x) (aN hx) rfl ?_;refine gO F296 ?_;refine ao (F8 x) ?_;refine gO F296 ?_;cases sS:Nm.label x
  ·refine bj ?_;refine gO F296 ?_;refine ai (fun h6=>?_) (fun h6=>?_)
   ·have h6:=of_decide_eq_true h6;refine gO F296 ?_;refine bj ?_;refine gO F296 ?_;rw[bad (by simp[gF,sS];omega)]
   ·have h6:=of_decide_eq_false h6;refine gO F296 ?_;by_cases h7:x=[42]
    ·refine aW (by simpa using h7) ?_;refine gO F296 ?_;refine I.back (IH (k+1) ⟨by omega,ic (by simp[gF,h7];omega)⟩ (by omega)) ?_;exact sZ
    ·refine aU (by simpa using h7) ?_;refine gO F296 ?_;rw[bad (by simp[gF,sS,h7])]
  ·refine aR ?_;refine gO F296 ?_;refine aR ?_;refine gO F296 ?_;refine I.back (IH (k+1) ⟨by omega,ic (by simp[gF,sS])⟩ (by omega)) ?_;exact sZ
 ·have aA:k=L.length:=by simp at h5;omega
  subst aA;have hp:Nm.parts L=true:=qP.2 ⟨ZZ,fun i x hx=>aJ i x (List.getElem?_eq_some_iff.1 hx).1 hx⟩;have wA:gK L=Nm.glue L:=by rw[gK,if_neg h0]
  have iE:=OS hb;have c2:=c2 (by omega);clear IH;unfold o8;rw[hp,wA,Bool.true_and];refine gO F296 ?_;refine ao (c2) ?_;refine gO F296 ?_;refine ai (fun h6=>?_) (fun h6=>?_)
  ·have h6:=of_decide_eq_true h6;refine gO F296 ?_;rw[decide_eq_false (by omega)];rfl
  ·have h6:=of_decide_eq_false h6;refine gO F296 ?_;rw[decide_eq_true (by omega)];rfl
theorem OT:∀ (t:Text),(∀ r,Nm.split t=[r]->Lib.indexByte t 46 = -1/\t=r)/\∀ x y r,Nm.split t=x::y::r->∃ n:Nat,Lib.indexByte t 46=n/\t.drop (n+1)=Nm.glue (y::r)/\n+1<=t.length
 |[]=>by simp[Nm.split,Lib.indexByte]
 |c::t=>by
  obtain⟨h1,h2⟩:=OT t;by_cases hc:c=46
  ·subst hc;have e:Nm.split (46::t)=[]::Nm.split t:=by simp[Nm.split]
   have e2:Lib.indexByte (46::t) 46=0:=by simp[Lib.indexByte]
   rw[e,e2];refine⟨fun r hr=>?_,fun x y r hr=>?_⟩
   ·have:=Nm.n' t;simp at hr;exact absurd hr.2 this
   ·simp only[List.cons.injEq]at hr;refine⟨0,rfl,?_,by simp⟩;rw[<- hr.2,Nm.uG];rfl
  ·have e2:Lib.indexByte (c::t) 46=if Lib.indexByte t 46 = -1 then -1 else Lib.indexByte t 46+1:=by
    rw[Lib.indexByte,if_neg (by simpa using hc)];simp
   cases hs:Nm.split t with
   |nil=>exact absurd hs (Nm.n' t)
   |cons h r0 =>
    have e:Nm.split (c::t)=(c::h)::r0:=by simp[Nm.split,hc,hs]
    rw[e,e2];refine⟨fun r hr=>?_,fun x y r hr=>?_⟩
    ·simp only[List.cons.injEq]at hr;obtain⟨rfl,rfl⟩:=hr;obtain⟨k1,k2⟩:=h1 h hs;rw[if_pos k1];exact⟨rfl,by rw[k2]⟩
    ·simp only[List.cons.injEq]at hr;obtain⟨rfl,rfl⟩:=hr;obtain⟨n,k1,k2,k3⟩:=h2 h y r hs;rw[if_neg (by omega)];exact⟨n+1,by omega,by simpa using k2,by simp;omega⟩
theorem OU(t:Text)(hv:Nm.valid t=true)(hr:t≠[46]):aq E 234 [.str t] (· = .aD [.str (gK (Nm.labels t).tail),.int .i64 0]):=by
 have hlen:=dO hv;have c1:=uT t (pt (by omega));rw[hv]at c1;have c2:=ZW t 46;have nu:Nm.labels t=Nm.split t:=by rw[Nm.labels,if_neg hr]
 obtain⟨h1,h2⟩:=OT t;rw[nu];refine eP F234 ?_;refine ao (c1) ?_;refine gO F234 ?_;refine aR ?_;refine gO F234 ?_;refine aW (by simpa using hr) ?_;refine gO F234 ?_;refine ao (c2) ?_;refine gO F234 ?_;cases hs:Nm.split t with
 |nil=>exact absurd hs (Nm.n' t)
 |cons x r =>
  cases r with
  |nil =>
   obtain⟨k1,k2⟩:=h1 x hs;refine aW (by rw[k1];decide) ?_;refine gO F234 ?_;rfl
  |cons y r =>
   obtain⟨n,k1,k2,k3⟩:=h2 x y r hs;have hw:IntKind.i64.wrap (Lib.indexByte t 46+1)=((n+1:Nat):Int):=by rw[k1,wrap64 (by omega) (by omega)];omega
   have hd:List.drop ((some (IntKind.i64.wrap (Lib.indexByte t 46+1))).getD 0).toNat (List.take ((none:Option Int).getD (t.length:Int)).toNat t)=gK (y::r):=by
    rw[hw]
    simpa [gK]using k2
   refine aU (by rw[k1];simp) ?_;refine gO F234 ?_;refine aV ⟨by rw[hw];simp;omega,by rw[hw];simp;omega,by simp⟩ ?_;(conv=>whnf);rw[hd];refine gO F234 ?_;rfl
end Go.Proofs.YtfmdaiojokniiaaGreatDoor.P
end
section
namespace Go.Proofs.YtfmdaiojokniiaaGreatDoor.P
open Go Go.ay
set_option maxRecDepth 100000
set_option maxHeartbeats 4000000
theorem OV:Nm.labels [46]=[]:=rfl
theorem H6{t:Text}(h:Nm.labels t=[]):t=[46]:=by rw[<- AQ t,h];rfl
theorem OW{s t:Text}(h:Nm.labels s=Nm.labels t):s=t:=by rw[<- AQ s,h,AQ]
theorem Z0{t:Text}(h:t≠[46]):Nm.labels t≠[]:=fun e=>h (H6 e)
theorem OX{t:Text}(hv:Nm.valid t=true)(hr:t≠[46]):t.length<=60/\Nm.parts (Nm.split t)=true:=by
 simpa [Nm.valid,hr]using hv
theorem x7{t:Text}(hv:Nm.valid t=true)(hr:t≠[46]):Nm.valid (gK (Nm.labels t).tail)=true/\Nm.labels (gK (Nm.labels t).tail)=(Nm.labels t).tail:=by
 obtain⟨h1,h2⟩:=OX hv hr;have hd:=Nm.Kz t;have hg:=Nm.uG t;rw[Nm.labels,if_neg hr];generalize Nm.split t=L at *;cases L with
 |nil=>exact⟨rfl,rfl⟩
 |cons x r =>
  cases r with
  |nil=>exact⟨rfl,rfl⟩
  |cons y r =>
   have e:gK (y::r)=Nm.glue (y::r):=by simp[gK]
   have hs:Nm.split (Nm.glue (y::r))=y::r:=Nm.KA _ (by simp) fun u hu=>hd u (List.mem_cons_of_mem _ hu);obtain⟨p1,p2⟩:=qP.1 h2;have hy:Nm.label y=true:=by simpa [gF]using p2 1 y rfl
   have aI:Nm.glue (y::r)≠[46]:=fun e=>by
    rw[e]at hs;have e2:Nm.split [46]=[[],[]]:=by decide
    rw[e2]at hs;cases hs;exact absurd hy (by decide)
   have hl:(Nm.glue (y::r)).length<=60:=by
    rw[<- hg,Nm.glue]at h1;simp only[List.length_append,List.length_cons]at h1;omega
   show Nm.valid (gK (y::r))=true/\Nm.labels (gK (y::r))=y::r;rw[e];refine⟨?_,by rw[Nm.labels,if_neg aI,hs]⟩
   have hp:Nm.parts (y::r)=true:=qP.2 ⟨by simp at p1 ⊢;omega,fun i u hu=>by
    have:=p2 (i+1) u (by simpa using hu);simp[gF]at this
    simp[gF,this]⟩
   simp[Nm.valid,aI,hs,hp,hl]
theorem Z1(a:Text):Nm.under a a=true:=by simp[Nm.under]
theorem Z2{a b c:Text}(h:Nm.under a b=true)(k:Nm.under b c=true):Nm.under a c=true:=by
 simp only[Nm.under,decide_eq_true_eq]at *;exact k.trans h
theorem Z3{a b:Text}(h:Nm.under a b=true)(k:Nm.under b a=true):a=b:=by
 simp only[Nm.under,decide_eq_true_eq]at *;exact OW (k.eq_of_length (Nat.le_antisymm k.length_le h.length_le))
theorem OY{a:Text}(h:Nm.under [46] a=true):a=[46]:=by
 simp only[Nm.under,decide_eq_true_eq,OV,List.suffix_nil]at h;exact H6 h
theorem H7{n d:Text}(hv:Nm.valid n=true)(hr:n≠[46])(h:Nm.under n d=true)(aI:n≠d):Nm.under (gK (Nm.labels n).tail) d=true:=by
 simp only[Nm.under,decide_eq_true_eq]at *;rw[(x7 hv hr).2];cases e:Nm.labels n with
 |nil=>exact absurd (H6 e) hr
 |cons x r =>
  rw[e]at h;rcases List.suffix_cons_iff.1 h with k|k
  ·exact absurd (OW (e.trans k.symm)) aI
  ·exact k
theorem Z4{n:Text}(hv:Nm.valid n=true)(hr:n≠[46]):Nm.under n (gK (Nm.labels n).tail)=true:=by
 simp only[Nm.under,decide_eq_true_eq];rw[(x7 hv hr).2];exact List.tail_suffix _
theorem OZ{n:Text}(hv:Nm.valid n=true)(hr:n≠[46]):(Nm.labels (gK (Nm.labels n).tail)).length<(Nm.labels n).length:=by
 rw[(x7 hv hr).2,List.length_tail];have:=List.length_pos_iff.2 (Z0 hr);omega
theorem Z5{z:aX}{c:Text}(h1:z.ae.any (cZ ⟨c,2⟩)=true)(h2:c≠z.aj):c∈b9 z.aj z.ae:=by
 obtain⟨s,hs,h⟩:=List.any_eq_true.1 h1;simp only[cZ,Bool.and_eq_true,beq_iff_eq]at h;unfold b9;exact List.mem_map.2 ⟨s,List.mem_filter.2 ⟨hs,by simp[iF,h.1,h.2,h2]⟩,h.1⟩
theorem H8{z:aX}{c:Text}(h:c∈b9 z.aj z.ae):z.ae.any (cZ ⟨c,2⟩)=true/\c≠z.aj:=by
 obtain⟨s,hs,rfl,hc⟩:=pR h;simp[iF]at hc;exact⟨List.any_eq_true.2 ⟨s,hs,by simp[cZ,hc.1]⟩,hc.2⟩
theorem Z6{z:aX}(V:iJ z){n c:Text}(h:c∈b9 z.aj z.ae)(hu:Nm.under n c=true):nG z n=some c:=by
 unfold nG;cases e:(b9 z.aj z.ae).find? fun d=>Nm.under n d with
 |none=>exact absurd hu (by simpa using List.find?_eq_none.1 e c h)
 |some d=>rw[V.cL d (List.mem_of_find?_eq_some e) c h n (by simpa using List.find?_some e) hu]
theorem Z7{z:aX}(V:iJ z){n:Text}(h:∀ d∈b9 z.aj z.ae,Nm.under n d=true->Nm.under z.aj d=true):nG z n=none:=by
 unfold nG;rw[List.find?_eq_none];intro d hd hu;obtain⟨s,hs,rfl,hc⟩:=pR hd;exact(H8 hd).2 (Z3 (V.under s hs) (h _ hd (by simpa using hu)))
def H9(z:aX)(n:Text):DV:=if Nm.valid n&&eB z then(if Nm.under n z.aj then(match nG z n with|some c => .aD [.str c,.bool true,.int .i64 0]|none => .aD [.str [],.bool false,.int .i64 0])else .aD [.str [],.bool false,.int .i64 20])else .aD [.str [],.bool false,.int .i64 1]
theorem Z8(z:aX)(n:Text)(hf:z.Fits)(hn:n.length<=maxLen):aq E 155 [z.enc,.str n] (· = H9 z n):=by
 have c1:=gG n hn;have c2:=vk z hf;unfold H9;cases h1:Nm.valid n
 ·rw[h1]at c1;refine eP F155 ?_;repeat' (first|with_reducible(first|refine ao (c1) ?_|refine au (c1) ?_|refine cY ?_|refine cN ?_|refine ai (fun _=>?_) (fun _=>?_))|refine gA F155 ?_|refine gB ?_|with_reducible rfl)
  all_goals rfl
 cases h2:eB z
 ·rw[h1]at c1;rw[h2]at c2;refine eP F155 ?_;repeat' (first|with_reducible(first|refine ao (c1) ?_|refine au (c1) ?_|refine ao (c2) ?_|refine au (c2) ?_|refine cY ?_|refine cN ?_|refine ai (fun _=>?_) (fun _=>?_))|refine gA F155 ?_|refine gB ?_|with_reducible rfl)
  all_goals rfl
 rw[h1]at c1;rw[h2]at c2;have V:=OE h2;have c3:=uU n z.aj hn (by have:=dO V.aj;exact pt (by omega));rw[CO h1 V.aj,h1,V.aj]at c3;have hlen:=V.len;refine eP F155 ?_;refine ao (c1) ?_;refine gO F155 ?_;refine aR ?_;refine gO F155 ?_;refine ao (c2) ?_;refine gO F155 ?_;refine aR ?_;refine gO F155 ?_;refine ao (c3) ?_;refine gO F155 ?_;cases h3:Nm.under n z.aj
 ·refine bj ?_;refine gO F155 ?_;rfl
 refine aR ?_;refine gO F155 ?_;refine I.loop (κ:=Text) ([4,5,6,10,11,12]++rg 33 18) (fun c=>[(10,.d (.str c))]) (fun _=>[]) (fun c=>Nm.valid c=true/\Nm.under n c=true/\Nm.under c z.aj=true/\∀ d∈b9 z.aj z.ae,Nm.under n d=true->Nm.under c d=true) (fun c=>(Nm.labels c).length) n ⟨h1,Z1 n,h3,fun d _ h=>h⟩ ?_ ?_
 ·exact sZ
 rintro c ⟨k1,k2,k3,k4⟩ IH;refine I.head ab F155 2000 ?_;(conv=>whnf);by_cases h4:c=z.aj
 ·refine aW (by simpa using h4) ?_;refine gO F155 ?_;subst h4;rw[Z7 V k4];rfl
 refine aU (by simpa using h4) ?_;have hr:c≠[46]:=fun e=>h4 (by rw[e]at k3 ⊢;exact(OY k3).symm);have c4:=GO z ⟨c,2⟩ (by omega) V.names k1 V.sorted;have c5:=OU c k1 hr;have t1:=x7 k1 hr;have t2:=OZ k1 hr;refine gO F155 ?_
 with_reducible refine wU (c4) ?_
 rintro r ⟨i,-,rfl,-⟩;refine gO F155 ?_;cases h5:z.ae.any (cZ ⟨c,2⟩)
 ·refine aR ?_;refine gO F155 ?_;refine ao (c5) ?_;refine gO F155 ?_;have aI:∀ d∈b9 z.aj z.ae,c≠d:=fun d hd e=>by
   have:=(H8 hd).1;rw[<- e,h5]at this;cases this
  refine I.back (IH (gK (Nm.labels c).tail) ⟨t1.1,Z2 k2 (Z4 k1 hr),H7 k1 hr k3 h4,fun d hd hu=>H7 k1 hr (k4 d hd hu) (aI d hd)⟩ t2) ?_;exact sZ
 ·refine bj ?_;refine gO F155 ?_;rw[Z6 V (Z5 h5 h4) k2];rfl
end Go.Proofs.YtfmdaiojokniiaaGreatDoor.P
end
