/- Lemmas of mine. Conditions: as stated. -/
import Derived.Test.YtfmdaiojokniiaaGreatDoorS12
import Derived.Test.YtfmdaiojokniiaaGreatDoorS13
import Derived.Shelf.Small.Strs
import Derived.Shelf.Strings.OnBuilder
set_option linter.unusedVariables false
set_option linter.unusedSimpArgs false
open Bool renaming and_eq_true->aft,eq_iff_iff->ahf,true_and->afC,false_and->ahH
open List renaming mem_of_getElem?->afh,map_cons->ad0,map_nil->agU,any_eq_true->aiA,getElem?_append_left->ael,getElem?_of_mem->afe,length_cons->aef,getElem?_eq_some_iff->ag2,mem_map->aer,mem_append->aeI,mem_cons_of_mem->aeR,length_map->aff,getLast?_eq_getElem?->ahO,findIdx?_eq_some_iff_getElem->aiG,mem_singleton->ah9,foldl_append->ah8,foldl_cons->ae5,mem_cons->afu,length_nil->ae7,length_take->aeu,getElem?_take->aek,take_of_length_le->afS,intercalate->ajr,map_eq_nil_iff->ahk,getElem?_map->ad1,length_append->aey,find?_eq_none->ajs
open Nat renaming zero_le->afv,le_refl->aed,lt_or_eq_of_le->ajp,lt_or_ge->adV,le_of_lt_succ->ajq
section
namespace Go.Proofs.YtfmdaiojokniiaaGreatDoor.P
open Go Go.aA
theorem Pr{C H:List Text}(hA:jm H)(hP:tG H)(rM:∀ d∈H,d∈C)(x4:∀ c∈C,∃ d∈H,Nm.under c d=true)(aJ:∀ c∈C,c≠[]) :
  ∀ (rest done:List Text) (cut:Text) (k:Nat),jm (done++rest)->(∀ c∈C,c∈done++rest)->k<=H.length->(match done.getLast? with|none=>cut=[]|some p=>rL H p cut)->(∀ m d,m<k->H[m]?=some d->∃ p,done.getLast?=some p/\bD d p<=0)->∀ (i:Nat) (n r:Text),rest[i]?=some n->(nJ H k rest)[i]?=some r->rL H n r
 |[],_,_,_,_,_,_,_,_=>fun i n r h=>by simp at h
 |n::rest,done,cut,k,rO,aL,hk,hcut,kE=>by
  have ow:∀ p,done.getLast?=some p->bD p n<=0:=fun p hp=>by
   have hl:0<done.length:=by cases done with|nil=>simp at hp|cons=>simp
   rw[ahO]at hp;exact rO (done.length-1) done.length p n (by omega) (by rw[ael (by omega)];exact hp) (by simp)
  have Dh:∀ d∈H,bD d n<0->∃ p,done.getLast?=some p/\bD d p<=0:=fun d hd rN=>by
   have:=aL d (rM d hd);obtain⟨i,hi⟩:=afe this;have qI:(done++n::rest)[done.length]?=some n:=by simp
   have ah:i<done.length:=by
    rcases Nat.lt_trichotomy i done.length with h|h|h
    ·exact h
    ·subst h;rw[qI]at hi;cases hi;rw[pq]at rN;omega
    ·have h1:=rO done.length i n d h qI hi;have h2:=Ay d n;omega
   rw[ael ah]at hi;obtain⟨p,hp⟩:=aH (l:=done) (k:=done.length-1) (by omega);refine⟨p,by rw[ahO];exact hp,?_⟩;rcases adV i (done.length-1)with h|h
   ·exact rO i (done.length-1) d p h (by rw[ael ah];exact hi) (by rw[ael (by omega)];exact hp)
   ·obtain rfl:i=done.length-1:=by omega
    rw[hp]at hi;cases hi;rw[pq];omega
  obtain⟨f2,f3⟩:=Nr hA hP (n:=n) hk (fun m d hm hd=>by
   obtain⟨p,hp,kF⟩:=kE m d hm hd
   exact Dg kF (ow p hp))
  have ih:=Pr hA hP rM x4 aJ rest (done++[n]) (mN H n (eY H n k)) (eY H n k) (by simpa using rO) (by simpa using aL) (C7 hk) (by simpa using f2) (fun m d hm hd=>⟨n,by simp,f3 m d hm hd⟩);intro i m r hm hr;cases i with
  |zero =>
   simp at hm;subst hm;simp only[nJ,List.getElem?_cons_zero,Option.some.injEq]at hr;subst hr;exact f2
  |succ i=>exact ih i m r (by simpa using hm) (by simpa [nJ]using hr)
end Go.Proofs.YtfmdaiojokniiaaGreatDoor.P
end
section
namespace Go.Proofs.YtfmdaiojokniiaaGreatDoor.P
open Go Go.aA
set_option maxRecDepth 100000
theorem aam{x y:Signed}:oB y.set x.set=0↔da ⟨x.set.name,x.set.type⟩ y=true:=by
 rw[<- Dc,<- xZ];show _↔(oE y.set.name y.set.type x.set.name x.set.type==0)=true;simp
theorem aan{l:List Signed}(h:gy l){k:Nat}{x:Signed}(hx:l[k]?=some x):bk l ⟨x.set.name,x.set.type⟩=k :=
 MJ (fun j y hj hy=>by
  have h1:=h j k y x hj hy hx;cases e:da ⟨x.set.name,x.set.type⟩ y
  ·rfl
  ·rw[aam.2 e]at h1;omega) hx (by simp[da])
theorem IK{l:List Signed}{q:bC}(h:0<=bk l q):∃ s,l[(bk l q).toNat]?=some s/\da q s=true:=by
 unfold bk at h ⊢;cases e:l.findIdx? (da q)with
 |none=>rw[e]at h;simp at h
 |some k =>
  obtain⟨h1,h2,_⟩:=aiG.1 e;exact⟨l[k],by simp,h2⟩
theorem ie{l:List Signed}{q:bC} : -1<=bk l q/\bk l q<l.length:=by
 unfold bk;cases e:l.findIdx? (da q)with
 |none=>exact⟨Int.le_refl _,by show(-1:Int)<l.length;omega⟩
 |some k =>
  obtain⟨h1,h2,_⟩:=aiG.1 e;exact⟨by show(-1:Int)<=(k:Int);omega,by show(k:Int)<l.length;omega⟩
theorem IL{q:bC}{s:Signed}(h:da q s=true):q=⟨s.set.name,s.set.type⟩:=by
 obtain⟨n,t⟩:=q;simp[da]at h;rw[h.1,h.2]
def eQ(l:List Signed)(ps:List Int):List Signed:=ps.filterMap fun p=>l[p.toNat]?
def lC(ps:List Int)(p:Int):List Int:=if p<0\/p∈ps then ps else ps++[p]
def db(ps:List Int):List Int:=ps.foldl lC []
def Bb(l:List Signed)(ps:List Int):Prop:=∀ p∈ps,0<=p/\p<l.length
theorem Bb.nil{l:List Signed}:Bb l []:=fun p hp=>by simp at hp
theorem Bb.add{l:List Signed}{ps:List Int}{p:Int}(h:Bb l ps)(hp:p<l.length):Bb l (lC ps p):=by
 unfold lC;split
 ·exact h
 ·rename_i hn;intro q hq;rcases aeI.1 hq with hq|hq
  ·exact h q hq
  ·rw[ah9.1 hq];exact⟨by omega,hp⟩
theorem aao{ps:List Int}{p:Int}:db (ps++[p])=lC (db ps) p:=by rw[db,ah8];rfl
theorem Ps{ps:List Int}{k:Nat}{p:Int}(h:ps[k]?=some p):db (ps.take (k+1))=lC (db (ps.take k)) p:=by rw[cG h,aao]
theorem aap{p:Int}:∀ {ps:List Int},p∈db ps↔0<=p/\p∈ps:=by
 have main:∀ (ps acc:List Int),(∀ q∈acc,0<=q)->(p∈ps.foldl lC acc↔p∈acc\/(0<=p/\p∈ps)):=by
  intro ps
  induction ps with
  |nil=>intro acc _;simp
  |cons x ps ih =>
   intro acc ha;rw[ae5,ih]
   ·unfold lC;split
    ·rename_i hx;constructor
     ·rintro(h|h)
      ·exact .inl h
      ·exact .inr ⟨h.1,aeR _ h.2⟩
     ·rintro(h|⟨h1,h2⟩)
      ·exact .inl h
      ·rcases afu.1 h2 with rfl|h2
       ·rcases hx with hx|hx
        ·omega
        ·exact .inl hx
       ·exact .inr ⟨h1,h2⟩
    ·rename_i hx;simp only[aeI,afu,List.not_mem_nil,or_false];constructor
     ·rintro((h|rfl)|h)
      ·exact .inl h
      ·exact .inr ⟨by omega,.inl rfl⟩
      ·exact .inr ⟨h.1,.inr h.2⟩
     ·rintro(h|⟨h1,h2⟩)
      ·exact .inl (.inl h)
      ·rcases h2 with rfl|h2
       ·exact .inl (.inr rfl)
       ·exact .inr ⟨h1,h2⟩
   ·intro q hq;unfold lC at hq;split at hq
    ·exact ha q hq
    ·rename_i hx;rcases aeI.1 hq with hq|hq
     ·exact ha q hq
     ·rw[ah9.1 hq];omega
 intro ps;have:=main ps [] (fun q hq=>by simp at hq)
 simpa [db]using this
theorem aaq{ps:List Int}:(db ps).length<=ps.length:=by
 have main:∀ (ps acc:List Int),(ps.foldl lC acc).length<=acc.length+ps.length:=by
  intro ps
  induction ps with
  |nil=>intro acc;simp
  |cons x ps ih =>
   intro acc;rw[ae5];refine Nat.le_trans (ih _) ?_;have:(lC acc x).length<=acc.length+1:=by unfold lC;split<;>simp
   simp;omega
 have:=main ps []
 simpa [db]using this
theorem aar{l:List Signed}{ps:List Int}:(eQ l ps).length<=ps.length:=List.length_filterMap_le ..
theorem aas{l:List Signed}{ps:List Int}{p:Int}{s:Signed}(h0:0<=p)(hs:l[p.toNat]?=some s):eQ l (lC ps p)=if p∈ps then eQ l ps else eQ l ps++[s]:=by
 unfold lC;by_cases h:p∈ps
 ·rw[if_pos (.inr h),if_pos h]
 ·rw[if_neg (by rintro(e|e);omega;exact h e),if_neg h,eQ,List.filterMap_append];simp[eQ,hs]
def kP(l:List Signed)(n:Text):Bool:=l.any fun s=>Nm.under s.set.name n
def iF(P:Signed->Bool)(l:List Signed):Nat:=(l.takeWhile P).length
theorem Bc{P:Signed->Bool}{l:List Signed}:iF P l<=l.length:=by
 unfold iF;exact(List.takeWhile_sublist P).length_le
theorem IM{P:Signed->Bool}:∀ {l:List Signed} (_:∀ (i j:Nat) (x y:Signed),i<j->l[i]?=some x->l[j]?=some y->P y=true->P x=true) {i:Nat} {x:Signed} (_:l[i]?=some x),P x=true↔i<iF P l
 |[],_,i,x,hx=>by simp at hx
 |a::l,hd,i,x,hx=>by
  unfold iF;rw[List.takeWhile_cons];cases ha:P a
  ·simp only[Bool.false_eq_true,if_false,ae7,Nat.not_lt_zero,iff_false];intro e;cases i with
   |zero=>simp at hx;subst hx;rw[ha]at e;cases e
   |succ i =>
    have:=hd 0 (i+1) a x (by omega) rfl hx e;rw[ha]at this;cases this
  ·rw[if_pos rfl,aef];cases i with
   |zero=>simp at hx;subst hx;simp[ha]
   |succ i =>
    have:=IM (P:=P) (l:=l) (fun i j x y h h1 h2=>hd (i+1) (j+1) x y (by omega) h1 h2) (i:=i) (x:=x) (by simpa using hx);unfold iF at this;rw[this];omega
theorem aat{a b c:Text}(h:bD a b<=0)(k:bD b c<0):bD a c<0:=by
 rcases Int.lt_or_eq_of_le h with h|h
 ·exact Az h k
 ·rw[qk h];exact k
theorem IN{l:List Signed}(hs:gy l){i j:Nat}{x y:Signed}(h:i<j)(hx:l[i]?=some x)(hy:l[j]?=some y):bD x.set.name y.set.name<=0:=Hu (hs i j x y h hx hy)
def jx(n:Text)(s:Signed):Bool:=decide (bD s.set.name n<0)
def jU(n:Text)(s:Signed):Bool:=decide (bD s.set.name n<=0)
theorem lt_iff{l:List Signed}(hs:gy l){n:Text}{i:Nat}{x:Signed}(hx:l[i]?=some x):bD x.set.name n<0↔i<iF (jx n) l:=by
 rw[<- IM (P:=jx n) (fun i j x y h h1 h2 h3=>by
  simp only[jx,decide_eq_true_eq]at h3 ⊢
  exact aat (IN hs h h1 h2) h3) hx]
 simp[jx]
theorem le_iff{l:List Signed}(hs:gy l){n:Text}{i:Nat}{x:Signed}(hx:l[i]?=some x):bD x.set.name n<=0↔i<iF (jU n) l:=by
 rw[<- IM (P:=jU n) (fun i j x y h h1 h2 h3=>by
  simp only[jU,decide_eq_true_eq]at h3 ⊢
  exact Dg (IN hs h h1 h2) h3) hx]
 simp[jU]
theorem aau{l:List Signed}(hs:gy l){n:Text}:kP l n=match l[iF (jx n) l]? with
  |some s=>Nm.under s.set.name n
  |none=>false:=by
 rw[ahf];constructor
 ·intro h;obtain⟨x,hx,hu⟩:=aiA.1 h;obtain⟨j,hj⟩:=afe hx;have h1:=AA hu;have h2:¬ bD x.set.name n<0:=by rw[Ay];omega
  have h3:iF (jx n) l<=j:=by have:=(lt_iff hs (n:=n) hj);omega
  obtain⟨s,iN⟩:=aH (l:=l) (k:=iF (jx n) l) (by have:=(ag2.1 hj).1;omega);rw[iN];show Nm.under s.set.name n=true;rcases ajp h3 with h3|h3
  ·have h4:¬ bD s.set.name n<0:=fun e=>by have:=(lt_iff hs (n:=n) iN).1 e;omega
   exact xY (by rw[Ay];omega) (IN hs h3 iN hj) hu
  ·rw[<- h3,iN]at hj;cases hj;exact hu
 ·intro h;cases e:l[iF (jx n) l]? with
  |none=>rw[e]at h;cases h
  |some s=>rw[e]at h;exact aiA.2 ⟨s,afh e,h⟩
def qx(P:Nat->Bool):Nat->Int
 |0 => -1
 |n+1=>if P n then(n:Int)else qx P n
theorem Pt{P:Nat->Bool}:∀ {n:Nat},-1<=qx P n/\qx P n<n
 |0=>by simp[qx]
 |n+1=>by
  have:=Pt (P:=P) (n:=n);rw[qx];split<;>omega
def yp(l:List Signed)(i:Nat):Bool:=match l[i]? with
 |some s=>s.set.type==8
 |none=>false
def fc(l:List Signed)(n:Text):Int:=qx (yp l) (iF (jU n) l)
theorem wh{l:List Signed}{n:Text} : -1<=fc l n/\fc l n<l.length:=by
 have h1:=Pt (P:=yp l) (n:=iF (jU n) l);have h2:=Bc (P:=jU n) (l:=l);unfold fc;omega
def gX(L:List Text):Text:=if L=[]then[46]else Nm.glue L
theorem Bd(s:Text):gX (Nm.labels s)=s:=by
 unfold gX Nm.labels;by_cases h:s=[46]
 ·rw[if_pos h,if_pos rfl,h]
 ·rw[if_neg h,if_neg (Nm.oy s),Nm.uY]
def nW(l:List Signed):List Text->List Text
 |[]=>[]
 |x::r=>if kP l (gX (x::r))then x::r else nW l r
def py(M:List Text):Option Text:=if Nm.parts M&&decide ((gX M).length<=60)then some (gX M)else none
def tV(l:List Signed)(s:Text):Option Text:=py ([42]::nW l (Nm.labels s))
def nX(z:bc)(n:Text):Option Text:=(cb z.ao z.ae).find? fun c=>Nm.under n c
def wi(l:List Signed)(c:Text):Int:=if bk l ⟨c,6⟩<0 then bk l ⟨c,8⟩else bk l ⟨c,6⟩
def IP(l:List Signed)(c:Text):List Datum:=match l[(bk l ⟨c,2⟩).toNat]? with
 |some s=>s.set.data
 |none=>[]
def wj(l:List Signed)(c:Text):List Int:=((IP l c).filter fun d=>Nm.under d.text c).map fun d=>bk l ⟨d.text,1⟩
def mb(l:List Signed)(c:Text):List Int:=db (bk l ⟨c,2⟩::wi l c::wj l c)
def qy(z:bc)(q:bC):dZ :=
 if 0<=bk z.ae q then⟨1,eQ z.ae [bk z.ae q],[]⟩
 else if 0<=bk z.ae ⟨q.name,3⟩/\q.type≠8 then⟨3,eQ z.ae [bk z.ae ⟨q.name,3⟩],[]⟩
 else if kP z.ae q.name then⟨5,eQ z.ae (db [bk z.ae ⟨z.ao,4⟩,fc z.ae q.name]),[]⟩
 else match tV z.ae q.name with
  |none=>⟨6,eQ z.ae (db [bk z.ae ⟨z.ao,4⟩,fc z.ae q.name]),[]⟩
  |some w =>
   if 0<=bk z.ae ⟨w,q.type⟩then⟨2,eQ z.ae (db [bk z.ae ⟨w,q.type⟩,fc z.ae q.name]),[]⟩
   else if 0<=bk z.ae ⟨w,3⟩/\q.type≠8 then⟨3,eQ z.ae (db [bk z.ae ⟨w,3⟩,fc z.ae q.name]),[]⟩
   else if kP z.ae w then⟨5,eQ z.ae (db [bk z.ae ⟨z.ao,4⟩,fc z.ae q.name,fc z.ae w]),[]⟩
   else⟨6,eQ z.ae (db [bk z.ae ⟨z.ao,4⟩,fc z.ae q.name,fc z.ae w]),[]⟩
def tW(z:bc)(q:bC):dZ :=
 if Nm.under q.name z.ao then
  match nX z q.name with
  |some c=>if q.name=c/\(q.type=6\/q.type=8)then qy z q else⟨4,eQ z.ae (mb z.ae c),c⟩
  |none=>qy z q
 else⟨7,[],[]⟩
def sc(z:bc)(q:bC):Int:=if eu z&&fM q then 0 else 1
def pz(z:bc)(q:bC):dZ:=if sc z q=0 then tW z q else⟨0,[],[]⟩
structure iW(z:bc):Prop where
 sorted:gy z.ae
 names:∀ s∈z.ae,Nm.valid s.set.name=true
 ae:∀ s∈z.ae,er s.set=true
 ao:Nm.valid z.ao=true
 under:∀ s∈z.ae,Nm.under s.set.name z.ao=true
 len:z.ae.length<=20000
 start:0<=bk z.ae ⟨z.ao,4⟩
 cP:∀ c∈cb z.ao z.ae,∀ d∈cb z.ao z.ae,∀ n,Nm.under n c=true->Nm.under n d=true->c=d
theorem Pu{z:bc}(h:eu z=true):iW z:=by
 have h0:=h;simp only[eu,aft]at h;obtain⟨h1,-,-,h4,-⟩:=h;obtain⟨hs,hv,hn⟩:=Nz h1;obtain⟨hl,aP,yc⟩:=xT h1;have aJ:∀ s∈z.ae,s.set.name≠[]:=fun s h=>(hn s h).1;have hA:=Nv (ao:=z.ao) (Di hs);obtain⟨g1,g2,g3⟩:=No _ hA;have Pv:∀ c∈cb z.ao z.ae,c≠[]:=fun c hc=>by
  obtain⟨s,h,rfl,-⟩:=qi hc;exact aJ s h
 have aL:∀ c∈cb z.ao z.ae,c∈([]:List Text)++z.ae.map (·.set.name):=fun c hc=>by
  obtain⟨s,h,rfl,-⟩:=qi hc
  simpa using⟨s,h,rfl⟩
 have bG:=Pr g1 g2 xR g3 Pv (z.ae.map (·.set.name)) [] [] 0 (by simpa using Di hs) aL (afv _) rfl (fun m d hm=>by omega);have fU:∀ c∈cb z.ao z.ae,c∈fq (cb z.ao z.ae):=fun c hc=>by
  obtain⟨s,DS,rfl,hcut⟩:=qi hc;obtain⟨i,hi⟩:=afe DS;have ah:=aX hi;obtain⟨b,hb⟩:=aH (l:=jk z) (k:=i) (by rw[tz];exact ah);have hF:=bG i s.set.name b (by simp[hi]) hb;obtain⟨d,hd,hu⟩:=g3 _ hc;rcases hF with⟨k1,k2⟩|⟨-,k2⟩
  ·have hz:=List.all_eq_true.1 h4 (s,b) (afh (xS hi hb));have kj:b≠[]:=Pv b (xR b k1);have ht:s.set.type=2:=by
    simp only[iT,aft,beq_iff_eq]at hcut;exact hcut.1
   simp only[qj,aft]at hz;have h5:=hz.1.1;simp[kj,ht]at h5;rw[h5];exact k1
  ·rw[k2 d hd]at hu;cases hu
 obtain⟨k,s,d,e1,-⟩:=aal h0;refine⟨hs,hv,fun s h=>?_,yc,fun s h=>?_,hl,by rw[e1];omega,fun c hc d hd n eo rN=>Np g1 g2 (fU c hc) (fU d hd) eo rN⟩
 ·have:=aP s h;simp only[fB,aft]at this;exact this.1
 ·have:=aP s h;simp only[fB,aft]at this;exact this.2
theorem iW.aav{z:bc}(V:iW z):kP z.ae z.ao=true:=by
 obtain⟨s,h1,h2⟩:=IK V.start;exact aiA.2 ⟨s,afh h1,V.under s (afh h1)⟩
end Go.Proofs.YtfmdaiojokniiaaGreatDoor.P
end
section
namespace Go.Proofs.YtfmdaiojokniiaaGreatDoor.P
open Go Go.aA
set_option maxRecDepth 100000
set_option maxHeartbeats 4000000
theorem aax(a b:bC):eL a.enc b.enc=decide (a=b):=by
 obtain⟨an,at_⟩:=a;obtain⟨bn,bt⟩:=b;show eL (DV.agg [.str an,.int .i64 at_]) (DV.agg [.str bn,.int .i64 bt])=_;rw[ahf];simp[eL,uA,qN];exact fun _ _=>by decide
def vm(l:List Signed):List (DV × DV):=l.zipIdx.foldl (fun es p=>bW (bC.enc ⟨p.1.set.name,p.1.set.type⟩) (.int .i64 p.2) es) []
theorem aay(l:List Signed)(x:Signed):vm (l++[x])=bW (bC.enc ⟨x.set.name,x.set.type⟩) (.int .i64 l.length) (vm l):=by
 rw[vm,List.zipIdx_append,ah8];simp[vm]
theorem Pw{l:List Signed}{k:Nat}{x:Signed}(h:l[k]?=some x):vm (l.take (k+1))=bW (bC.enc ⟨x.set.name,x.set.type⟩) (.int .i64 k) (vm (l.take k)):=by
 have hk:k<l.length:=(ag2.1 h).1;rw[cG h,aay,aeu,Nat.min_eq_left (by omega)]
theorem Px(l:List Signed):mP bC.enc (vm l):=by
 have main:∀ (l:List (Signed × Nat)) (es:List (DV × DV)),mP bC.enc es->mP bC.enc (l.foldl (fun es p=>bW (bC.enc ⟨p.1.set.name,p.1.set.type⟩) (.int .i64 p.2) es) es):=by
  intro l
  induction l with
  |nil=>intro es h;exact h
  |cons p l ih=>intro es h;exact ih _ (HA h)
 exact main _ _ fun p hp=>by simp at hp
theorem aaz{q:bC}{x:Signed}(h:q≠⟨x.set.name,x.set.type⟩):da q x=false:=by
 cases e:da q x
 ·rfl
 ·exact absurd (IL e) h
theorem aaA{l:List Signed}{q:bC}{x:Signed}(h:q≠⟨x.set.name,x.set.type⟩):bk (l++[x]) q=bk l q:=by
 unfold bk;rw[List.findIdx?_append];cases e:l.findIdx? (da q)with
 |some k=>simp
 |none=>simp[List.findIdx?_cons,aaz h]
theorem Py{q:bC}{l:List Signed}(hs:gy l):∀ (k:Nat),k<=l.length->findD q.enc (vm (l.take k))=if 0<=bk (l.take k) q then some (.int .i64 (bk (l.take k) q))else none
 |0,_=>by simp[vm,findD,bk]
 |k+1,hk=>by
  obtain⟨x,hx⟩:=aH (l:=l) (k:=k) (by omega);have ih:=Py (q:=q) hs k (by omega);have hsk:gy (l.take (k+1)):=fun i j a b dY ha hb=>by
   rw[aek]at ha hb;split at ha
   case isFalse=>cases ha
   split at hb
   case isFalse=>cases hb
   exact hs i j a b dY ha hb
  rw[Pw hx,HB aax (Px _)];by_cases e:q=⟨x.set.name,x.set.type⟩
  ·subst e;have:=aan hsk (k:=k) (x:=x) (by rw[aek,if_pos (by omega)];exact hx);rw[if_pos rfl,this,if_pos (by omega)]
  ·rw[if_neg e,cG hx,aaA e];exact ih
theorem aaC{q:bC}{l:List Signed}(hs:gy l):findD q.enc (vm l)=if 0<=bk l q then some (.int .i64 (bk l q))else none:=by
 have:=Py (q:=q) hs l.length (aed _)
 rwa [List.take_length]at this
theorem IQ(q:bC):du E.T (.struct [(0,9),(1,3)]) q.enc:=⟨_,rfl,rfl,⟨_,rfl,_,rfl⟩,rfl,⟨_,rfl,_,rfl⟩,trivial⟩
theorem Pz(l:List Signed):∀ p∈vm l,du E.T (.struct [(0,9),(1,3)]) p.1:=fun p hp=>by
 obtain⟨a,ha⟩:=Px l p hp;rw[ha];exact IQ a
def bE(z:bc)(q:bC)(cut:Text)(b:Bool)(w:Text):af := .cells [.d (.str z.ao),.d (.sl (z.ae.map Signed.enc)),.map 1,.d (.str q.name),.d (.int .i64 q.type),.d (.str cut),.d (.bool b),.d (.str w)]
def bq(z:bc):af := .map (vm z.ae)
theorem PA(a b:Text)(ha:Nm.valid a=true)(hb:Nm.valid b=true):ar E 294 [.str a,.str b] (· = .int .i64 (bD a b)):=by
 refine eP Tryz.func294 ?_;refine aq (Hn a b ha hb) ?_;refine gO Tryz.func294 ?_
 with_reducible rfl
theorem wk(a b:Text)(ha:Nm.valid a=true)(hb:Nm.valid b=true):ar E 237 [.str a,.str b] (· = .bool (Nm.under a b)):=by
 have c1:=vq a b (by have:=dV ha;exact ni (by omega)) (by have:=dV hb;exact ni (by omega));refine eP Tryz.func237 ?_;refine aq (c1) ?_;refine gO Tryz.func237 ?_;rw[Dd ha hb]
theorem aaD(z:bc)(q:bC)(hl:z.ae.length<=1000000):aw E 156 [] [.d z.enc,.d q.enc] (fun a b=>a=.ptr 3 0/\b=[.cells [.d (.str z.ao),.d (.sl (z.ae.map Signed.enc))],.cells [.d (.str q.name),.d (.int .i64 q.type)],.map (vm z.ae),.cells [.d (.str z.ao),.d (.sl (z.ae.map Signed.enc)),.map 2,.d (.str q.name),.d (.int .i64 q.type),.d (.str []),.d (.bool false),.d (.str [])]]):=by
 obtain⟨ao,l⟩:=z;obtain⟨qn,qt⟩:=q;show aw E _ [] [.d (DV.agg [.str ao,.sl (l.map Signed.enc)]),.d (DV.agg [.str qn,.int .i64 qt])] _;refine aw.run ag (fn:=Tryz.f156) Tryz.func156 (body:=Tryz.f156.body.getD .skip) rfl (by decide) 2000 rfl ?_;(conv=>whnf);refine dU ?_;refine bP.at rfl ?_;(conv=>whnf);refine lh.op (aaw (kt:=36) (et:=3) (by kernel_rfl) (aV rfl)) ?_;refine gD ?_;refine And.intro (by kernel_rfl) ?_;(conv=>whnf);refine gO Tryz.func156 ?_;refine J.loop (κ:=Nat) ([6,7]++rg 22 18) (fun k=>[(22,.d (.int .i64 k))]) (fun k=>[(2,.map (vm (l.take k)))]) (fun k=>k<=l.length) (fun k=>l.length-k) 0 (afv _) ?_ ?_
 ·(conv=>whnf);repeat (first|exact trivial|(refine sI ?_;conv=>whnf))
  refine And.intro rfl ?_;exact sZ
 intro k hk IH;refine J.head ag Tryz.func156 2000 ?_;(conv=>whnf);refine ai (fun h5=>?_) (fun h5=>?_)
 ·have ah:k<l.length:=by simpa using h5
  obtain⟨x,hx⟩:=aH ah;have ib:=Pw hx;simp only at hl;refine gO Tryz.func156 ?_;refine aD (e:=x.enc) (aO hx) rfl ?_;refine gO Tryz.func156 ?_;refine dU ?_;refine aW ⟨IQ ⟨x.set.name,x.set.type⟩,Pz _⟩ ?_;refine gD ?_;refine And.intro (by kernel_rfl) ?_;(conv=>whnf);refine gO Tryz.func156 ?_;refine J.back (IH (k+1) (by omega) (by omega)) ?_;rw[ib];exact sZ
 ·have aC:l.length<=k:=by simpa using h5
  rw[afS aC];refine gO Tryz.func156 ?_;exact⟨rfl,rfl⟩
theorem se(z:bc)(q:bC)(cut:Text)(b:Bool)(w:Text)(n:Text)(t:Int)(hs:gy z.ae):aw E 236 [bE z q cut b w,bq z] [.ptr 0 0,.d (.str n),.d (.int .i64 t)] (fun x h=>x=.d (.int .i64 (bk z.ae ⟨n,t⟩))/\h=[bE z q cut b w,bq z]):=by
 have hf:=aaC (q:=⟨n,t⟩) hs;have aC : -1<=bk z.ae ⟨n,t⟩:=ie.1;unfold bE bq;refine aw.run ag (fn:=Tryz.f236) Tryz.func236 (body:=Tryz.f236.body.getD .skip) rfl (by decide) 2000 rfl ?_;(conv=>whnf);have iJ:=Pz z.ae;have PB:=IQ ⟨n,t⟩;by_cases h0:0<=bk z.ae ⟨n,t⟩
 ·rw[if_pos h0]at hf;refine oX (.int .i64 0) (.int .i64 0) (v := .int .i64 (bk z.ae ⟨n,t⟩)) (f:=true) PB iJ (fun w=>by kernel_rfl) (fun _ _ => .int _ _) (by rw[hf];rfl) (by rw[hf];rfl) ?_;refine gO Tryz.func236 ?_;refine a8 ?_;refine gO Tryz.func236 ?_;exact⟨rfl,rfl⟩
 ·rw[if_neg h0]at hf;refine oX (.int .i64 0) (.int .i64 0) (v := .int .i64 0) (f:=false) PB iJ (fun w=>by kernel_rfl) (fun _ _ => .int _ _) (by rw[hf];rfl) (by rw[hf];rfl) ?_;refine gO Tryz.func236 ?_;refine aR ?_;refine gO Tryz.func236 ?_;exact⟨by rw[show bk z.ae ⟨n,t⟩ = -1 by omega],rfl⟩
theorem IS(z:bc)(q:bC)(cut:Text)(b:Bool)(w:Text)(hs:gy z.ae):aw E 240 [bE z q cut b w,bq z] [.ptr 0 0] (fun x h=>x=.d (.int .i64 (bk z.ae ⟨z.ao,4⟩))/\h=[bE z q cut b w,bq z]):=by
 have c1:=fun n t=>se z q cut b w n t hs;unfold bE bq at c1;unfold bE bq;refine aw.run ag (fn:=Tryz.f240) Tryz.func240 (body:=Tryz.f240.body.getD .skip) rfl (by decide) 2000 rfl ?_;conv=>whnf
 with_reducible refine aS (c1 z.ao 4) ?_
 refine gO Tryz.func240 ?_;exact⟨rfl,rfl⟩
theorem aaE(l:List Int)(v:Int)(hl:l.length<=1000000):ar E 336 [.sl (l.map (.int .i64)),.int .i64 v] (fun r=>∃ n:Int,r=.int .i64 n/\(0<=n↔v∈l)):=by
 refine eP F336 ?_;refine J.loop (κ:=Nat) ([4,5]++rg 8 11) (fun k=>[(8,.d (.int .i64 k))]) (fun _=>[]) (fun k=>k<=l.length/\∀ j x,j<k->l[j]?=some x->v≠x) (fun k=>l.length-k) 0 ⟨afv _,fun j x h=>by omega⟩ ?_ ?_
 ·exact sZ
 rintro k ⟨hk,aL⟩ IH;refine J.head ag F336 2000 ?_;(conv=>whnf);refine ai (fun h5=>?_) (fun h5=>?_)
 ·have ah:k<l.length:=by simpa using h5
  obtain⟨x,hx⟩:=aH ah;refine gO F336 ?_;refine aD (e := .int .i64 x) (aO hx) rfl ?_;refine gO F336 ?_;by_cases e:v=x
  ·refine aY (by simpa using e) ?_;refine gO F336 ?_;exact⟨k,rfl,fun _=>e ▸ afh hx,fun _=>by omega⟩
  ·refine aU (by simpa using e) ?_;refine gO F336 ?_;refine J.back (IH (k+1) ⟨by omega,fun j y hj hy=>?_⟩ (by omega)) ?_
   ·rcases ajp (ajq hj)with h|h
    ·exact aL j y h hy
    ·subst h;rw[hx]at hy;cases hy;exact e
   exact sZ
 ·have aC:k=l.length:=by simp at h5;omega
  subst aC;refine gO F336 ?_;refine⟨-1,rfl,fun h=>absurd h (by decide),fun h=>?_⟩;obtain⟨j,hj⟩:=afe h;exact absurd rfl (aL j v (ag2.1 hj).1 hj)
theorem aaF(l:List Int)(v:Int)(hl:l.length<=1000000):ar E 291 [.sl (l.map (.int .i64)),.int .i64 v] (· = .bool (decide (v∈l))):=by
 refine eP Tryz.func291 ?_
 with_reducible refine xm (aaE l v hl) ?_
 rintro r ⟨n,rfl,hn⟩;refine gO Tryz.func291 ?_;rw[show decide (n>=0)=decide (v∈l) by rw[ahf,decide_eq_true_eq,decide_eq_true_eq];exact hn]
theorem aaG(z:bc)(q:bC)(cut:Text)(b:Bool)(w n:Text)(hv:∀ s∈z.ae,Nm.valid s.set.name=true)(hn:Nm.valid n=true){i:Nat}{s:Signed}(hi:z.ae[i]?=some s):aw E 293 [.cells [.ptr 2 0],.cells [.d (.str n)],.cells [.d (.str z.ao),.d (.sl (z.ae.map Signed.enc)),.map 3,.d (.str q.name),.d (.int .i64 q.type),.d (.str cut),.d (.bool b),.d (.str w)],bq z] [.d (.int .i64 i),.ptr 0 0,.ptr 1 0] (fun x h=>x=.d (.bool (!jx n s))/\h=[.cells [.ptr 2 0],.cells [.d (.str n)],.cells [.d (.str z.ao),.d (.sl (z.ae.map Signed.enc)),.map 3,.d (.str q.name),.d (.int .i64 q.type),.d (.str cut),.d (.bool b),.d (.str w)],bq z]):=by
 have c1:=PA s.set.name n (hv s (afh hi)) hn;unfold bq;refine aw.run ag (fn:=Tryz.f293) Tryz.func293 (body:=Tryz.f293.body.getD .skip) rfl (by decide) 2000 rfl ?_;(conv=>whnf);refine dU ?_;refine aD (e:=s.enc) (aO hi) rfl ?_;refine gD ?_;refine ax (c1) ?_;refine gD ?_;refine gO Tryz.func293 ?_;refine⟨?_,rfl⟩;refine congrArg (fun b=>AV.d (DV.bool b)) ?_;unfold jx;rw[ahf];simp
theorem aaH(z:bc)(q:bC)(cut:Text)(b:Bool)(w n:Text)(hs:gy z.ae)(hl:z.ae.length<=1000000)(hv:∀ s∈z.ae,Nm.valid s.set.name=true)(hn:Nm.valid n=true):aw E 292 [.cells [.ptr 2 0],.cells [.d (.str n)],.cells [.d (.str z.ao),.d (.sl (z.ae.map Signed.enc)),.map 3,.d (.str q.name),.d (.int .i64 q.type),.d (.str cut),.d (.bool b),.d (.str w)],bq z] [.d (.int .i64 z.ae.length),.fn (.func 293) [] [.ptr 0 0,.ptr 1 0]] (fun x h=>x=.d (.int .i64 (iF (jx n) z.ae))/\h=[.cells [.ptr 2 0],.cells [.d (.str n)],.cells [.d (.str z.ao),.d (.sl (z.ae.map Signed.enc)),.map 3,.d (.str q.name),.d (.int .i64 q.type),.d (.str cut),.d (.bool b),.d (.str w)],bq z]):=by
 have c1:=fun i s hi=>aaG z q cut b w n hv hn (i:=i) (s:=s) hi;have hc:∀ i s,z.ae[i]?=some s->(jx n s=true↔i<iF (jx n) z.ae):=fun i s hi=>by rw[<- lt_iff hs hi];simp[jx]
 have dL:=Bc (P:=jx n) (l:=z.ae);generalize iF (jx n) z.ae=m at *;unfold bq at *;refine aw.run ag (fn:=Tryz.f292) Tryz.func292 (body:=Tryz.f292.body.getD .skip) rfl (by decide) 2000 rfl ?_;(conv=>whnf);refine J.loop (κ:=Nat × Nat) [5,6,7,9,10,11,12,13,14,15,16,17,18,19,20,21,22,23,24] (fun k=>[(5,.d (.int .i64 k.1)),(6,.d (.int .i64 k.2))]) (fun _=>[]) (fun k=>k.1<=m/\m<=k.2/\k.2<=z.ae.length) (fun k=>k.2-k.1) (0,z.ae.length) ⟨afv _,dL,aed _⟩ ?_ ?_
 ·exact sZ
 rintro⟨i,j⟩ ⟨k1,k2,k3⟩ IH;simp only at k1 k2 k3;refine J.head ag F292 2000 ?_;(conv=>whnf);refine ai (fun h5=>?_) (fun h5=>?_)
 ·have ah:i<j:=by simpa using h5
  obtain⟨x,hx⟩:=aH (l:=z.ae) (k:=(i+j) / 2) (by omega);have AB:=Pq (i:=i) (j:=j) (by omega);have Be:=hc _ x hx;refine gO F292 ?_;refine aW (by decide) ?_;refine gO F292 ?_;rw[show IntKind.i64.wrap (lJ .shr .u64 (IntKind.u64.wrap (IntKind.i64.wrap (((i,j).fst:Int)+((i,j).snd:Int)))) (Int.toNat 1))=(((i+j) / 2:Nat):Int)from AB]
  with_reducible refine aS (c1 _ x hx) ?_
  refine gO F292 ?_;cases h6:jx n x
  ·have:¬ (i+j) / 2<m:=fun e=>by rw[Be.2 e]at h6;cases h6
   refine aU (by decide) ?_;refine gO F292 ?_;refine J.back (IH (i,(i+j) / 2) ⟨k1,by simp only;omega,by simp only;omega⟩ (by simp only;omega)) ?_;exact sZ
  ·have:=Be.1 h6;refine aY (by decide) ?_;refine gO F292 ?_;refine J.back (IH ((i+j) / 2+1,j) ⟨by simp only;omega,k2,k3⟩ (by simp only;omega)) ?_;exact sZ
 ·have aC:i=m:=by simp at h5;omega
  subst aC;refine gO F292 ?_;exact⟨rfl,rfl⟩
theorem aaI(z:bc)(q:bC)(cut:Text)(b:Bool)(w n:Text)(hs:gy z.ae)(hl:z.ae.length<=1000000)(hv:∀ s∈z.ae,Nm.valid s.set.name=true)(hn:Nm.valid n=true):aw E 239 [bE z q cut b w,bq z] [.ptr 0 0,.d (.str n)] (fun x h=>x=.d (.bool (kP z.ae n))/\h=[bE z q cut b w,bq z,.cells [.ptr 0 0],.cells [.d (.str n)]]):=by
 have c1:=aaH z q cut b w n hs hl hv hn;have hex:=aau hs (n:=n);have dL:=Bc (P:=jx n) (l:=z.ae);rw[hex];generalize iF (jx n) z.ae=m at *;clear hex;unfold bq at c1;unfold bE bq;refine aw.run ag (fn:=Tryz.f239) Tryz.func239 (body:=Tryz.f239.body.getD .skip) rfl (by decide) 2000 rfl ?_;(conv=>whnf);rw[show((z.ae.map Signed.enc).length:Int)=(z.ae.length:Int) by simp]
 with_reducible refine aS (c1) ?_
 refine gO Tryz.func239 ?_;rcases adV m z.ae.length with h1|h1
 ·obtain⟨x,hx⟩:=aH h1;have c2:=wk x.set.name n (hv x (afh hx)) hn;rw[hx];refine dU ?_;refine aY (decide_eq_true (by simp;omega)) ?_;refine gD ?_;refine aD (e:=x.enc) (aO hx) rfl ?_;refine gD ?_;refine ax (c2) ?_;refine gD ?_;refine gO Tryz.func239 ?_;exact⟨rfl,rfl⟩
 ·rw[List.getElem?_eq_none h1];refine dU ?_;refine aU (decide_eq_false (by simp;omega)) ?_;refine gD ?_;refine gO Tryz.func239 ?_;exact⟨rfl,rfl⟩
def pA(k:Int)(l:List Signed)(c:Text):DV := .agg [.int .i64 k,.sl (l.map Signed.enc),.str c]
theorem aaJ{z:bc}{ps:List Int}{k:Nat}{p:Int}(hp:ps[k]?=some p){s:Signed}(h0:0<=p)(hs:z.ae[p.toNat]?=some s):eQ z.ae (db (ps.take (k+1)))=if p∈ps.take k then eQ z.ae (db (ps.take k))else eQ z.ae (db (ps.take k))++[s]:=by
 rw[Ps hp,aas h0 hs];have:p∈db (ps.take k)↔p∈ps.take k:=by rw[aap];exact⟨fun h=>h.2,fun h=>⟨h0,h⟩⟩
 by_cases e:p∈ps.take k
 ·rw[if_pos e,if_pos (this.2 e)]
 ·rw[if_neg e,if_neg (fun h=>e (this.1 h))]
theorem aaK{ps:List Int}{k:Nat}{p:Int}(hp:ps[k]?=some p)(h0:p<0):db (ps.take (k+1))=db (ps.take k):=by
 rw[Ps hp,lC,if_pos (.inl h0)]
theorem aaL(z:bc)(q:bC)(cut:Text)(b:Bool)(w:Text)(kind:Int)(ps:List Int)(hf:z.lv)(hI:∀ p∈ps,p<z.ae.length)(hl:ps.length<=1000):aw E 238 [bE z q cut b w,bq z] [.ptr 0 0,.d (.int .i64 kind),.d (.sl (ps.map (.int .i64)))] (fun x h=>x=.d (pA kind (eQ z.ae (db ps)) [])/\h=[bE z q cut b w,bq z,.cells [.d (.int .i64 kind),.d (.sl ((eQ z.ae (db ps)).map Signed.enc)),.d (.str [])],.cells [.d (.int .i64 kind),.d (.sl ((eQ z.ae (db ps)).map Signed.enc)),.d (.str [])],.gone]):=by
 obtain⟨pT,iN⟩:=hf;unfold bE bq pA;refine aw.run ag (fn:=Tryz.f238) Tryz.func238 (body:=Tryz.f238.body.getD .skip) rfl (by decide) 2000 rfl ?_;(conv=>whnf);refine J.o9 3 1 (102,5) (by decide) rfl rfl ?_;(conv=>whnf);refine J.loop (κ:=Nat) ([8,9,10]++rg 15 38) (fun k=>[(15,.d (.int .i64 k))]) (fun k=>[(3,.cells [.d (.int .i64 kind),.own 4 1,.d (.str [])]),(4,.arr 1 (102,5) ((eQ z.ae (db (ps.take k))).map Signed.enc))]) (fun k=>k<=ps.length) (fun k=>ps.length-k) 0 (afv _) ?_ ?_
 ·(conv=>whnf);repeat (first|exact trivial|(refine sI ?_;conv=>whnf))
  refine And.intro rfl ?_;exact sZ
 intro k hk IH;refine J.head ag F238 2000 ?_;(conv=>whnf);refine ai (fun h5=>?_) (fun h5=>?_)
 ·have ah:k<ps.length:=by simpa using h5
  obtain⟨p,hp⟩:=aH ah;refine gO F238 ?_;refine aD (e := .int .i64 p) (aO hp) rfl ?_;refine gO F238 ?_;refine ai (fun h6=>?_) (fun h6=>?_)
  ·have h0:=of_decide_eq_true h6;have ib:=aaK hp h0;refine gO F238 ?_;refine a8 ?_;refine gO F238 ?_;refine J.back (IH (k+1) (by omega) (by omega)) ?_;rw[ib];exact sZ
  ·have h0:=of_decide_eq_false h6;obtain⟨x,hx⟩:=aH (l:=z.ae) (k:=p.toNat) (by have:=hI p (afh hp);omega);have ib:=aaJ (z:=z) hp (by omega) hx;have nh:List.drop ((none:Option Int).getD 0).toNat (List.take ((some (k:Int)).getD ((ps.map (DV.int .i64)).length:Int)).toNat (ps.map (DV.int .i64)))=(ps.take k).map (DV.int .i64):=by simp[List.map_take]
   have c1:=aaF (ps.take k) p (by simp;omega);have A1:rm (z.ae.map Signed.enc) p x.enc:=by
    have:=aO (f:=Signed.enc) hx
    rwa [Int.toNat_of_nonneg (by omega)]at this
   have iS:=aar (l:=z.ae) (ps:=db (ps.take k));have kc:=aaq (ps:=ps.take k);obtain⟨q1,q2⟩:=iN x (afh hx);refine gO F238 ?_;refine aW ⟨by simp,by simp,by simp;omega,fun e he=>by obtain⟨y,_,rfl⟩:=aer.1 he;rfl⟩ ?_;(conv=>whnf);rw[nh];refine gO F238 ?_;refine aq (c1) ?_;refine gO F238 ?_;by_cases fU:p∈ps.take k
   ·rw[if_pos fU]at ib;refine aY (decide_eq_true fU) ?_;refine gO F238 ?_;refine J.back (IH (k+1) (by omega) (by omega)) ?_;rw[ib];exact sZ
   ·rw[if_neg fU]at ib;refine aU (decide_eq_false fU) ?_;refine gO F238 ?_;refine aD (e:=x.enc) A1 rfl ?_;refine gO F238 ?_;refine aq (x7 (x.set.data.map Datum.enc) (by simpa using q1) (fun e h=>by obtain⟨d,_,rfl⟩:=aer.1 h;simp[DV.cells])) ?_;refine gO F238 ?_;refine aq (HI (x.sigs.map c9.enc) (by simpa using q2) (fun e h=>by obtain⟨d,_,rfl⟩:=aer.1 h;simp[DV.cells])) ?_;refine gO F238 ?_
    refine aW ⟨by have : (ps.take k).length <= 1000 := by{ rw[aeu];omega }
                  simp only[aff, aef, ae7];omega, by simp[DV.cells]⟩ ?_
    refine gO F238 ?_;refine J.back (IH (k+1) (by omega) (by omega)) ?_;rw[ib];(conv=>whnf);repeat (first|exact trivial|(refine sI ?_;conv=>whnf))
    refine And.intro (by simp) ?_;exact sZ
 ·have aC:ps.length<=k:=by simpa using h5
  rw[afS aC];(conv=>whnf);refine J.freeze 4 ?_;(conv=>whnf);refine gO F238 ?_;exact⟨rfl,rfl⟩
theorem aaM(z:bc)(q:bC)(cut:Text)(b:Bool)(w n:Text)(hv:∀ s∈z.ae,Nm.valid s.set.name=true)(hn:Nm.valid n=true){i:Nat}{s:Signed}(hi:z.ae[i]?=some s):aw E 338 [.cells [.ptr 2 0],.cells [.d (.str n)],.cells [.d (.str z.ao),.d (.sl (z.ae.map Signed.enc)),.map 3,.d (.str q.name),.d (.int .i64 q.type),.d (.str cut),.d (.bool b),.d (.str w)],bq z] [.d (.int .i64 i),.ptr 0 0,.ptr 1 0] (fun x h=>x=.d (.bool (!jU n s))/\h=[.cells [.ptr 2 0],.cells [.d (.str n)],.cells [.d (.str z.ao),.d (.sl (z.ae.map Signed.enc)),.map 3,.d (.str q.name),.d (.int .i64 q.type),.d (.str cut),.d (.bool b),.d (.str w)],bq z]):=by
 have c1:=PA s.set.name n (hv s (afh hi)) hn;unfold bq;refine aw.run ag (fn:=Tryz.f338) Tryz.func338 (body:=Tryz.f338.body.getD .skip) rfl (by decide) 2000 rfl ?_;(conv=>whnf);refine dU ?_;refine aD (e:=s.enc) (aO hi) rfl ?_;refine gD ?_;refine ax (c1) ?_;refine gD ?_;refine gO Tryz.func338 ?_;refine⟨?_,rfl⟩;refine congrArg (fun b=>AV.d (DV.bool b)) ?_;unfold jU;rw[ahf];simp
theorem aaN(z:bc)(q:bC)(cut:Text)(b:Bool)(w n:Text)(hs:gy z.ae)(hl:z.ae.length<=1000000)(hv:∀ s∈z.ae,Nm.valid s.set.name=true)(hn:Nm.valid n=true):aw E 292 [.cells [.ptr 2 0],.cells [.d (.str n)],.cells [.d (.str z.ao),.d (.sl (z.ae.map Signed.enc)),.map 3,.d (.str q.name),.d (.int .i64 q.type),.d (.str cut),.d (.bool b),.d (.str w)],bq z] [.d (.int .i64 z.ae.length),.fn (.func 338) [] [.ptr 0 0,.ptr 1 0]] (fun x h=>x=.d (.int .i64 (iF (jU n) z.ae))/\h=[.cells [.ptr 2 0],.cells [.d (.str n)],.cells [.d (.str z.ao),.d (.sl (z.ae.map Signed.enc)),.map 3,.d (.str q.name),.d (.int .i64 q.type),.d (.str cut),.d (.bool b),.d (.str w)],bq z]):=by
 have c1:=fun i s hi=>aaM z q cut b w n hv hn (i:=i) (s:=s) hi;have hc:∀ i s,z.ae[i]?=some s->(jU n s=true↔i<iF (jU n) z.ae):=fun i s hi=>by rw[<- le_iff hs hi];simp[jU]
 have dL:=Bc (P:=jU n) (l:=z.ae);generalize iF (jU n) z.ae=m at *;unfold bq at *;refine aw.run ag (fn:=Tryz.f292) Tryz.func292 (body:=Tryz.f292.body.getD .skip) rfl (by decide) 2000 rfl ?_;(conv=>whnf);refine J.loop (κ:=Nat × Nat) [5,6,7,9,10,11,12,13,14,15,16,17,18,19,20,21,22,23,24] (fun k=>[(5,.d (.int .i64 k.1)),(6,.d (.int .i64 k.2))]) (fun _=>[]) (fun k=>k.1<=m/\m<=k.2/\k.2<=z.ae.length) (fun k=>k.2-k.1) (0,z.ae.length) ⟨afv _,dL,aed _⟩ ?_ ?_
 ·exact sZ
 rintro⟨i,j⟩ ⟨k1,k2,k3⟩ IH;simp only at k1 k2 k3;refine J.head ag F292 2000 ?_;(conv=>whnf);refine ai (fun h5=>?_) (fun h5=>?_)
 ·have ah:i<j:=by simpa using h5
  obtain⟨x,hx⟩:=aH (l:=z.ae) (k:=(i+j) / 2) (by omega);have AB:=Pq (i:=i) (j:=j) (by omega);have Be:=hc _ x hx;refine gO F292 ?_;refine aW (by decide) ?_;refine gO F292 ?_;rw[show IntKind.i64.wrap (lJ .shr .u64 (IntKind.u64.wrap (IntKind.i64.wrap (((i,j).fst:Int)+((i,j).snd:Int)))) (Int.toNat 1))=(((i+j) / 2:Nat):Int)from AB]
  with_reducible refine aS (c1 _ x hx) ?_
  refine gO F292 ?_;cases h6:jU n x
  ·have:¬ (i+j) / 2<m:=fun e=>by rw[Be.2 e]at h6;cases h6
   refine aU (by decide) ?_;refine gO F292 ?_;refine J.back (IH (i,(i+j) / 2) ⟨k1,by simp only;omega,by simp only;omega⟩ (by simp only;omega)) ?_;exact sZ
  ·have:=Be.1 h6;refine aY (by decide) ?_;refine gO F292 ?_;refine J.back (IH ((i+j) / 2+1,j) ⟨by simp only;omega,k2,k3⟩ (by simp only;omega)) ?_;exact sZ
 ·have aC:i=m:=by simp at h5;omega
  subst aC;refine gO F292 ?_;exact⟨rfl,rfl⟩
theorem aaO(z:bc)(q:bC)(cut:Text)(b:Bool)(w n:Text):aw E 295 [bE z q cut b w,bq z] [.ptr 0 0,.d (.str n)] (fun x h=>x=.fn (.func 337) [] [.ptr 2 0,.ptr 3 0]/\h=[bE z q cut b w,bq z,.cells [.ptr 0 0],.cells [.d (.str n)]]):=by
 unfold bE bq;refine aw.run ag (fn:=Tryz.f295) Tryz.func295 (body:=Tryz.f295.body.getD .skip) rfl (by decide) 2000 rfl ?_;(conv=>whnf);exact⟨rfl,rfl⟩
theorem aaP{P:Nat->Bool}{k:Nat}:qx P (k+1)=if P k then(k:Int)else qx P k:=rfl
theorem aaQ(z:bc)(q:bC)(cut:Text)(b:Bool)(w n:Text)(hs:gy z.ae)(hl:z.ae.length<=1000000)(hv:∀ s∈z.ae,Nm.valid s.set.name=true)(hn:Nm.valid n=true):aw E 241 [bE z q cut b w,bq z] [.ptr 0 0,.d (.str n)] (fun x h=>x=.d (.int .i64 (fc z.ae n))/\h=[bE z q cut b w,bq z,.cells [.ptr 0 0],.cells [.d (.int .i64 (fc z.ae n))],.cells [.ptr 0 0],.cells [.d (.str n)]]):=by
 have c1:=aaO z q cut b w n;have c2:=aaN z q cut b w n hs hl hv hn;have dL:=Bc (P:=jU n) (l:=z.ae);unfold fc;generalize iF (jU n) z.ae=m at *;unfold bq at c2;unfold bE bq at c1;unfold bE bq;refine aw.run ag (fn:=Tryz.f241) Tryz.func241 (body:=Tryz.f241.body.getD .skip) rfl (by decide) 2000 rfl ?_;conv=>whnf
 with_reducible refine aS (c1) ?_
 refine gO F241 ?_;refine J.rangeFunc (aV rfl) Tryz.func337 rfl (by decide) rfl (fun ll d t=>?_);refine gO F337 ?_;rw[show((z.ae.map Signed.enc).length:Int)=(z.ae.length:Int) by simp]
 with_reducible refine aS (c2) ?_
 refine gO F337 ?_;refine J.loop (κ:=Nat) ([5]++rg 15 8) (fun k=>[(5,.d (.int .i64 ((k:Int)-1)))]) (fun k=>[]) (fun k=>k<=m/\qx (yp z.ae) m=qx (yp z.ae) k) (fun k=>k) m ⟨aed _,rfl⟩ ?_ ?_
 ·exact sZ
 rintro k ⟨hk,wg⟩ IH;refine J.head ag F337 2000 ?_;(conv=>whnf);refine ai (fun h5=>?_) (fun h5=>?_)
 ·have h5:=of_decide_eq_true h5;obtain⟨k,rfl⟩:∃ j,k=j+1:=⟨k-1,by omega⟩;obtain⟨x,hx⟩:=aH (l:=z.ae) (k:=k) (by omega);have A1:rm (z.ae.map Signed.enc) (((k+1:Nat):Int)-1) x.enc:=by
   rw[show(((k+1:Nat):Int)-1)=(k:Int) by omega];exact aO hx
  have hw:IntKind.i64.wrap ((((k+1:Nat):Int)-1)-1)=(k:Int)-1:=by rw[wrap64 (by omega) (by omega)];omega
  have Gk:yp z.ae k=(x.set.type==8):=by simp[yp,hx]
  rw[aaP,Gk]at wg;refine gO F337 ?_;refine J.yield 0 rfl rfl rfl (aV rfl) (lT (aV rfl)) rfl ?_;(conv=>whnf);refine gO F241 ?_;refine J.begin 0 rfl rfl rfl ?_;(conv=>whnf);refine gO F241 ?_;refine aD (e:=x.enc) A1 rfl ?_;refine gO F241 ?_;cases ht:(x.set.type==8)
  ·rw[ht]at wg;refine aR ?_;refine gO F241 ?_;refine J.pb 0 rfl rfl rfl ?_;(conv=>whnf);refine gO F337 ?_;refine aU (by decide) ?_;refine gO F337 ?_;refine J.back (IH k ⟨by omega,wg⟩ (by omega)) ?_;exact sZ
  ·rw[ht]at wg;refine a8 ?_;refine gO F241 ?_;refine J.CI 0 rfl rfl rfl ?_;(conv=>whnf);refine gO F337 ?_;refine aY (by decide) ?_;refine gO F337 ?_;refine J.ky ag F337 rfl rfl rfl rfl (fun e=>nomatch e) ?_;(conv=>whnf);refine gO F241 ?_;refine J.lW ag F241 rfl rfl rfl rfl rfl ?_;(conv=>whnf);rw[wg,if_pos rfl,show(((k+1:Nat):Int)-1)=(k:Int) by omega];exact⟨rfl,rfl⟩
 ·have aC:k=0:=by have:=of_decide_eq_false h5;omega
  subst aC;refine gO F337 ?_;refine J.ky ag F337 rfl rfl rfl rfl (fun e=>nomatch e) ?_;(conv=>whnf);refine gO F241 ?_;refine J.lW ag F241 rfl rfl rfl rfl rfl ?_;(conv=>whnf);rw[wg];exact⟨rfl,rfl⟩
theorem Bf(z:bc)(q:bC)(cut:Text)(b:Bool)(w n:Text)(V:iW z)(hn:Nm.valid n=true):aw E 239 [bE z q cut b w,bq z] [.ptr 0 0,.d (.str n)] (fun x h=>x=.d (.bool (kP z.ae n))/\h=[bE z q cut b w,bq z]) :=
 aw.rj (aaI z q cut b w n V.sorted (by have:=V.len;omega) V.names hn) rfl rfl
theorem wm(z:bc)(q:bC)(cut:Text)(b:Bool)(w n:Text)(V:iW z)(hn:Nm.valid n=true):aw E 241 [bE z q cut b w,bq z] [.ptr 0 0,.d (.str n)] (fun x h=>x=.d (.int .i64 (fc z.ae n))/\h=[bE z q cut b w,bq z]) :=
 aw.rj (aaQ z q cut b w n V.sorted (by have:=V.len;omega) V.names hn) rfl rfl
theorem mY(z:bc)(q:bC)(cut:Text)(b:Bool)(w:Text)(kind:Int)(ps:List Int)(hf:z.lv)(hI:∀ p∈ps,p<z.ae.length)(hl:ps.length<=1000):aw E 238 [bE z q cut b w,bq z] [.ptr 0 0,.d (.int .i64 kind),.d (.sl (ps.map (.int .i64)))] (fun x h=>x=.d (pA kind (eQ z.ae (db ps)) [])/\h=[bE z q cut b w,bq z]) :=
 aw.rj (aaL z q cut b w kind ps hf hI hl) rfl rfl
theorem aaR(z:bc)(q:bC)(cut:Text)(b:Bool)(w:Text)(V:iW z)(hf:z.lv):aw E 158 [bE z q cut b w,bq z] [.ptr 0 0] (fun x h=>x=.aF [.d (pA 1 (eQ z.ae (db [bk z.ae q])) []),.d (.bool (decide (bk z.ae q>=0)))]/\h=[bE z q cut b w,bq z]):=by
 have c1:=se z q cut b w q.name q.type V.sorted;have c2:=mY z q cut b w 1 [bk z.ae q] hf (fun p hp=>by simp at hp;subst hp;exact ie.2) (by simp);simp only[ad0,agU]at c2;unfold bE bq at c1 c2;apply aw.rj
 case hk=>rfl
 case hc =>
  unfold bE bq;refine aw.run ag (fn:=Tryz.f158) Tryz.func158 (body:=Tryz.f158.body.getD .skip) rfl (by decide) 2000 rfl ?_;(conv=>whnf);refine dU ?_;refine kp (c1) ?_;refine And.intro rfl ?_;refine gD ?_;refine gO Tryz.func158 ?_
  with_reducible refine aS (c2) ?_
  refine gO Tryz.func158 ?_;exact⟨rfl,rfl⟩
 case hr=>rfl
theorem aaS(z:bc)(q:bC)(cut:Text)(b:Bool)(w:Text)(V:iW z)(hf:z.lv):aw E 159 [bE z q cut b w,bq z] [.ptr 0 0] (fun x h=>x=.aF [.d (pA 3 (eQ z.ae (db [bk z.ae ⟨q.name,3⟩])) []),.d (.bool (decide (bk z.ae ⟨q.name,3⟩>=0)&&(q.type != 8)))]/\h=[bE z q cut b w,bq z]):=by
 have c1:=se z q cut b w q.name 3 V.sorted;have ah:=(ie (l:=z.ae) (q:=⟨q.name,3⟩)).2;generalize bk z.ae ⟨q.name,3⟩=i at *;have c2:=mY z q cut b w 3 [i] hf (fun p hp=>by simp at hp;subst hp;exact ah) (by simp);simp only[ad0,agU]at c2;unfold bE bq at c1 c2;apply aw.rj
 case hk=>rfl
 case hc =>
  unfold bE bq;refine aw.run ag (fn:=Tryz.f159) Tryz.func159 (body:=Tryz.f159.body.getD .skip) rfl (by decide) 2000 rfl ?_;conv=>whnf
  with_reducible refine aS (c1) ?_
  refine gO Tryz.func159 ?_;refine dU ?_;refine zS (c2) ?_;refine gD ?_;by_cases h:i>=0
  ·refine aY (decide_eq_true h) ?_;refine gD ?_;refine And.intro (by kernel_rfl) ?_;(conv=>whnf);refine gO Tryz.func159 ?_;rw[decide_eq_true h,afC];exact⟨rfl,rfl⟩
  ·refine aU (decide_eq_false h) ?_;refine gD ?_;refine And.intro (by kernel_rfl) ?_;(conv=>whnf);refine gO Tryz.func159 ?_;rw[decide_eq_false h,ahH];exact⟨rfl,rfl⟩
 case hr=>rfl
theorem PC(z:bc)(q:bC)(cut:Text)(b:Bool)(w:Text)(V:iW z)(hf:z.lv)(hq:Nm.valid q.name=true):aw E 161 [bE z q cut b w,bq z] [.ptr 0 0] (fun x h=>x=.aF [.d (pA 2 (eQ z.ae (db [bk z.ae ⟨w,q.type⟩,fc z.ae q.name])) []),.d (.bool (decide (bk z.ae ⟨w,q.type⟩>=0)))]/\h=[bE z q cut b w,bq z]):=by
 have c1:=se z q cut b w w q.type V.sorted;have c3:=wm z q cut b w q.name V hq;have ah:=(ie (l:=z.ae) (q:=⟨w,q.type⟩)).2;have l6:=(wh (l:=z.ae) (n:=q.name)).2;generalize bk z.ae ⟨w,q.type⟩=i at *;generalize fc z.ae q.name=j at *;have c2:=mY z q cut b w 2 [i,j] hf (fun p hp=>by simp at hp;rcases hp with rfl|rfl<;>assumption) (by simp);simp only[ad0,agU]at c2;unfold bE bq at c1 c2 c3;apply aw.rj
 case hk=>rfl
 case hc =>
  unfold bE bq;refine aw.run ag (fn:=Tryz.f161) Tryz.func161 (body:=Tryz.f161.body.getD .skip) rfl (by decide) 2000 rfl ?_;(conv=>whnf);refine dU ?_;refine kp (c1) ?_;refine And.intro rfl ?_;refine gD ?_;refine gO Tryz.func161 ?_
  with_reducible refine aS (c3) ?_
  refine gO Tryz.func161 ?_
  with_reducible refine aS (c2) ?_
  refine gO Tryz.func161 ?_;exact⟨rfl,rfl⟩
 case hr=>rfl
theorem PD(z:bc)(q:bC)(cut:Text)(b:Bool)(w:Text)(V:iW z)(hf:z.lv)(hq:Nm.valid q.name=true):aw E 162 [bE z q cut b w,bq z] [.ptr 0 0] (fun x h=>x=.aF [.d (pA 3 (eQ z.ae (db [bk z.ae ⟨w,3⟩,fc z.ae q.name])) []),.d (.bool (decide (bk z.ae ⟨w,3⟩>=0)&&(q.type != 8)))]/\h=[bE z q cut b w,bq z]):=by
 have c1:=se z q cut b w w 3 V.sorted;have c3:=wm z q cut b w q.name V hq;have ah:=(ie (l:=z.ae) (q:=⟨w,3⟩)).2;have l6:=(wh (l:=z.ae) (n:=q.name)).2;generalize bk z.ae ⟨w,3⟩=i at *;generalize fc z.ae q.name=j at *;have c2:=mY z q cut b w 3 [i,j] hf (fun p hp=>by simp at hp;rcases hp with rfl|rfl<;>assumption) (by simp);simp only[ad0,agU]at c2;unfold bE bq at c1 c2 c3;apply aw.rj
 case hk=>rfl
 case hc =>
  unfold bE bq;refine aw.run ag (fn:=Tryz.f162) Tryz.func162 (body:=Tryz.f162.body.getD .skip) rfl (by decide) 2000 rfl ?_;conv=>whnf
  with_reducible refine aS (c1) ?_
  refine gO Tryz.func162 ?_;refine dU ?_;refine kp (c3) ?_;refine And.intro rfl ?_;refine gD ?_;refine kp (c2) ?_;refine And.intro rfl ?_;refine gD ?_;by_cases h:i>=0
  ·refine aY (decide_eq_true h) ?_;refine gD ?_;refine gO Tryz.func162 ?_;rw[decide_eq_true h,afC];exact⟨rfl,rfl⟩
  ·refine aU (decide_eq_false h) ?_;refine gD ?_;refine gO Tryz.func162 ?_;rw[decide_eq_false h,ahH];exact⟨rfl,rfl⟩
 case hr=>rfl
theorem PE(z:bc)(q:bC)(cut:Text)(b:Bool)(w:Text)(V:iW z)(hf:z.lv)(hq:Nm.valid q.name=true)(hw:w=[]\/Nm.valid w=true):aw E 164 [bE z q cut b w,bq z] [.ptr 0 0] (fun x h=>x=.d (pA 6 (eQ z.ae (db (if w=[]then[bk z.ae ⟨z.ao,4⟩,fc z.ae q.name,-1]else[bk z.ae ⟨z.ao,4⟩,fc z.ae q.name,fc z.ae w]))) [])/\h=[bE z q cut b w,bq z]):=by
 have c1:=IS z q cut b w V.sorted;have c3:=wm z q cut b w q.name V hq;have ah:=(ie (l:=z.ae) (q:=⟨z.ao,4⟩)).2;have l6:=(wh (l:=z.ae) (n:=q.name)).2;have aaT:=(wh (l:=z.ae) (n:=w)).2;generalize bk z.ae ⟨z.ao,4⟩=i at *;by_cases he:w=[]
 ·rw[if_pos he];generalize fc z.ae q.name=j at *;have c2:=mY z q cut b w 6 [i,j,-1] hf (fun p hp=>by simp at hp;rcases hp with rfl|rfl|rfl<;>first|assumption|omega) (by simp);simp only[ad0,agU]at c2;unfold bE bq at c1 c2 c3;apply aw.rj
  case hk=>rfl
  case hc =>
   unfold bE bq;refine aw.run ag (fn:=Tryz.f164) Tryz.func164 (body:=Tryz.f164.body.getD .skip) rfl (by decide) 2000 rfl ?_;(conv=>whnf);refine aU (by simp[he]) ?_;refine gO Tryz.func164 ?_;refine dU ?_;refine kp (c1) ?_;refine And.intro rfl ?_;refine gD ?_;refine kp (c3) ?_;refine And.intro rfl ?_;refine gD ?_;refine kp (c2) ?_;refine And.intro rfl ?_;refine gD ?_;refine gO Tryz.func164 ?_;exact⟨rfl,rfl⟩
  case hr=>rfl
 ·have c4:=wm z q cut b w w V (hw.resolve_left he);rw[if_neg he];generalize fc z.ae q.name=j at *;generalize fc z.ae w=m at *;have c2:=mY z q cut b w 6 [i,j,m] hf (fun p hp=>by simp at hp;rcases hp with rfl|rfl|rfl<;>assumption) (by simp);simp only[ad0,agU]at c2;unfold bE bq at c1 c2 c3 c4;apply aw.rj
  case hk=>rfl
  case hc =>
   unfold bE bq;refine aw.run ag (fn:=Tryz.f164) Tryz.func164 (body:=Tryz.f164.body.getD .skip) rfl (by decide) 2000 rfl ?_;(conv=>whnf);refine aY (by simp[he]) ?_;refine gO Tryz.func164 ?_
   with_reducible refine aS (c4) ?_
   refine gO Tryz.func164 ?_;refine dU ?_;refine kp (c1) ?_;refine And.intro rfl ?_;refine gD ?_;refine kp (c3) ?_;refine And.intro rfl ?_;refine gD ?_;refine kp (c2) ?_;refine And.intro rfl ?_;refine gD ?_;refine gO Tryz.func164 ?_;exact⟨rfl,rfl⟩
  case hr=>rfl
end Go.Proofs.YtfmdaiojokniiaaGreatDoor.P
end
section
namespace Go.Proofs
open Go.Shelf
def Tryz.aaU:Go.Shelf.Ren:=⟨fun|137=>288|217=>335|266=>352|n=>n,fun|9=>9|5=>5|3=>3|n=>n,fun|n=>n⟩
theorem Tryz.aaV:Go.Proofs.Lays.n137 Tryz.prog Tryz.aaU:={
 mixed:=by kernel_rfl
 f137:=Tryz.func288.trans (congrArg some (by kernel_rfl))
 f217:=Tryz.func335.trans (congrArg some (by kernel_rfl))
 f266:=Tryz.func352.trans (congrArg some (by kernel_rfl))
 t3:=Tryz.underlying3
 a3:=Tryz.isAgg3
 z3:=Tryz.sizeOf3
 v3:=Tryz.zeroValue3
 t5:=Tryz.underlying5
 a5:=Tryz.isAgg5
 z5:=Tryz.sizeOf5
 v5:=Tryz.zeroValue5
 t9:=Tryz.underlying9
 a9:=Tryz.isAgg9
 z9:=Tryz.sizeOf9
 v9:=Tryz.zeroValue9 }
def Tryz.PF:Go.Shelf.Ren:=⟨fun|156=>339|165=>353|166=>354|169=>355|240=>359|241=>360|276=>362|277=>363|n=>n,fun|31=>134|9=>9|3=>3|4=>4|0=>0|20=>20|72=>377|76=>315|70=>375|37=>115|75=>261|127=>379|164=>380|5=>5|80=>298|n=>n,fun|n=>n⟩
theorem Tryz.DT:Go.Proofs.Lays.n156 Tryz.prog Tryz.PF:={
 mixed:=by kernel_rfl
 f156:=Tryz.func339.trans (congrArg some (by kernel_rfl))
 f165:=Tryz.func353.trans (congrArg some (by kernel_rfl))
 f166:=Tryz.func354.trans (congrArg some (by kernel_rfl))
 f169:=Tryz.func355.trans (congrArg some (by kernel_rfl))
 f240:=Tryz.func359.trans (congrArg some (by kernel_rfl))
 f241:=Tryz.func360.trans (congrArg some (by kernel_rfl))
 f276:=Tryz.func362.trans (congrArg some (by kernel_rfl))
 f277:=Tryz.func363.trans (congrArg some (by kernel_rfl))
 t0:=Tryz.underlying0
 a0:=Tryz.isAgg0
 z0:=Tryz.sizeOf0
 v0:=Tryz.zeroValue0
 t3:=Tryz.underlying3
 a3:=Tryz.isAgg3
 z3:=Tryz.sizeOf3
 v3:=Tryz.zeroValue3
 t4:=Tryz.underlying4
 a4:=Tryz.isAgg4
 z4:=Tryz.sizeOf4
 v4:=Tryz.zeroValue4
 t9:=Tryz.underlying9
 a9:=Tryz.isAgg9
 z9:=Tryz.sizeOf9
 v9:=Tryz.zeroValue9
 t20:=Tryz.underlying20
 a20:=Tryz.isAgg20
 z20:=Tryz.sizeOf20
 v20:=Tryz.zeroValue20
 t31:=Tryz.underlying134
 a31:=Tryz.isAgg134
 z31:=Tryz.sizeOf134
 v31:=Tryz.zeroValue134
 t37:=Tryz.underlying115
 a37:=Tryz.isAgg115
 z37:=Tryz.sizeOf115
 v37:=Tryz.zeroValue115
 t70:=Tryz.underlying375
 a70:=Tryz.isAgg375
 z70:=Tryz.sizeOf375
 v70:=Tryz.zeroValue375
 t72:=Tryz.underlying377
 a72:=Tryz.isAgg377
 z72:=Tryz.sizeOf377
 v72:=Tryz.zeroValue377
 t75:=Tryz.underlying261
 a75:=Tryz.isAgg261
 z75:=Tryz.sizeOf261
 v75:=Tryz.zeroValue261
 t76:=Tryz.underlying315
 a76:=Tryz.isAgg315
 z76:=Tryz.sizeOf315
 v76:=Tryz.zeroValue315
 t127:=Tryz.underlying379
 a127:=Tryz.isAgg379
 z127:=Tryz.sizeOf379
 v127:=Tryz.zeroValue379
 t164:=Tryz.underlying380
 a164:=Tryz.isAgg380
 z164:=Tryz.sizeOf380
 v164:=Tryz.zeroValue380 }
theorem Tryz.DU:Builder.Extra Tryz.prog Tryz.PF:={
 sizeBuilder:=by kernel_rfl
 liesBuilder:=by kernel_rfl
 t5:=Tryz.underlying5
 a5:=Tryz.isAgg5
 z5:=Tryz.sizeOf5
 v5:=Tryz.zeroValue5
 infoByte:=by kernel_rfl
 cellsByte:=by kernel_rfl
 sizeByte:=by kernel_rfl
 neB5:=by decide }
end Go.Proofs
end
section
namespace Go.Proofs.YtfmdaiojokniiaaGreatDoor.P
open Go Go.aA Go.RowKit
set_option maxRecDepth 100000
set_option maxHeartbeats 4000000
theorem PG{aE:Nat->Prop}{w:World}{x y:DV}{vs:List Value}(h:jE aE w [x,y] vs):∃ u v,vs=[u,v]/\VD aE w x u/\VD aE w y v:=by
 obtain⟨hl,hv⟩:=h;obtain⟨u,v,rfl⟩:∃ u v,vs=[u,v]:=by
  match vs,hl with
  |[u,v],_=>exact⟨u,v,rfl⟩
 exact⟨u,v,rfl,hv 0 x u rfl rfl,hv 1 y v rfl rfl⟩
theorem aaW{w w':World}(h:Below w.heap.size w w'):Ext w w':=⟨h.os,h.tape,h.output,h.size,h.block⟩
theorem aaX(t:Text)(c:UInt8):ar E 288 [.str t,.int .u8 c.toNat] (· = .int .i64 (Lib.indexByte t c)):=by
 unfold ar;refine⟨⟨_,Tryz.func288,rfl,by decide⟩,fun aE w vs _ _ hv=>?_⟩;obtain⟨u,v,rfl,h1,h2⟩:=PG hv;cases h1;cases h2;have:=Any.strings_IndexByte Tryz.aaV ⟨t.toArray⟩ (c.toNat:Int) w;refine this.mono fun e w' ⟨h1,h2⟩=>⟨_,_,h1,rfl,?_,by rw[h2];exact Ext.refl w⟩;rw[show(ByteArray.mk t.toArray).data.toList=t by simp,show((c.toNat:Int)).toNat.toUInt8=c by simp];exact .int _ _
theorem IT:∀ (L:List Text),Lib.join L [46]=Nm.glue L
 |[]=>rfl
 |[x]=>by simp[Lib.join,ajr,Nm.glue]
 |x::y::t=>by
  have:=IT (y::t);unfold Lib.join at this ⊢;rw[Nm.glue,<- this];simp[ajr]
theorem aaY(L:List Text)(hl:L.length<=1000)(hb:(Nm.glue L).length<=1000000):ar E 339 [.sl (L.map .str),.str [46]] (· = .str (Nm.glue L)):=by
 unfold ar;refine⟨⟨_,Tryz.func339,rfl,by decide⟩,fun aE w vs _ _ hv=>?_⟩;obtain⟨u,v,rfl,h1,h2⟩:=PG hv;cases h2;have l7:(L.map fun x=>ByteArray.mk x.toArray).map (·.data.toList)=L:=by simp[Function.comp_def]
 have fin:∀ e w',(e=Ending.returned (.string ⟨(Lib.join ((L.map fun x=>ByteArray.mk x.toArray).map (·.data.toList)) (ByteArray.mk [46].toArray).data.toList).toArray⟩)/\Below w.heap.size w w')->∃ v r,e=.returned v/\r=DV.str (Nm.glue L)/\VD (fun b=>aE b) w' r v/\Ext w w':=fun e w' ⟨h1,h2⟩=>by
  refine⟨_,_,h1,rfl,?_,aaW h2⟩;rw[l7,show(ByteArray.mk [46].toArray).data.toList=[46] by simp,IT];exact .str _
 generalize hD:L.map DV.str=D at h1;cases h1 with
 |slnil =>
  have hn:L=[]:=ahk.1 hD;subst hn;exact(Any.strings_Join_none Tryz.DT Tryz.DU none 0 ⟨#[46]⟩ w).mono fun e w' ⟨q1,q2⟩=>fin e w' ⟨q1,q2 ▸ Below.refl _ _⟩
 |jX a =>
  have hn:L=[]:=ahk.1 hD;subst hn;exact(Any.strings_Join_none Tryz.DT Tryz.DU (some a) 0 ⟨#[46]⟩ w).mono fun e w' ⟨q1,q2⟩=>fin e w' ⟨q1,q2 ▸ Below.refl _ _⟩
 |sl _ blk off cap sz f kH bR jB hlen dO bG bZ =>
  subst hD;by_cases hn:L=[]
  ·subst hn;exact(Any.strings_Join_none Tryz.DT Tryz.DU (some ⟨blk,off,none⟩) cap ⟨#[46]⟩ w).mono fun e w' ⟨q1,q2⟩=>fin e w' ⟨q1,q2 ▸ Below.refl _ _⟩
  ·have wL:∀ (j:Nat) x,(L.map fun x=>ByteArray.mk x.toArray)[j]?=some x->w.cell? ⟨blk,off+j,none⟩=some (.string x):=fun j x hx=>by
    rw[ad1]at hx;cases e:L[j]? with
    |none=>rw[e]at hx;cases hx
    |some t =>
     rw[e]at hx;cases hx;have e1:(L.map DV.str)[j]?=some (.str t):=by rw[ad1,e];rfl
     have pT:sz=1:=(hlen j _ e1).symm;have c1:=dO j 0 (.str t) (.str t) e1 rfl;have v1:=bG j 0 (.str t) (.str t) e1 rfl;rw[pT,Nat.mul_one,Nat.add_zero]at c1;rw[c1];generalize f j 0=u at v1;cases v1;rfl
   obtain⟨t,r,rfl⟩:=List.exists_cons_of_ne_nil hn;have dp:blk<w.heap.size:=World.block_lt_of_cell? _ _ (wL 0 ⟨t.toArray⟩ rfl);have:=Any.strings_Join Tryz.DT Tryz.DU blk off cap ((t::r).map fun x=>ByteArray.mk x.toArray) ⟨#[46]⟩ w wL dp (by simp at hl ⊢;omega) (by simpa using jB) (by rw[l7,show(ByteArray.mk [46].toArray).data.toList=[46] by simp,IT];omega);rw[aff]at this;rw[aff];exact this.mono fun e w' h=>fin e w' h
theorem PH:∀ {L:List Text},(∀ t∈L,t.length<=100)->(Nm.glue L).length<=L.length*101
 |[],_=>by simp[Nm.glue]
 |[x],h=>by have:=h x (by simp);simp[Nm.glue];omega
 |x::y::t,h=>by
  have h1:=h x (by simp);have h2:=PH (L:=y::t) fun u hu=>h u (aeR _ hu);rw[Nm.glue];simp only[aey,aef]at h2 ⊢;omega
theorem aaZ(L:List Text)(hl:L.length<=1000)(hb:∀ t∈L,t.length<=100):ar E 296 [.sl (L.map .str)] (· = match py L with|some t => .aF [.str t,.int .i64 0]|none => .aF [.str [],.int .i64 11]):=by
 have no:Nm.parts L=false->py L=none:=fun e=>by rw[py,e];rfl
 have c2:=fun h=>aaY L hl h;refine eP F296 ?_;by_cases h0:L=[]
 ·subst h0;have e:py []=some [46]:=by decide
  rw[e];refine aY (by decide) ?_;refine gO F296 ?_
  with_reducible rfl
 refine aU (by simpa using h0) ?_;refine gO F296 ?_;refine ai (fun h1=>?_) (fun h1=>?_)
 ·have h1:=of_decide_eq_true h1
  rw[no (by
   cases e:Nm.parts L
   ·rfl
   ·have:=(rp.1 e).1;simp at h1
    omega)]
  refine gO F296 ?_
  with_reducible rfl
 have hL8:L.length<=8:=by have:=of_decide_eq_false h1;simp at this;omega
 refine gO F296 ?_;refine J.loop (κ:=Nat) (rg 2 4++rg 15 17) (fun k=>[(15,.d (.int .i64 k))]) (fun _=>[]) (fun k=>k<=L.length/\∀ i x,i<k->L[i]?=some x->gT i x=true) (fun k=>L.length-k) 0 ⟨afv _,fun i x h=>by omega⟩ ?_ ?_
 ·exact sZ
 rintro k ⟨hk,aL⟩ IH;refine J.head ag F296 2000 ?_;(conv=>whnf);refine ai (fun h5=>?_) (fun h5=>?_)
 ·have ah:k<L.length:=by simpa using h5
  obtain⟨x,hx⟩:=aH ah
  have bad:gT k x=false->py L=none:=fun e=>no (by
   cases e2:Nm.parts L
   ·rfl
   ·have:=(rp.1 e2).2 k x hx
    rw[e]at this;cases this)
  have iw:gT k x=true->∀ i y,i<k+1->L[i]?=some y->gT i y=true:=fun e i y hi hy=>by
   rcases ajp (ajq hi)with h|h
   ·exact aL i y h hy
   ·subst h;rw[hx]at hy;cases hy;exact e
  refine gO F296 ?_;refine aD (e := .str x) (aO hx) rfl ?_;refine gO F296 ?_;refine aq (GI x) ?_;refine gO F296 ?_;cases tn:Nm.label x
  ·refine a8 ?_;refine gO F296 ?_;refine ai (fun h6=>?_) (fun h6=>?_)
   ·have h6:=of_decide_eq_true h6;refine gO F296 ?_;refine a8 ?_;refine gO F296 ?_;rw[bad (by simp[gT,tn];omega)]
   ·have h6:=of_decide_eq_false h6;refine gO F296 ?_;by_cases h7:x=[42]
    ·refine aU (by simpa using h7) ?_;refine gO F296 ?_;refine J.back (IH (k+1) ⟨by omega,iw (by simp[gT,h7];omega)⟩ (by omega)) ?_;exact sZ
    ·refine aY (by simpa using h7) ?_;refine gO F296 ?_;rw[bad (by simp[gT,tn,h7])]
  ·refine aR ?_;refine gO F296 ?_;refine aR ?_;refine gO F296 ?_;refine J.back (IH (k+1) ⟨by omega,iw (by simp[gT,tn])⟩ (by omega)) ?_;exact sZ
 ·have aC:k=L.length:=by simp at h5;omega
  subst aC;have hp:Nm.parts L=true:=rp.2 ⟨hL8,fun i x hx=>aL i x (ag2.1 hx).1 hx⟩;have wW:gX L=Nm.glue L:=by rw[gX,if_neg h0]
  have iS:=PH hb;have c2:=c2 (by omega);clear IH;unfold py;rw[hp,wW,afC];refine gO F296 ?_;refine aq (c2) ?_;refine gO F296 ?_;refine ai (fun h6=>?_) (fun h6=>?_)
  ·have h6:=of_decide_eq_true h6;refine gO F296 ?_;rw[decide_eq_false (by omega)];rfl
  ·have h6:=of_decide_eq_false h6;refine gO F296 ?_;rw[decide_eq_true (by omega)];rfl
theorem PI:∀ (t:Text),(∀ r,Nm.split t=[r]->Lib.indexByte t 46 = -1/\t=r)/\∀ x y r,Nm.split t=x::y::r->∃ n:Nat,Lib.indexByte t 46=n/\t.drop (n+1)=Nm.glue (y::r)/\n+1<=t.length
 |[]=>by simp[Nm.split,Lib.indexByte]
 |c::t=>by
  obtain⟨h1,h2⟩:=PI t;by_cases hc:c=46
  ·subst hc;have e:Nm.split (46::t)=[]::Nm.split t:=by simp[Nm.split]
   have e2:Lib.indexByte (46::t) 46=0:=by simp[Lib.indexByte]
   rw[e,e2];refine⟨fun r hr=>?_,fun x y r hr=>?_⟩
   ·have:=Nm.oy t;simp at hr;exact absurd hr.2 this
   ·simp only[List.cons.injEq]at hr;refine⟨0,rfl,?_,by simp⟩;rw[<- hr.2,Nm.uY];rfl
  ·have e2:Lib.indexByte (c::t) 46=if Lib.indexByte t 46 = -1 then -1 else Lib.indexByte t 46+1:=by
    rw[Lib.indexByte,if_neg (by simpa using hc)];simp
   cases hs:Nm.split t with
   |nil=>exact absurd hs (Nm.oy t)
   |cons h r0 =>
    have e:Nm.split (c::t)=(c::h)::r0:=by simp[Nm.split,hc,hs]
    rw[e,e2];refine⟨fun r hr=>?_,fun x y r hr=>?_⟩
    ·simp only[List.cons.injEq]at hr;obtain⟨rfl,rfl⟩:=hr;obtain⟨k1,k2⟩:=h1 h hs;rw[if_pos k1];exact⟨rfl,by rw[k2]⟩
    ·simp only[List.cons.injEq]at hr;obtain⟨rfl,rfl⟩:=hr;obtain⟨n,k1,k2,k3⟩:=h2 h y r hs;rw[if_neg (by omega)];exact⟨n+1,by omega,by simpa using k2,by simp;omega⟩
theorem PJ(t:Text)(hv:Nm.valid t=true)(hr:t≠[46]):ar E 234 [.str t] (· = .aF [.str (gX (Nm.labels t).tail),.int .i64 0]):=by
 have hlen:=dV hv;have c1:=vp t (ni (by omega));rw[hv]at c1;have c2:=aaX t 46;have nI:Nm.labels t=Nm.split t:=by rw[Nm.labels,if_neg hr]
 obtain⟨h1,h2⟩:=PI t;rw[nI];refine eP F234 ?_;refine aq (c1) ?_;refine gO F234 ?_;refine aR ?_;refine gO F234 ?_;refine aU (by simpa using hr) ?_;refine gO F234 ?_;refine aq (c2) ?_;refine gO F234 ?_;cases hs:Nm.split t with
 |nil=>exact absurd hs (Nm.oy t)
 |cons x r =>
  cases r with
  |nil =>
   obtain⟨k1,k2⟩:=h1 x hs;refine aU (by rw[k1];decide) ?_;refine gO F234 ?_;rfl
  |cons y r =>
   obtain⟨n,k1,k2,k3⟩:=h2 x y r hs;have hw:IntKind.i64.wrap (Lib.indexByte t 46+1)=((n+1:Nat):Int):=by rw[k1,wrap64 (by omega) (by omega)];omega
   have hd:List.drop ((some (IntKind.i64.wrap (Lib.indexByte t 46+1))).getD 0).toNat (List.take ((none:Option Int).getD (t.length:Int)).toNat t)=gX (y::r):=by
    rw[hw]
    simpa [gX]using k2
   refine aY (by rw[k1];simp) ?_;refine gO F234 ?_;refine aW ⟨by rw[hw];simp;omega,by rw[hw];simp;omega,by simp⟩ ?_;(conv=>whnf);rw[hd];refine gO F234 ?_;rfl
end Go.Proofs.YtfmdaiojokniiaaGreatDoor.P
end
section
namespace Go.Proofs.YtfmdaiojokniiaaGreatDoor.P
open Go Go.aA
set_option maxRecDepth 100000
set_option maxHeartbeats 4000000
theorem PK:Nm.labels [46]=[]:=rfl
theorem IU{t:Text}(h:Nm.labels t=[]):t=[46]:=by rw[<- Bd t,h];rfl
theorem PL{s t:Text}(h:Nm.labels s=Nm.labels t):s=t:=by rw[<- Bd s,h,Bd]
theorem aa1{t:Text}(h:t≠[46]):Nm.labels t≠[]:=fun e=>h (IU e)
theorem PM{t:Text}(hv:Nm.valid t=true)(hr:t≠[46]):t.length<=60/\Nm.parts (Nm.split t)=true:=by
 simpa [Nm.valid,hr]using hv
theorem yq{t:Text}(hv:Nm.valid t=true)(hr:t≠[46]):Nm.valid (gX (Nm.labels t).tail)=true/\Nm.labels (gX (Nm.labels t).tail)=(Nm.labels t).tail:=by
 obtain⟨h1,h2⟩:=PM hv hr;have hd:=Nm.Lu t;have hg:=Nm.uY t;rw[Nm.labels,if_neg hr];generalize Nm.split t=L at *;cases L with
 |nil=>exact⟨rfl,rfl⟩
 |cons x r =>
  cases r with
  |nil=>exact⟨rfl,rfl⟩
  |cons y r =>
   have e:gX (y::r)=Nm.glue (y::r):=by simp[gX]
   have hs:Nm.split (Nm.glue (y::r))=y::r:=Nm.Lv _ (by simp) fun u hu=>hd u (aeR _ hu);obtain⟨p1,p2⟩:=rp.1 h2;have hy:Nm.label y=true:=by simpa [gT]using p2 1 y rfl
   have aJ:Nm.glue (y::r)≠[46]:=fun e=>by
    rw[e]at hs;have e2:Nm.split [46]=[[],[]]:=by decide
    rw[e2]at hs;cases hs;exact absurd hy (by decide)
   have hl:(Nm.glue (y::r)).length<=60:=by
    rw[<- hg,Nm.glue]at h1;simp only[aey,aef]at h1;omega
   show Nm.valid (gX (y::r))=true/\Nm.labels (gX (y::r))=y::r;rw[e];refine⟨?_,by rw[Nm.labels,if_neg aJ,hs]⟩
   have hp:Nm.parts (y::r)=true:=rp.2 ⟨by simp at p1 ⊢;omega,fun i u hu=>by
    have:=p2 (i+1) u (by simpa using hu);simp[gT]at this
    simp[gT,this]⟩
   simp[Nm.valid,aJ,hs,hp,hl]
theorem aa2(a:Text):Nm.under a a=true:=by simp[Nm.under]
theorem aa3{a b c:Text}(h:Nm.under a b=true)(k:Nm.under b c=true):Nm.under a c=true:=by
 simp only[Nm.under,decide_eq_true_eq]at *;exact k.trans h
theorem aa4{a b:Text}(h:Nm.under a b=true)(k:Nm.under b a=true):a=b:=by
 simp only[Nm.under,decide_eq_true_eq]at *;exact PL (k.eq_of_length (Nat.le_antisymm k.length_le h.length_le))
theorem PN{a:Text}(h:Nm.under [46] a=true):a=[46]:=by
 simp only[Nm.under,decide_eq_true_eq,PK,List.suffix_nil]at h;exact IU h
theorem IV{n d:Text}(hv:Nm.valid n=true)(hr:n≠[46])(h:Nm.under n d=true)(aJ:n≠d):Nm.under (gX (Nm.labels n).tail) d=true:=by
 simp only[Nm.under,decide_eq_true_eq]at *;rw[(yq hv hr).2];cases e:Nm.labels n with
 |nil=>exact absurd (IU e) hr
 |cons x r =>
  rw[e]at h;rcases List.suffix_cons_iff.1 h with k|k
  ·exact absurd (PL (e.trans k.symm)) aJ
  ·exact k
theorem aa5{n:Text}(hv:Nm.valid n=true)(hr:n≠[46]):Nm.under n (gX (Nm.labels n).tail)=true:=by
 simp only[Nm.under,decide_eq_true_eq];rw[(yq hv hr).2];exact List.tail_suffix _
theorem PO{n:Text}(hv:Nm.valid n=true)(hr:n≠[46]):(Nm.labels (gX (Nm.labels n).tail)).length<(Nm.labels n).length:=by
 rw[(yq hv hr).2,List.length_tail];have:=List.length_pos_iff.2 (aa1 hr);omega
theorem aa6{z:bc}{c:Text}(h1:z.ae.any (da ⟨c,2⟩)=true)(h2:c≠z.ao):c∈cb z.ao z.ae:=by
 obtain⟨s,hs,h⟩:=aiA.1 h1;simp only[da,aft,beq_iff_eq]at h;unfold cb;exact aer.2 ⟨s,List.mem_filter.2 ⟨hs,by simp[iT,h.1,h.2,h2]⟩,h.1⟩
theorem IW{z:bc}{c:Text}(h:c∈cb z.ao z.ae):z.ae.any (da ⟨c,2⟩)=true/\c≠z.ao:=by
 obtain⟨s,hs,rfl,hc⟩:=qi h;simp[iT]at hc;exact⟨aiA.2 ⟨s,hs,by simp[da,hc.1]⟩,hc.2⟩
theorem aa7{z:bc}(V:iW z){n c:Text}(h:c∈cb z.ao z.ae)(hu:Nm.under n c=true):nX z n=some c:=by
 unfold nX;cases e:(cb z.ao z.ae).find? fun d=>Nm.under n d with
 |none=>exact absurd hu (by simpa using ajs.1 e c h)
 |some d=>rw[V.cP d (List.mem_of_find?_eq_some e) c h n (by simpa using List.find?_some e) hu]
theorem aa8{z:bc}(V:iW z){n:Text}(h:∀ d∈cb z.ao z.ae,Nm.under n d=true->Nm.under z.ao d=true):nX z n=none:=by
 unfold nX;rw[ajs];intro d hd hu;obtain⟨s,hs,rfl,hc⟩:=qi hd;exact(IW hd).2 (aa4 (V.under s hs) (h _ hd (by simpa using hu)))
def IX(z:bc)(n:Text):DV:=if Nm.valid n&&eu z then(if Nm.under n z.ao then(match nX z n with|some c => .aF [.str c,.bool true,.int .i64 0]|none => .aF [.str [],.bool false,.int .i64 0])else .aF [.str [],.bool false,.int .i64 20])else .aF [.str [],.bool false,.int .i64 1]
theorem aa9(z:bc)(n:Text)(hf:z.Fits)(hn:n.length<=maxLen):ar E 155 [z.enc,.str n] (· = IX z n):=by
 have c1:=gU n hn;have c2:=vH z hf;unfold IX;cases h1:Nm.valid n
 ·rw[h1]at c1;refine eP F155 ?_;repeat' (first|with_reducible(first|refine aq (c1) ?_|refine ax (c1) ?_|refine cY ?_|refine cN ?_|refine ai (fun _=>?_) (fun _=>?_))|refine gA F155 ?_|refine gB ?_|with_reducible rfl)
  all_goals rfl
 cases h2:eu z
 ·rw[h1]at c1;rw[h2]at c2;refine eP F155 ?_;repeat' (first|with_reducible(first|refine aq (c1) ?_|refine ax (c1) ?_|refine aq (c2) ?_|refine ax (c2) ?_|refine cY ?_|refine cN ?_|refine ai (fun _=>?_) (fun _=>?_))|refine gA F155 ?_|refine gB ?_|with_reducible rfl)
  all_goals rfl
 rw[h1]at c1;rw[h2]at c2;have V:=Pu h2;have c3:=vq n z.ao hn (by have:=dV V.ao;exact ni (by omega));rw[Dd h1 V.ao,h1,V.ao]at c3;have hlen:=V.len;refine eP F155 ?_;refine aq (c1) ?_;refine gO F155 ?_;refine aR ?_;refine gO F155 ?_;refine aq (c2) ?_;refine gO F155 ?_;refine aR ?_;refine gO F155 ?_;refine aq (c3) ?_;refine gO F155 ?_;cases h3:Nm.under n z.ao
 ·refine a8 ?_;refine gO F155 ?_;rfl
 refine aR ?_;refine gO F155 ?_;refine J.loop (κ:=Text) ([4,5,6,10,11,12]++rg 33 18) (fun c=>[(10,.d (.str c))]) (fun _=>[]) (fun c=>Nm.valid c=true/\Nm.under n c=true/\Nm.under c z.ao=true/\∀ d∈cb z.ao z.ae,Nm.under n d=true->Nm.under c d=true) (fun c=>(Nm.labels c).length) n ⟨h1,aa2 n,h3,fun d _ h=>h⟩ ?_ ?_
 ·exact sZ
 rintro c ⟨k1,k2,k3,k4⟩ IH;refine J.head ag F155 2000 ?_;(conv=>whnf);by_cases h4:c=z.ao
 ·refine aU (by simpa using h4) ?_;refine gO F155 ?_;subst h4;rw[aa8 V k4];rfl
 refine aY (by simpa using h4) ?_;have hr:c≠[46]:=fun e=>h4 (by rw[e]at k3 ⊢;exact(PN k3).symm);have c4:=Hq z ⟨c,2⟩ (by omega) V.names k1 V.sorted;have c5:=PJ c k1 hr;have t1:=yq k1 hr;have t2:=PO k1 hr;refine gO F155 ?_
 with_reducible refine xm (c4) ?_
 rintro r ⟨i,-,rfl,-⟩;refine gO F155 ?_;cases h5:z.ae.any (da ⟨c,2⟩)
 ·refine aR ?_;refine gO F155 ?_;refine aq (c5) ?_;refine gO F155 ?_;have aJ:∀ d∈cb z.ao z.ae,c≠d:=fun d hd e=>by
   have:=(IW hd).1;rw[<- e,h5]at this;cases this
  refine J.back (IH (gX (Nm.labels c).tail) ⟨t1.1,aa3 k2 (aa5 k1 hr),IV k1 hr k3 h4,fun d hd hu=>IV k1 hr (k4 d hd hu) (aJ d hd)⟩ t2) ?_;exact sZ
 ·refine a8 ?_;refine gO F155 ?_;rw[aa7 V (aa6 h5 h4) k2];rfl
end Go.Proofs.YtfmdaiojokniiaaGreatDoor.P
end
