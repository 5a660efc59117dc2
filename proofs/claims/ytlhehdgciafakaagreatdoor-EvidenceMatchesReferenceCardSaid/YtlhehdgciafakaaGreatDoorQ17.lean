/- Lemmas of mine. Conditions: as stated. -/
import Derived.Test.YtlhehdgciafakaaGreatDoorQ11
import Derived.Test.YtlhehdgciafakaaGreatDoorQ12
set_option linter.unusedVariables false
set_option linter.unusedSimpArgs false
open Bool renaming and_eq_true->ai2,eq_iff_iff->akN,true_and->aja,false_and->ald
open List renaming mem_of_getElem?->aiQ,map_cons->ahx,map_nil->akr,any_eq_true->alN,length_cons->ahN,getElem?_eq_some_iff->akz,mem_map->ahY,mem_append->aif,mem_cons_of_mem->aip,getElem?_of_mem->aiN,length_map->aiO,findIdx?_eq_some_iff_getElem->alT,mem_singleton->alI,foldl_append->alH,foldl_cons->aiD,mem_cons->ai3,length_nil->aiF,length_take->ah1,getElem?_take->ahS,take_of_length_le->ajq,intercalate->am5,map_eq_nil_iff->akS,getElem?_map->ahy,length_append->ah5,find?_eq_none->am6
open Nat renaming zero_le->ai4,le_refl->ahL,lt_or_eq_of_le->am3,le_of_lt_succ->am4
section
namespace Go.Proofs.YtlhehdgciafakaaGreatDoor.P
open Go Go.az
set_option maxRecDepth 100000
theorem abL{x y:Signed}:pO y.set x.set=0↔cF ⟨x.set.name,x.set.type⟩ y=true:=by
 rw[<- EC,<- zz];show _↔(pR y.set.name y.set.type x.set.name x.set.type==0)=true;simp
theorem Ke{l:List Signed}(h:gm l){k:Nat}{x:Signed}(hx:l[k]?=some x):aC l ⟨x.set.name,x.set.type⟩=k :=
 OM (fun j y hj hy=>by
  have h1:=h j k y x hj hy hx;cases e:cF ⟨x.set.name,x.set.type⟩ y
  ·rfl
  ·rw[abL.2 e]at h1;omega) hx (by simp[cF])
theorem pW{l:List Signed}{q:bp}(h:0<=aC l q):∃ s,l[(aC l q).toNat]?=some s/\cF q s=true:=by
 unfold aC at h ⊢;cases e:l.findIdx? (cF q)with
 |none=>rw[e]at h;simp at h
 |some k =>
  obtain⟨h1,h2,_⟩:=alT.1 e;exact⟨l[k],by simp,h2⟩
theorem hU{l:List Signed}{q:bp} : -1<=aC l q/\aC l q<l.length:=by
 unfold aC;cases e:l.findIdx? (cF q)with
 |none=>exact⟨Int.le_refl _,by show(-1:Int)<l.length;omega⟩
 |some k =>
  obtain⟨h1,h2,_⟩:=alT.1 e;exact⟨by show(-1:Int)<=(k:Int);omega,by show(k:Int)<l.length;omega⟩
theorem xM{q:bp}{s:Signed}(h:cF q s=true):q=⟨s.set.name,s.set.type⟩:=by
 obtain⟨n,t⟩:=q;simp[cF]at h;rw[h.1,h.2]
def bR(l:List Signed)(ps:List Int):List Signed:=ps.filterMap fun p=>l[p.toNat]?
def dx(ps:List Int)(p:Int):List Int:=if p<0\/p∈ps then ps else ps++[p]
def cd(ps:List Int):List Int:=ps.foldl dx []
def oh(l:List Signed)(ps:List Int):Prop:=∀ p∈ps,0<=p/\p<l.length
theorem oh.add{l:List Signed}{ps:List Int}{p:Int}(h:oh l ps)(hp:p<l.length):oh l (dx ps p):=by
 unfold dx;split
 ·exact h
 ·rename_i hn;intro q hq;rcases aif.1 hq with hq|hq
  ·exact h q hq
  ·rw[alI.1 hq];exact⟨by omega,hp⟩
theorem Cu{ps:List Int}{p:Int}:cd (ps++[p])=dx (cd ps) p:=by rw[cd,alH];rfl
theorem Rl{ps:List Int}{k:Nat}{p:Int}(h:ps[k]?=some p):cd (ps.take (k+1))=dx (cd (ps.take k)) p:=by rw[cj h,Cu]
theorem Rm{p:Int}:∀ {ps:List Int},p∈cd ps↔0<=p/\p∈ps:=by
 have main:∀ (ps acc:List Int),(∀ q∈acc,0<=q)->(p∈ps.foldl dx acc↔p∈acc\/(0<=p/\p∈ps)):=by
  intro ps
  induction ps with
  |nil=>intro acc _;simp
  |cons x ps ih =>
   intro acc ha;rw[aiD,ih]
   ·unfold dx;split
    ·rename_i hx;constructor
     ·rintro(h|h)
      ·exact .inl h
      ·exact .inr ⟨h.1,aip _ h.2⟩
     ·rintro(h|⟨h1,h2⟩)
      ·exact .inl h
      ·rcases ai3.1 h2 with rfl|h2
       ·rcases hx with hx|hx
        ·omega
        ·exact .inl hx
       ·exact .inr ⟨h1,h2⟩
    ·rename_i hx;simp only[aif,ai3,List.not_mem_nil,or_false];constructor
     ·rintro((h|rfl)|h)
      ·exact .inl h
      ·exact .inr ⟨by omega,.inl rfl⟩
      ·exact .inr ⟨h.1,.inr h.2⟩
     ·rintro(h|⟨h1,h2⟩)
      ·exact .inl (.inl h)
      ·rcases h2 with rfl|h2
       ·exact .inl (.inr rfl)
       ·exact .inr ⟨h1,h2⟩
   ·intro q hq;unfold dx at hq;split at hq
    ·exact ha q hq
    ·rename_i hx;rcases aif.1 hq with hq|hq
     ·exact ha q hq
     ·rw[alI.1 hq];omega
 intro ps;have:=main ps [] (fun q hq=>by simp at hq)
 simpa [cd]using this
theorem abM{l:List Signed}{ps:List Int}(h:∀ p∈ps,p<l.length):oh l (cd ps):=fun p hp=>by
 obtain⟨h1,h2⟩:=Rm.1 hp;exact⟨h1,h p h2⟩
theorem Rn{ps:List Int}:(cd ps).length<=ps.length:=by
 have main:∀ (ps acc:List Int),(ps.foldl dx acc).length<=acc.length+ps.length:=by
  intro ps
  induction ps with
  |nil=>intro acc;simp
  |cons x ps ih =>
   intro acc;rw[aiD];refine Nat.le_trans (ih _) ?_;have:(dx acc x).length<=acc.length+1:=by unfold dx;split<;>simp
   simp;omega
 have:=main ps []
 simpa [cd]using this
theorem Fh{l:List Signed}{ps:List Int}:(bR l ps).length<=ps.length:=List.length_filterMap_le ..
theorem Ro{l:List Signed}{ps:List Int}{p:Int}{s:Signed}(h0:0<=p)(hs:l[p.toNat]?=some s):bR l (dx ps p)=if p∈ps then bR l ps else bR l ps++[s]:=by
 unfold dx;by_cases h:p∈ps
 ·rw[if_pos (.inr h),if_pos h]
 ·rw[if_neg (by rintro(e|e);omega;exact h e),if_neg h,bR,List.filterMap_append];simp[bR,hs]
def iK(l:List Signed)(n:Text):Bool:=l.any fun s=>Nm.under s.set.name n
def iS(P:Signed->Bool)(l:List Signed):Nat:=(l.takeWhile P).length
theorem zU{P:Signed->Bool}{l:List Signed}:iS P l<=l.length:=by
 unfold iS;exact(List.takeWhile_sublist P).length_le
theorem Kg{P:Signed->Bool}:∀ {l:List Signed} (_:∀ (i j:Nat) (x y:Signed),i<j->l[i]?=some x->l[j]?=some y->P y=true->P x=true) {i:Nat} {x:Signed} (_:l[i]?=some x),P x=true↔i<iS P l
 |[],_,i,x,hx=>by simp at hx
 |a::l,hd,i,x,hx=>by
  unfold iS;rw[List.takeWhile_cons];cases ha:P a
  ·simp only[Bool.false_eq_true,if_false,aiF,Nat.not_lt_zero,iff_false];intro e;cases i with
   |zero=>simp at hx;subst hx;rw[ha]at e;cases e
   |succ i =>
    have:=hd 0 (i+1) a x oM rfl hx e;rw[ha]at this;cases this
  ·rw[if_pos rfl,ahN];cases i with
   |zero=>simp at hx;subst hx;simp[ha]
   |succ i =>
    have:=Kg (P:=P) (l:=l) (fun i j x y h h1 h2=>hd (i+1) (j+1) x y oM h1 h2) (i:=i) (x:=x) (zD hx);unfold iS at this;rw[this];omega
theorem abN{a b c:Text}(h:bH a b<=0)(k:bH b c<0):bH a c<0:=by
 rcases Int.lt_or_eq_of_le h with h|h
 ·exact BW h k
 ·rw[rV h];exact k
theorem Kh{l:List Signed}(hs:gm l){i j:Nat}{x y:Signed}(h:i<j)(hx:l[i]?=some x)(hy:l[j]?=some y):bH x.set.name y.set.name<=0:=Jh (hs i j x y h hx hy)
def kC(n:Text)(s:Signed):Bool:=decide (bH s.set.name n<0)
def jB(n:Text)(s:Signed):Bool:=decide (bH s.set.name n<=0)
theorem lt_iff{l:List Signed}(hs:gm l){n:Text}{i:Nat}{x:Signed}(hx:l[i]?=some x):bH x.set.name n<0↔i<iS (kC n) l:=by
 rw[<- Kg (P:=kC n) (fun i j x y h h1 h2 h3=>by
  simp only[kC,decide_eq_true_eq]at h3 ⊢
  exact abN (Kh hs h h1 h2) h3) hx]
 simp[kC]
theorem le_iff{l:List Signed}(hs:gm l){n:Text}{i:Nat}{x:Signed}(hx:l[i]?=some x):bH x.set.name n<=0↔i<iS (jB n) l:=by
 rw[<- Kg (P:=jB n) (fun i j x y h h1 h2 h3=>by
  simp only[jB,decide_eq_true_eq]at h3 ⊢
  exact EG (Kh hs h h1 h2) h3) hx]
 simp[jB]
theorem abO{l:List Signed}(hs:gm l){n:Text}:iK l n=match l[iS (kC n) l]? with
  |some s=>Nm.under s.set.name n
  |none=>false:=by
 rw[akN];constructor
 ·intro h;obtain⟨x,hx,hu⟩:=alN.1 h;obtain⟨j,hj⟩:=aiN hx;have h1:=BX hu;have h2:¬ bH x.set.name n<0:=by rw[BV];omega
  have h3:iS (kC n) l<=j:=by have:=(lt_iff hs (n:=n) hj);omega
  obtain⟨s,iC⟩:=aI (l:=l) (k:=iS (kC n) l) (by have:=(akz.1 hj).1;omega);rw[iC];show Nm.under s.set.name n=true;rcases am3 h3 with h3|h3
  ·have h4:¬ bH s.set.name n<0:=fun e=>by have:=(lt_iff hs (n:=n) iC).1 e;omega
   exact zy (by rw[BV];omega) (Kh hs h3 iC hj) hu
  ·rw[<- h3,iC]at hj;cases hj;exact hu
 ·intro h;cases e:l[iS (kC n) l]? with
  |none=>rw[e]at h;cases h
  |some s=>rw[e]at h;exact alN.2 ⟨s,aiQ e,h⟩
def gz(P:Nat->Bool):Nat->Int
 |0 => -1
 |n+1=>if P n then(n:Int)else gz P n
theorem Rp{P:Nat->Bool}:∀ {n:Nat},-1<=gz P n/\gz P n<n
 |0=>by simp[gz]
 |n+1=>by
  have:=Rp (P:=P) (n:=n);rw[gz];split<;>omega
theorem Rq{P:Nat->Bool}:∀ {n:Nat},0<=gz P n->P (gz P n).toNat=true
 |0,h=>by simp[gz]at h
 |n+1,h=>by
  rw[gz]at h ⊢;split
  ·rename_i hp;simpa using hp
  ·rename_i hp;rw[if_neg hp]at h;exact Rq h
theorem Rr{P Q:Nat->Bool}:∀ {n:Nat},(∀ i,i<n->P i=Q i)->gz P n=gz Q n
 |0,_=>rfl
 |n+1,h=>by rw[gz,gz,h n oM,Rr fun i hi=>h i oM]
theorem Rs{P:Nat->Bool}{n:Nat}:∀ {d:Nat},(∀ i,n<=i->P i=false)->gz P (n+d)=gz P n
 |0,_=>rfl
 |d+1,h=>by
  rw[show n+(d+1)=n+d+1 by omega,gz,h (n+d) oM,if_neg dC,Rs h]
def tX(l:List Signed)(i:Nat):Bool:=match l[i]? with
 |some s=>s.set.type==8
 |none=>false
def sh(l:List Signed)(n:Text)(i:Nat):Bool:=match l[i]? with
 |some s=>s.set.type==8&&decide (bH s.set.name n<=0)
 |none=>false
def cM(l:List Signed)(n:Text):Int:=gz (tX l) (iS (jB n) l)
theorem abP{l:List Signed}(hs:gm l){n:Text}:gz (sh l n) l.length=cM l n:=by
 have hle:=zU (P:=jB n) (l:=l);have e:l.length=iS (jB n) l+(l.length-iS (jB n) l):=by omega
 rw[e,Rs (fun i hi=>?_),cM]
 ·refine Rr fun i hi=>?_;unfold sh tX;cases h:l[i]? with
  |none=>rfl
  |some s =>
   have:=(le_iff hs (n:=n) h).2 hi;simp[this]
 ·unfold sh;cases h:l[i]? with
  |none=>rfl
  |some s =>
   have:¬ bH s.set.name n<=0:=fun e=>by have:=(le_iff hs (n:=n) h).1 e;omega
   simp[this]
theorem vI{l:List Signed}{n:Text} : -1<=cM l n/\cM l n<l.length:=by
 have h1:=Rp (P:=tX l) (n:=iS (jB n) l);have h2:=zU (P:=jB n) (l:=l);unfold cM;omega
theorem abQ{l:List Signed}{n:Text}(h:0<=cM l n):∃ s,l[(cM l n).toNat]?=some s/\s.set.type=8:=by
 have h2:tX l (cM l n).toNat=true:=Rq h;unfold tX at h2;cases e:l[(cM l n).toNat]? with
 |none=>rw[e]at h2;cases h2
 |some s=>rw[e]at h2;exact⟨s,rfl,zD h2⟩
def gS(L:List Text):Text:=if L=[]then[46]else Nm.glue L
theorem xN(s:Text):gS (Nm.labels s)=s:=by
 unfold gS Nm.labels;by_cases h:s=[46]
 ·rw[if_pos h,if_pos rfl,h]
 ·rw[if_neg h,if_neg (Nm.pK s),Nm.wW]
def lX(l:List Signed):List Text->List Text
 |[]=>[]
 |x::r=>if iK l (gS (x::r))then x::r else lX l r
def si(l:List Signed)(s:Text):Text:=gS (lX l (Nm.labels s))
def lj(M:List Text):Option Text:=if Nm.parts M&&decide ((gS M).length<=60)then some (gS M)else none
def sj(l:List Signed)(s:Text):Option Text:=lj ([42]::lX l (Nm.labels s))
def jh(z:aK)(n:Text):Option Text:=(cm z.af z.J).find? fun c=>Nm.under n c
def gG(l:List Signed)(c:Text):Int:=if aC l ⟨c,6⟩<0 then aC l ⟨c,8⟩else aC l ⟨c,6⟩
def xO(l:List Signed)(c:Text):List Datum:=match l[(aC l ⟨c,2⟩).toNat]? with
 |some s=>s.set.data
 |none=>[]
def qS(l:List Signed)(c:Text):List Int:=((xO l c).filter fun d=>Nm.under d.text c).map fun d=>aC l ⟨d.text,1⟩
def kD(l:List Signed)(c:Text):List Int:=cd (aC l ⟨c,2⟩::gG l c::qS l c)
def kE(z:aK)(q:bp):dJ :=
 if 0<=aC z.J q then⟨1,bR z.J [aC z.J q],[]⟩
 else if 0<=aC z.J ⟨q.name,3⟩/\q.type≠8 then⟨3,bR z.J [aC z.J ⟨q.name,3⟩],[]⟩
 else if iK z.J q.name then⟨5,bR z.J (cd [aC z.J ⟨z.af,4⟩,cM z.J q.name]),[]⟩
 else match sj z.J q.name with
  |none=>⟨6,bR z.J (cd [aC z.J ⟨z.af,4⟩,cM z.J q.name]),[]⟩
  |some w =>
   if 0<=aC z.J ⟨w,q.type⟩then⟨2,bR z.J (cd [aC z.J ⟨w,q.type⟩,cM z.J q.name]),[]⟩
   else if 0<=aC z.J ⟨w,3⟩/\q.type≠8 then⟨3,bR z.J (cd [aC z.J ⟨w,3⟩,cM z.J q.name]),[]⟩
   else if iK z.J w then⟨5,bR z.J (cd [aC z.J ⟨z.af,4⟩,cM z.J q.name,cM z.J w]),[]⟩
   else⟨6,bR z.J (cd [aC z.J ⟨z.af,4⟩,cM z.J q.name,cM z.J w]),[]⟩
def mB(z:aK)(q:bp):dJ :=
 if Nm.under q.name z.af then
  match jh z q.name with
  |some c=>if q.name=c/\(q.type=6\/q.type=8)then kE z q else⟨4,bR z.J (kD z.J c),c⟩
  |none=>kE z q
 else⟨7,[],[]⟩
def jC(z:aK)(q:bp):Int:=if dN z&&eD q then 0 else 1
def iT(z:aK)(q:bp):dJ:=if jC z q=0 then mB z q else⟨0,[],[]⟩
structure gq(z:aK):Prop where
 sorted:gm z.J
 names:∀ s∈z.J,Nm.valid s.set.name=true
 J:∀ s∈z.J,eX s.set=true
 af:Nm.valid z.af=true
 under:∀ s∈z.J,Nm.under s.set.name z.af=true
 len:z.J.length<=20000
 start:0<=aC z.J ⟨z.af,4⟩
 di:∀ c∈cm z.af z.J,∀ d∈cm z.af z.J,∀ n,Nm.under n c=true->Nm.under n d=true->c=d
theorem Ki{z:aK}(h:dN z=true):gq z:=by
 have h0:=h;simp only[dN,ai2]at h;obtain⟨h1,-,-,h4,-⟩:=h;obtain⟨hs,hv,hn⟩:=Pv h1;obtain⟨hl,aV,tS⟩:=zx h1;have aL:∀ s∈z.J,s.set.name≠[]:=fun s h=>(hn s h).1;have hA:=Pr (af:=z.af) (EI hs);obtain⟨g1,g2,g3⟩:=Pk _ hA;have Rt:∀ c∈cm z.af z.J,c≠[]:=fun c hc=>by
  obtain⟨s,h,rfl,-⟩:=qF hc;exact aL s h
 have aM:∀ c∈cm z.af z.J,c∈([]:List Text)++z.J.map (·.set.name):=fun c hc=>by
  obtain⟨s,h,rfl,-⟩:=qF hc
  simpa using⟨s,h,rfl⟩
 have bJ:=Rk g1 g2 zr g3 Rt (z.J.map (·.set.name)) [] [] 0 (zD (EI hs)) aM (ai4 _) rfl (fun m d hm=>by omega);have fX:∀ c∈cm z.af z.J,c∈gg (cm z.af z.J):=fun c hc=>by
  obtain⟨s,Fg,rfl,hcut⟩:=qF hc;obtain⟨i,hi⟩:=aiN Fg;have ai:=aW hi;obtain⟨b,hb⟩:=aI (l:=kr z) (k:=i) (by rw[vq];exact ai);have hF:=bJ i s.set.name b (by simp[hi]) hb;obtain⟨d,hd,hu⟩:=g3 _ hc;rcases hF with⟨k1,k2⟩|⟨-,k2⟩
  ·have hz:=List.all_eq_true.1 h4 (s,b) (aiQ (zt hi hb));have ki:b≠[]:=Rt b (zr b k1);have ht:s.set.type=2:=by
    simp only[jT,ai2,beq_iff_eq]at hcut;exact hcut.1
   simp only[rU,ai2]at hz;have h5:=hz.1.1;simp[ki,ht]at h5;rw[h5];exact k1
  ·rw[k2 d hd]at hu;cases hu
 obtain⟨k,s,d,e1,-⟩:=abK h0;refine⟨hs,hv,fun s h=>?_,tS,fun s h=>?_,hl,by rw[e1];omega,fun c hc d hd n dG tN=>Pl g1 g2 (fX c hc) (fX d hd) dG tN⟩
 ·have:=aV s h;simp only[gj,ai2]at this;exact this.1
 ·have:=aV s h;simp only[gj,ai2]at this;exact this.2
theorem gq.Ru{z:aK}(V:gq z):iK z.J z.af=true:=by
 obtain⟨s,h1,h2⟩:=pW V.start;exact alN.2 ⟨s,aiQ h1,V.under s (aiQ h1)⟩
end Go.Proofs.YtlhehdgciafakaaGreatDoor.P
end
section
namespace Go.Proofs.YtlhehdgciafakaaGreatDoor.P
open Go Go.az
set_option maxRecDepth 100000
set_option maxHeartbeats 4000000
theorem abS(a b:bp):fy a.enc b.enc=decide (a=b):=by
 obtain⟨an,at_⟩:=a;obtain⟨bn,bt⟩:=b;show fy (DV.agg [.str an,.int .i64 at_]) (DV.agg [.str bn,.int .i64 bt])=_;rw[akN];simp[fy,wz,sV];exact fun _ _=>by decide
def vm(l:List Signed):List (DV × DV):=l.zipIdx.foldl (fun es p=>b8 (bp.enc ⟨p.1.set.name,p.1.set.type⟩) (.int .i64 p.2) es) []
theorem abT(l:List Signed)(x:Signed):vm (l++[x])=b8 (bp.enc ⟨x.set.name,x.set.type⟩) (.int .i64 l.length) (vm l):=by
 rw[vm,List.zipIdx_append,alH];simp[vm]
theorem Rv{l:List Signed}{k:Nat}{x:Signed}(h:l[k]?=some x):vm (l.take (k+1))=b8 (bp.enc ⟨x.set.name,x.set.type⟩) (.int .i64 k) (vm (l.take k)):=by
 have hk:k<l.length:=(akz.1 h).1;rw[cj h,abT,ah1,Nat.min_eq_left oM]
theorem Rw(l:List Signed):nX bp.enc (vm l):=by
 have main:∀ (l:List (Signed × Nat)) (es:List (DV × DV)),nX bp.enc es->nX bp.enc (l.foldl (fun es p=>b8 (bp.enc ⟨p.1.set.name,p.1.set.type⟩) (.int .i64 p.2) es) es):=by
  intro l
  induction l with
  |nil=>intro es h;exact h
  |cons p l ih=>intro es h;exact ih _ (Jz h)
 exact main _ _ fun p hp=>by simp at hp
theorem abU{q:bp}{x:Signed}(h:q≠⟨x.set.name,x.set.type⟩):cF q x=false:=by
 cases e:cF q x
 ·rfl
 ·exact absurd (xM e) h
theorem abV{l:List Signed}{q:bp}{x:Signed}(h:q≠⟨x.set.name,x.set.type⟩):aC (l++[x]) q=aC l q:=by
 unfold aC;rw[List.findIdx?_append];cases e:l.findIdx? (cF q)with
 |some k=>simp
 |none=>simp[List.findIdx?_cons,abU h]
theorem Rx{q:bp}{l:List Signed}(hs:gm l):∀ (k:Nat),k<=l.length->findD q.enc (vm (l.take k))=if 0<=aC (l.take k) q then some (.int .i64 (aC (l.take k) q))else none
 |0,_=>by simp[vm,findD,aC]
 |k+1,hk=>by
  obtain⟨x,hx⟩:=aI (l:=l) (k:=k) oM;have ih:=Rx (q:=q) hs k oM;have hsk:gm (l.take (k+1)):=fun i j a b eC ha hb=>by
   rw[ahS]at ha hb;split at ha
   case isFalse=>cases ha
   split at hb
   case isFalse=>cases hb
   exact hs i j a b eC ha hb
  rw[Rv hx,JA abS (Rw _)];by_cases e:q=⟨x.set.name,x.set.type⟩
  ·subst e;have:=Ke hsk (k:=k) (x:=x) (by rw[ahS,if_pos oM];exact hx);rw[if_pos rfl,this,if_pos oM]
  ·rw[if_neg e,cj hx,abV e];exact ih
theorem abX{q:bp}{l:List Signed}(hs:gm l):findD q.enc (vm l)=if 0<=aC l q then some (.int .i64 (aC l q))else none:=by
 have:=Rx (q:=q) hs l.length (ahL _)
 rwa [List.take_length]at this
theorem Kj(q:bp):eo E.T (.struct [(0,9),(1,3)]) q.enc:=⟨_,rfl,rfl,⟨_,rfl,_,rfl⟩,rfl,⟨_,rfl,_,rfl⟩,trivial⟩
theorem Ry(l:List Signed):∀ p∈vm l,eo E.T (.struct [(0,9),(1,3)]) p.1:=fun p hp=>by
 obtain⟨a,ha⟩:=Rw l p hp;rw[ha];exact Kj a
def bK(z:aK)(q:bp)(cut:Text)(b:Bool)(w:Text):ae := .cells [.d (.str z.af),.d (.sl (z.J.map Signed.enc)),.map 1,.d (.str q.name),.d (.int .i64 q.type),.d (.str cut),.d (.bool b),.d (.str w)]
def bw(z:aK):ae := .map (vm z.J)
theorem Rz(a b:Text)(ha:Nm.valid a=true)(hb:Nm.valid b=true):aq E 296 [.str a,.str b] (· = .int .i64 (bH a b)):=by
 refine eP Tryz.func296 ?_;refine ao (I' a b ha hb) ?_;refine gO Tryz.func296 ?_
 with_reducible rfl
theorem xP(a b:Text)(ha:Nm.valid a=true)(hb:Nm.valid b=true):aq E 228 [.str a,.str b] (· = .bool (Nm.under a b)):=by
 have c1:=xi a b (by have:=dh ha;exact pC oM) (by have:=dh hb;exact pC oM);refine eP Tryz.func228 ?_;refine ao (c1) ?_;refine gO Tryz.func228 ?_;rw[ED ha hb]
theorem abY(z:aK)(q:bp)(hl:z.J.length<=1000000):au E 146 [] [.d z.enc,.d q.enc] (fun a b=>a=.ptr 3 0/\b=[.cells [.d (.str z.af),.d (.sl (z.J.map Signed.enc))],.cells [.d (.str q.name),.d (.int .i64 q.type)],.map (vm z.J),.cells [.d (.str z.af),.d (.sl (z.J.map Signed.enc)),.map 2,.d (.str q.name),.d (.int .i64 q.type),.d (.str []),.d (.bool false),.d (.str [])]]):=by
 obtain⟨af,l⟩:=z;obtain⟨qn,qt⟩:=q;show au E _ [] [.d (DV.agg [.str af,.sl (l.map Signed.enc)]),.d (DV.agg [.str qn,.int .i64 qt])] _;refine aE ?_;refine dU ?_;refine bU.at rfl ?_;(conv=>whnf);refine ml.op (abR (kt:=36) (et:=3) (by kernel_rfl) (bg rfl)) (gD ?_);refine And.intro (by kernel_rfl) ?_;(conv=>whnf);refine gC ?_;refine I.lP l.length ([6,7]++rg 22 18) (fun k=>[(22,.d (.int .i64 k))]) (fun k=>[(2,.map (vm (l.take k)))]) (fun k=>k<=l.length) (ai4 _) ?_ ?_
 ·refine sY ?_
  refine⟨rfl, ?_⟩;exact sZ
 intro k hk IH;refine zA ?_ ?_<;>intro h5
 ·have ai:k<l.length:=zD h5
  obtain⟨x,hx⟩:=aI ai;have eb:=Rv hx;simp only at hl;refine gC ?_;refine eM hx (gC ?_);refine dU ?_;refine bj ⟨Kj ⟨x.set.name,x.set.type⟩,Ry _⟩ (gD ?_);refine And.intro (by kernel_rfl) ?_;(conv=>whnf);refine gC ?_;refine I.back (IH (k+1) oM oM) ?_;rw[eb];exact sZ
 ·have aA:l.length<=k:=zD h5
  rw[ajq aA];refine gC ?_;exact⟨rfl,rfl⟩
theorem tY(z:aK)(q:bp)(cut:Text)(b:Bool)(w:Text)(n:Text)(t:Int)(hs:gm z.J):au E 227 [bK z q cut b w,bw z] [.ptr 0 0,.d (.str n),.d (.int .i64 t)] (fun x h=>x=.d (.int .i64 (aC z.J ⟨n,t⟩))/\h=[bK z q cut b w,bw z]):=by
 have hf:=abX (q:=⟨n,t⟩) hs;have aA : -1<=aC z.J ⟨n,t⟩:=hU.1;unfold bK bw;refine aE ?_;have jM:=Ry z.J;have RA:=Kj ⟨n,t⟩;by_cases h0:0<=aC z.J ⟨n,t⟩
 ·rw[if_pos h0]at hf;refine qm (.int .i64 0) (.int .i64 0) (v := .int .i64 (aC z.J ⟨n,t⟩)) (f:=true) RA jM (fun w=>by kernel_rfl) (fun _ _ => .int _ _) (by rw[hf];rfl) (by rw[hf];rfl) ?_;refine gC ?_;refine vT ?_;exact⟨rfl,rfl⟩
 ·rw[if_neg h0]at hf;refine qm (.int .i64 0) (.int .i64 0) (v := .int .i64 0) (f:=false) RA jM (fun w=>by kernel_rfl) (fun _ _ => .int _ _) (by rw[hf];rfl) (by rw[hf];rfl) ?_;refine gC ?_;refine vF ?_;exact⟨by rw[show aC z.J ⟨n,t⟩ = -1 by omega],rfl⟩
theorem Kk(z:aK)(q:bp)(cut:Text)(b:Bool)(w:Text)(hs:gm z.J):au E 231 [bK z q cut b w,bw z] [.ptr 0 0] (fun x h=>x=.d (.int .i64 (aC z.J ⟨z.af,4⟩))/\h=[bK z q cut b w,bw z]):=by
 have c1:=fun n t=>tY z q cut b w n t hs;unfold bK bw at c1;unfold bK bw;refine aE ?_
 with_reducible refine aX (c1 z.af 4) ?_
 refine gC ?_;exact⟨rfl,rfl⟩
theorem abZ(l:List Int)(v:Int)(hl:l.length<=1000000):aq E 330 [.sl (l.map (.int .i64)),.int .i64 v] (fun r=>∃ n:Int,r=.int .i64 n/\(0<=n↔v∈l)):=by
 refine eP F330.h ?_;refine I.lP l.length ([4,5]++rg 8 11) (fun k=>[(8,.d (.int .i64 k))]) (fun _=>[]) (fun k=>k<=l.length/\∀ j x,j<k->l[j]?=some x->v≠x) ⟨ai4 _,fun j x h=>by omega⟩ ?_ ?_
 ·exact sZ
 rintro k ⟨hk,aM⟩ IH;refine zA ?_ ?_<;>intro h5
 ·have ai:k<l.length:=zD h5
  obtain⟨x,hx⟩:=aI ai;refine gC ?_;refine aR (e := .int .i64 x) (bC hx) rfl (gC ?_);by_cases e:v=x
  ·refine aN (zD e) (gC ?_);exact⟨k,rfl,fun _=>e ▸ aiQ hx,fun _=>by omega⟩
  ·refine aP (zD e) (gC ?_);refine I.back (IH (k+1) ⟨by omega,fun j y hj hy=>?_⟩ oM) ?_
   ·rcases am3 (am4 hj)with h|h
    ·exact aM j y h hy
    ·subst h;rw[hx]at hy;cases hy;exact e
   exact sZ
 ·have aA:k=l.length:=by simp at h5;omega
  subst aA;refine gC ?_;refine⟨-1,rfl,fun h=>absurd h dC,fun h=>?_⟩;obtain⟨j,hj⟩:=aiN h;exact absurd rfl (aM j v (akz.1 hj).1 hj)
theorem ab0(l:List Int)(v:Int)(hl:l.length<=1000000):aq E 293 [.sl (l.map (.int .i64)),.int .i64 v] (· = .bool (decide (v∈l))):=by
 refine eP Tryz.func293 ?_
 with_reducible refine ta (abZ l v hl) ?_
 rintro r ⟨n,rfl,hn⟩;refine gO Tryz.func293 ?_;rw[show decide (n>=0)=decide (v∈l) by rw[akN,decide_eq_true_eq,decide_eq_true_eq];exact hn]
theorem ab1(z:aK)(q:bp)(cut:Text)(b:Bool)(w n:Text)(hv:∀ s∈z.J,Nm.valid s.set.name=true)(hn:Nm.valid n=true){i:Nat}{s:Signed}(hi:z.J[i]?=some s):au E 295 [.cells [.ptr 2 0],.cells [.d (.str n)],.cells [.d (.str z.af),.d (.sl (z.J.map Signed.enc)),.map 3,.d (.str q.name),.d (.int .i64 q.type),.d (.str cut),.d (.bool b),.d (.str w)],bw z] [.d (.int .i64 i),.ptr 0 0,.ptr 1 0] (fun x h=>x=.d (.bool (!kC n s))/\h=[.cells [.ptr 2 0],.cells [.d (.str n)],.cells [.d (.str z.af),.d (.sl (z.J.map Signed.enc)),.map 3,.d (.str q.name),.d (.int .i64 q.type),.d (.str cut),.d (.bool b),.d (.str w)],bw z]):=by
 have c1:=Rz s.set.name n (hv s (aiQ hi)) hn;unfold bw;refine aE ?_;refine dU ?_;refine eM hi (gD ?_);refine ax (c1) (gD ?_);refine gC ?_;refine⟨?_,rfl⟩;refine congrArg (fun b=>AV.d (DV.bool b)) ?_;unfold kC;rw[akN];simp
theorem ab2(z:aK)(q:bp)(cut:Text)(b:Bool)(w n:Text)(hs:gm z.J)(hl:z.J.length<=1000000)(hv:∀ s∈z.J,Nm.valid s.set.name=true)(hn:Nm.valid n=true):au E 294 [.cells [.ptr 2 0],.cells [.d (.str n)],.cells [.d (.str z.af),.d (.sl (z.J.map Signed.enc)),.map 3,.d (.str q.name),.d (.int .i64 q.type),.d (.str cut),.d (.bool b),.d (.str w)],bw z] [.d (.int .i64 z.J.length),.fn (.func 295) [] [.ptr 0 0,.ptr 1 0]] (fun x h=>x=.d (.int .i64 (iS (kC n) z.J))/\h=[.cells [.ptr 2 0],.cells [.d (.str n)],.cells [.d (.str z.af),.d (.sl (z.J.map Signed.enc)),.map 3,.d (.str q.name),.d (.int .i64 q.type),.d (.str cut),.d (.bool b),.d (.str w)],bw z]):=by
 have c1:=fun i s hi=>ab1 z q cut b w n hv hn (i:=i) (s:=s) hi;have hc:∀ i s,z.J[i]?=some s->(kC n s=true↔i<iS (kC n) z.J):=fun i s hi=>by rw[<- lt_iff hs hi];simp[kC]
 have dR:=zU (P:=kC n) (l:=z.J);generalize iS (kC n) z.J=m at *;unfold bw at *;refine aE ?_;refine I.loop (κ:=Nat × Nat) [5,6,7,9,10,11,12,13,14,15,16,17,18,19,20,21,22,23,24] (fun k=>[(5,.d (.int .i64 k.1)),(6,.d (.int .i64 k.2))]) (fun _=>[]) (fun k=>k.1<=m/\m<=k.2/\k.2<=z.J.length) (fun k=>k.2-k.1) (0,z.J.length) ⟨ai4 _,dR,ahL _⟩ ?_ ?_
 ·exact sZ
 rintro⟨i,j⟩ ⟨k1,k2,k3⟩ IH;simp only at k1 k2 k3;refine zA ?_ ?_<;>intro h5
 ·have ai:i<j:=zD h5
  obtain⟨x,hx⟩:=aI (l:=z.J) (k:=(i+j) / 2) oM;have BY:=Rj (i:=i) (j:=j) oM;have Cv:=hc _ x hx;refine gC ?_;refine bj dC (gC ?_);rw[show IntKind.i64.wrap (mT .shr .u64 (IntKind.u64.wrap (IntKind.i64.wrap (((i,j).fst:Int)+((i,j).snd:Int)))) (Int.toNat 1))=(((i+j) / 2:Nat):Int)from BY]
  with_reducible refine aX (c1 _ x hx) ?_
  refine gC ?_;cases h6:kC n x
  ·have:¬ (i+j) / 2<m:=fun e=>by rw[Cv.2 e]at h6;cases h6
   refine aP dC (gC ?_);refine I.back (IH (i,(i+j) / 2) ⟨k1,by simp only;omega,by simp only;omega⟩ (by simp only;omega)) ?_;exact sZ
  ·have:=Cv.1 h6;refine aN dC (gC ?_);refine I.back (IH ((i+j) / 2+1,j) ⟨by simp only;omega,k2,k3⟩ (by simp only;omega)) ?_;exact sZ
 ·have aA:i=m:=by simp at h5;omega
  subst aA;refine gC ?_;exact⟨rfl,rfl⟩
theorem ab3(z:aK)(q:bp)(cut:Text)(b:Bool)(w n:Text)(hs:gm z.J)(hl:z.J.length<=1000000)(hv:∀ s∈z.J,Nm.valid s.set.name=true)(hn:Nm.valid n=true):au E 230 [bK z q cut b w,bw z] [.ptr 0 0,.d (.str n)] (fun x h=>x=.d (.bool (iK z.J n))/\h=[bK z q cut b w,bw z,.cells [.ptr 0 0],.cells [.d (.str n)]]):=by
 have c1:=ab2 z q cut b w n hs hl hv hn;have hex:=abO hs (n:=n);have dR:=zU (P:=kC n) (l:=z.J);rw[hex];generalize iS (kC n) z.J=m at *;clear hex;unfold bw at c1;unfold bK bw;refine aE ?_;rw[show((z.J.map Signed.enc).length:Int)=(z.J.length:Int) by simp]
 with_reducible refine aX (c1) ?_
 refine gC ?_;rcases Nat.lt_or_ge m z.J.length with h1|h1
 ·obtain⟨x,hx⟩:=aI h1;have c2:=xP x.set.name n (hv x (aiQ hx)) hn;rw[hx];refine dU ?_;refine aN (decide_eq_true (by simp;omega)) ?_;refine gD ?_;refine eM hx (gD ?_);refine ax (c2) (gD ?_);refine gC ?_;exact⟨rfl,rfl⟩
 ·rw[List.getElem?_eq_none h1];refine dU ?_;refine aP (decide_eq_false (by simp;omega)) ?_;refine gD ?_;refine gC ?_;exact⟨rfl,rfl⟩
def pX(k:Int)(l:List Signed)(c:Text):DV := .agg [.int .i64 k,.sl (l.map Signed.enc),.str c]
theorem ab4{z:aK}{ps:List Int}{k:Nat}{p:Int}(hp:ps[k]?=some p){s:Signed}(h0:0<=p)(hs:z.J[p.toNat]?=some s):bR z.J (cd (ps.take (k+1)))=if p∈ps.take k then bR z.J (cd (ps.take k))else bR z.J (cd (ps.take k))++[s]:=by
 rw[Rl hp,Ro h0 hs];have:p∈cd (ps.take k)↔p∈ps.take k:=by rw[Rm];exact⟨fun h=>h.2,fun h=>⟨h0,h⟩⟩
 by_cases e:p∈ps.take k
 ·rw[if_pos e,if_pos (this.2 e)]
 ·rw[if_neg e,if_neg (fun h=>e (this.1 h))]
theorem ab5{ps:List Int}{k:Nat}{p:Int}(hp:ps[k]?=some p)(h0:p<0):cd (ps.take (k+1))=cd (ps.take k):=by
 rw[Rl hp,dx,if_pos (.inl h0)]
theorem ab6(z:aK)(q:bp)(cut:Text)(b:Bool)(w:Text)(kind:Int)(ps:List Int)(hf:z.gY)(gu:∀ p∈ps,p<z.J.length)(hl:ps.length<=1000):au E 229 [bK z q cut b w,bw z] [.ptr 0 0,.d (.int .i64 kind),.d (.sl (ps.map (.int .i64)))] (fun x h=>x=.d (pX kind (bR z.J (cd ps)) [])/\h=[bK z q cut b w,bw z,.cells [.d (.int .i64 kind),.d (.sl ((bR z.J (cd ps)).map Signed.enc)),.d (.str [])],.cells [.d (.int .i64 kind),.d (.sl ((bR z.J (cd ps)).map Signed.enc)),.d (.str [])],.gone]):=by
 obtain⟨rB,iC⟩:=hf;unfold bK bw pX;refine aE ?_;refine I.qA 3 1 (77,5) dC rfl rfl ?_;(conv=>whnf);refine I.lP ps.length ([8,9,10]++rg 15 38) (fun k=>[(15,.d (.int .i64 k))]) (fun k=>[(3,.cells [.d (.int .i64 kind),.own 4 1,.d (.str [])]),(4,.arr 1 (77,5) ((bR z.J (cd (ps.take k))).map Signed.enc))]) (fun k=>k<=ps.length) (ai4 _) ?_ ?_
 ·refine sY ?_
  refine⟨rfl, ?_⟩;exact sZ
 intro k hk IH;refine zA ?_ ?_<;>intro h5
 ·have ai:k<ps.length:=zD h5
  obtain⟨p,hp⟩:=aI ai;refine gC ?_;refine aR (e := .int .i64 p) (bC hp) rfl (gC ?_);apply ah<;>intro h6
  ·have h0:=of_decide_eq_true h6;have eb:=ab5 hp h0;refine gC ?_;refine vT ?_;refine I.back (IH (k+1) oM oM) ?_;rw[eb];exact sZ
  ·have h0:=of_decide_eq_false h6;obtain⟨x,hx⟩:=aI (l:=z.J) (k:=p.toNat) (by have:=gu p (aiQ hp);omega);have eb:=ab4 (z:=z) hp oM hx;have oD:List.drop ((none:Option Int).getD 0).toNat (List.take ((some (k:Int)).getD ((ps.map (DV.int .i64)).length:Int)).toNat (ps.map (DV.int .i64)))=(ps.take k).map (DV.int .i64):=by simp[List.map_take]
   have c1:=ab0 (ps.take k) p (by simp;omega);have A1:vf (z.J.map Signed.enc) p x.enc:=by
    have:=bC (f:=Signed.enc) hx
    rwa [Int.toNat_of_nonneg oM]at this
   have ik:=Fh (l:=z.J) (ps:=cd (ps.take k));have fF:=Rn (ps:=ps.take k);obtain⟨q1,q2⟩:=iC x (aiQ hx);refine gC ?_;refine bj ⟨by simp,by simp,by simp;omega,fun e he=>by obtain⟨y,_,rfl⟩:=ahY.1 he;rfl⟩ ?_;(conv=>whnf);rw[oD];refine gC ?_;refine ao (c1) (gC ?_);by_cases fX:p∈ps.take k
   ·rw[if_pos fX]at eb;refine aN (decide_eq_true fX) (gC ?_);refine I.back (IH (k+1) oM oM) ?_;rw[eb];exact sZ
   ·rw[if_neg fX]at eb;refine aP (decide_eq_false fX) (gC ?_);refine aR (e:=x.enc) A1 rfl (gC ?_);refine ao (EO (x.set.data.map Datum.enc) (zD q1) (fun e h=>by obtain⟨d,_,rfl⟩:=ahY.1 h;simp[DV.cells])) ?_;refine gC ?_;refine ao (PX (x.sigs.map dE.enc) (zD q2) (fun e h=>by obtain⟨d,_,rfl⟩:=ahY.1 h;simp[DV.cells])) ?_;refine gC ?_
    refine bj ⟨by have : (ps.take k).length <= 1000 := by{ rw[ah1];omega }
                  simp only[aiO, ahN, aiF];omega, by simp[DV.cells]⟩ ?_
    refine gC ?_;refine I.back (IH (k+1) oM oM) ?_;rw[eb];refine sY ?_
    refine⟨by simp, ?_⟩;exact sZ
 ·have aA:ps.length<=k:=zD h5
  rw[ajq aA];(conv=>whnf);refine I.freeze 4 ?_;(conv=>whnf);refine gC ?_;exact⟨rfl,rfl⟩
theorem ab7(z:aK)(q:bp)(cut:Text)(b:Bool)(w n:Text)(hv:∀ s∈z.J,Nm.valid s.set.name=true)(hn:Nm.valid n=true){i:Nat}{s:Signed}(hi:z.J[i]?=some s):au E 332 [.cells [.ptr 2 0],.cells [.d (.str n)],.cells [.d (.str z.af),.d (.sl (z.J.map Signed.enc)),.map 3,.d (.str q.name),.d (.int .i64 q.type),.d (.str cut),.d (.bool b),.d (.str w)],bw z] [.d (.int .i64 i),.ptr 0 0,.ptr 1 0] (fun x h=>x=.d (.bool (!jB n s))/\h=[.cells [.ptr 2 0],.cells [.d (.str n)],.cells [.d (.str z.af),.d (.sl (z.J.map Signed.enc)),.map 3,.d (.str q.name),.d (.int .i64 q.type),.d (.str cut),.d (.bool b),.d (.str w)],bw z]):=by
 have c1:=Rz s.set.name n (hv s (aiQ hi)) hn;unfold bw;refine aE ?_;refine dU ?_;refine eM hi (gD ?_);refine ax (c1) (gD ?_);refine gC ?_;refine⟨?_,rfl⟩;refine congrArg (fun b=>AV.d (DV.bool b)) ?_;unfold jB;rw[akN];simp
theorem ab8(z:aK)(q:bp)(cut:Text)(b:Bool)(w n:Text)(hs:gm z.J)(hl:z.J.length<=1000000)(hv:∀ s∈z.J,Nm.valid s.set.name=true)(hn:Nm.valid n=true):au E 294 [.cells [.ptr 2 0],.cells [.d (.str n)],.cells [.d (.str z.af),.d (.sl (z.J.map Signed.enc)),.map 3,.d (.str q.name),.d (.int .i64 q.type),.d (.str cut),.d (.bool b),.d (.str w)],bw z] [.d (.int .i64 z.J.length),.fn (.func 332) [] [.ptr 0 0,.ptr 1 0]] (fun x h=>x=.d (.int .i64 (iS (jB n) z.J))/\h=[.cells [.ptr 2 0],.cells [.d (.str n)],.cells [.d (.str z.af),.d (.sl (z.J.map Signed.enc)),.map 3,.d (.str q.name),.d (.int .i64 q.type),.d (.str cut),.d (.bool b),.d (.str w)],bw z]):=by
 have c1:=fun i s hi=>ab7 z q cut b w n hv hn (i:=i) (s:=s) hi;have hc:∀ i s,z.J[i]?=some s->(jB n s=true↔i<iS (jB n) z.J):=fun i s hi=>by rw[<- le_iff hs hi];simp[jB]
 have dR:=zU (P:=jB n) (l:=z.J);generalize iS (jB n) z.J=m at *;unfold bw at *;refine aE ?_;refine I.loop (κ:=Nat × Nat) [5,6,7,9,10,11,12,13,14,15,16,17,18,19,20,21,22,23,24] (fun k=>[(5,.d (.int .i64 k.1)),(6,.d (.int .i64 k.2))]) (fun _=>[]) (fun k=>k.1<=m/\m<=k.2/\k.2<=z.J.length) (fun k=>k.2-k.1) (0,z.J.length) ⟨ai4 _,dR,ahL _⟩ ?_ ?_
 ·exact sZ
 rintro⟨i,j⟩ ⟨k1,k2,k3⟩ IH;simp only at k1 k2 k3;refine zA ?_ ?_<;>intro h5
 ·have ai:i<j:=zD h5
  obtain⟨x,hx⟩:=aI (l:=z.J) (k:=(i+j) / 2) oM;have BY:=Rj (i:=i) (j:=j) oM;have Cv:=hc _ x hx;refine gC ?_;refine bj dC (gC ?_);rw[show IntKind.i64.wrap (mT .shr .u64 (IntKind.u64.wrap (IntKind.i64.wrap (((i,j).fst:Int)+((i,j).snd:Int)))) (Int.toNat 1))=(((i+j) / 2:Nat):Int)from BY]
  with_reducible refine aX (c1 _ x hx) ?_
  refine gC ?_;cases h6:jB n x
  ·have:¬ (i+j) / 2<m:=fun e=>by rw[Cv.2 e]at h6;cases h6
   refine aP dC (gC ?_);refine I.back (IH (i,(i+j) / 2) ⟨k1,by simp only;omega,by simp only;omega⟩ (by simp only;omega)) ?_;exact sZ
  ·have:=Cv.1 h6;refine aN dC (gC ?_);refine I.back (IH ((i+j) / 2+1,j) ⟨by simp only;omega,k2,k3⟩ (by simp only;omega)) ?_;exact sZ
 ·have aA:i=m:=by simp at h5;omega
  subst aA;refine gC ?_;exact⟨rfl,rfl⟩
theorem ab9(z:aK)(q:bp)(cut:Text)(b:Bool)(w n:Text):au E 297 [bK z q cut b w,bw z] [.ptr 0 0,.d (.str n)] (fun x h=>x=.fn (.func 331) [] [.ptr 2 0,.ptr 3 0]/\h=[bK z q cut b w,bw z,.cells [.ptr 0 0],.cells [.d (.str n)]]):=by
 unfold bK bw;refine aE ?_;exact⟨rfl,rfl⟩
theorem ab'{P:Nat->Bool}{k:Nat}:gz P (k+1)=if P k then(k:Int)else gz P k:=rfl
theorem aca(z:aK)(q:bp)(cut:Text)(b:Bool)(w n:Text)(hs:gm z.J)(hl:z.J.length<=1000000)(hv:∀ s∈z.J,Nm.valid s.set.name=true)(hn:Nm.valid n=true):au E 232 [bK z q cut b w,bw z] [.ptr 0 0,.d (.str n)] (fun x h=>x=.d (.int .i64 (cM z.J n))/\h=[bK z q cut b w,bw z,.cells [.ptr 0 0],.cells [.d (.int .i64 (cM z.J n))],.cells [.ptr 0 0],.cells [.d (.str n)]]):=by
 have c1:=ab9 z q cut b w n;have c2:=ab8 z q cut b w n hs hl hv hn;have dR:=zU (P:=jB n) (l:=z.J);unfold cM;generalize iS (jB n) z.J=m at *;unfold bw at c2;unfold bK bw at c1;unfold bK bw;refine aE ?_
 with_reducible refine aX (c1) ?_
 refine gC ?_;refine I.rangeFunc (bg rfl) Tryz.func331 rfl dC rfl (fun ll d t=>?_);refine gC ?_;rw[show((z.J.map Signed.enc).length:Int)=(z.J.length:Int) by simp]
 with_reducible refine aX (c2) ?_
 refine gC ?_;refine I.loop (κ:=Nat) ([5]++rg 15 8) (fun k=>[(5,.d (.int .i64 ((k:Int)-1)))]) (fun k=>[]) (fun k=>k<=m/\gz (tX z.J) m=gz (tX z.J) k) (fun k=>k) m ⟨ahL _,rfl⟩ ?_ ?_
 ·exact sZ
 rintro k ⟨hk,xL⟩ IH;refine zA ?_ ?_<;>intro h5
 ·have h5:=of_decide_eq_true h5;obtain⟨k,rfl⟩:∃ j,k=j+1:=⟨k-1,by omega⟩;obtain⟨x,hx⟩:=aI (l:=z.J) (k:=k) oM;have A1:vf (z.J.map Signed.enc) (((k+1:Nat):Int)-1) x.enc:=by
   rw[show(((k+1:Nat):Int)-1)=(k:Int) by omega];exact bC hx
  have hw:IntKind.i64.wrap ((((k+1:Nat):Int)-1)-1)=(k:Int)-1:=by rw[wrap64 oM oM];omega
  have Ip:tX z.J k=(x.set.type==8):=by simp[tX,hx]
  rw[ab',Ip]at xL;refine gC ?_;refine I.yield 0 rfl rfl rfl (bg rfl) (nO (bg rfl)) rfl ?_;(conv=>whnf);refine gC ?_;refine I.begin 0 rfl rfl rfl ?_;(conv=>whnf);refine gC ?_;refine aR (e:=x.enc) A1 rfl (gC ?_);cases ht:(x.set.type==8)
  ·rw[ht]at xL;refine vF ?_;refine I.rO 0 rfl rfl rfl ?_;(conv=>whnf);refine gC ?_;refine aP dC (gC ?_);exact I.back (IH k ⟨by omega,xL⟩ oM) sZ
  ·rw[ht]at xL;refine vT ?_;refine I.Ec 0 rfl rfl rfl ?_;(conv=>whnf);refine gC ?_;refine aN dC (gC ?_);refine I.mZ ag F331.h rfl rfl rfl rfl (fun e=>nomatch e) ?_;(conv=>whnf);refine gC ?_;refine I.kq ag F232.h rfl rfl rfl rfl rfl ?_;(conv=>whnf);rw[xL,if_pos rfl,show(((k+1:Nat):Int)-1)=(k:Int) by omega];exact⟨rfl,rfl⟩
 ·have aA:k=0:=by have:=of_decide_eq_false h5;omega
  subst aA;refine gC ?_;refine I.mZ ag F331.h rfl rfl rfl rfl (fun e=>nomatch e) ?_;(conv=>whnf);refine gC ?_;refine I.kq ag F232.h rfl rfl rfl rfl rfl ?_;(conv=>whnf);rw[xL];exact⟨rfl,rfl⟩
theorem Cw(z:aK)(q:bp)(cut:Text)(b:Bool)(w n:Text)(V:gq z)(hn:Nm.valid n=true):au E 230 [bK z q cut b w,bw z] [.ptr 0 0,.d (.str n)] (fun x h=>x=.d (.bool (iK z.J n))/\h=[bK z q cut b w,bw z]) :=
 au.tq (ab3 z q cut b w n V.sorted (by have:=V.len;omega) V.names hn) rfl rfl
theorem xQ(z:aK)(q:bp)(cut:Text)(b:Bool)(w n:Text)(V:gq z)(hn:Nm.valid n=true):au E 232 [bK z q cut b w,bw z] [.ptr 0 0,.d (.str n)] (fun x h=>x=.d (.int .i64 (cM z.J n))/\h=[bK z q cut b w,bw z]) :=
 au.tq (aca z q cut b w n V.sorted (by have:=V.len;omega) V.names hn) rfl rfl
theorem om(z:aK)(q:bp)(cut:Text)(b:Bool)(w:Text)(kind:Int)(ps:List Int)(hf:z.gY)(gu:∀ p∈ps,p<z.J.length)(hl:ps.length<=1000):au E 229 [bK z q cut b w,bw z] [.ptr 0 0,.d (.int .i64 kind),.d (.sl (ps.map (.int .i64)))] (fun x h=>x=.d (pX kind (bR z.J (cd ps)) [])/\h=[bK z q cut b w,bw z]) :=
 au.tq (ab6 z q cut b w kind ps hf gu hl) rfl rfl
theorem acb(z:aK)(q:bp)(cut:Text)(b:Bool)(w:Text)(V:gq z)(hf:z.gY):au E 148 [bK z q cut b w,bw z] [.ptr 0 0] (fun x h=>x=.aG [.d (pX 1 (bR z.J (cd [aC z.J q])) []),.d (.bool (decide (aC z.J q>=0)))]/\h=[bK z q cut b w,bw z]):=by
 have c1:=tY z q cut b w q.name q.type V.sorted;have c2:=om z q cut b w 1 [aC z.J q] hf (fun p hp=>by simp at hp;subst hp;exact hU.2) sP;simp only[ahx,akr]at c2;unfold bK bw at c1 c2;apply au.tq
 case hk=>rfl
 case hc =>
  unfold bK bw;refine aE ?_;refine dU ?_;refine lH (c1) ?_;refine⟨rfl, ?_⟩;refine gD ?_;refine gC ?_
  with_reducible refine aX (c2) ?_
  refine gC ?_;exact⟨rfl,rfl⟩
 case hr=>rfl
theorem acd(z:aK)(q:bp)(cut:Text)(b:Bool)(w:Text)(V:gq z)(hf:z.gY):au E 149 [bK z q cut b w,bw z] [.ptr 0 0] (fun x h=>x=.aG [.d (pX 3 (bR z.J (cd [aC z.J ⟨q.name,3⟩])) []),.d (.bool (decide (aC z.J ⟨q.name,3⟩>=0)&&(q.type != 8)))]/\h=[bK z q cut b w,bw z]):=by
 have c1:=tY z q cut b w q.name 3 V.sorted;have ai:=(hU (l:=z.J) (q:=⟨q.name,3⟩)).2;generalize aC z.J ⟨q.name,3⟩=i at *;have c2:=om z q cut b w 3 [i] hf (fun p hp=>by simp at hp;subst hp;exact ai) sP;simp only[ahx,akr]at c2;unfold bK bw at c1 c2;apply au.tq
 case hk=>rfl
 case hc =>
  unfold bK bw;refine aE ?_
  with_reducible refine aX (c1) ?_
  refine gC ?_;refine dU ?_;refine wS (c2) (gD ?_);by_cases h:i>=0
  ·refine aN (decide_eq_true h) (gD ?_);refine And.intro (by kernel_rfl) ?_;(conv=>whnf);refine gC ?_;rw[decide_eq_true h,aja];exact⟨rfl,rfl⟩
  ·refine aP (decide_eq_false h) (gD ?_);refine And.intro (by kernel_rfl) ?_;(conv=>whnf);refine gC ?_;rw[decide_eq_false h,ald];exact⟨rfl,rfl⟩
 case hr=>rfl
theorem RB(z:aK)(q:bp)(cut:Text)(b:Bool)(w:Text)(V:gq z)(hf:z.gY)(hq:Nm.valid q.name=true):au E 151 [bK z q cut b w,bw z] [.ptr 0 0] (fun x h=>x=.aG [.d (pX 2 (bR z.J (cd [aC z.J ⟨w,q.type⟩,cM z.J q.name])) []),.d (.bool (decide (aC z.J ⟨w,q.type⟩>=0)))]/\h=[bK z q cut b w,bw z]):=by
 have c1:=tY z q cut b w w q.type V.sorted;have c3:=xQ z q cut b w q.name V hq;have ai:=(hU (l:=z.J) (q:=⟨w,q.type⟩)).2;have ni:=(vI (l:=z.J) (n:=q.name)).2;generalize aC z.J ⟨w,q.type⟩=i at *;generalize cM z.J q.name=j at *;have c2:=om z q cut b w 2 [i,j] hf (fun p hp=>by simp at hp;rcases hp with rfl|rfl<;>assumption) sP;simp only[ahx,akr]at c2;unfold bK bw at c1 c2 c3;apply au.tq
 case hk=>rfl
 case hc =>
  unfold bK bw;refine aE ?_;refine dU ?_;refine lH (c1) ?_;refine⟨rfl, ?_⟩;refine gD ?_;refine gC ?_
  with_reducible refine aX (c3) ?_
  refine gC ?_
  with_reducible refine aX (c2) ?_
  refine gC ?_;exact⟨rfl,rfl⟩
 case hr=>rfl
theorem RC(z:aK)(q:bp)(cut:Text)(b:Bool)(w:Text)(V:gq z)(hf:z.gY)(hq:Nm.valid q.name=true):au E 152 [bK z q cut b w,bw z] [.ptr 0 0] (fun x h=>x=.aG [.d (pX 3 (bR z.J (cd [aC z.J ⟨w,3⟩,cM z.J q.name])) []),.d (.bool (decide (aC z.J ⟨w,3⟩>=0)&&(q.type != 8)))]/\h=[bK z q cut b w,bw z]):=by
 have c1:=tY z q cut b w w 3 V.sorted;have c3:=xQ z q cut b w q.name V hq;have ai:=(hU (l:=z.J) (q:=⟨w,3⟩)).2;have ni:=(vI (l:=z.J) (n:=q.name)).2;generalize aC z.J ⟨w,3⟩=i at *;generalize cM z.J q.name=j at *;have c2:=om z q cut b w 3 [i,j] hf (fun p hp=>by simp at hp;rcases hp with rfl|rfl<;>assumption) sP;simp only[ahx,akr]at c2;unfold bK bw at c1 c2 c3;apply au.tq
 case hk=>rfl
 case hc =>
  unfold bK bw;refine aE ?_
  with_reducible refine aX (c1) ?_
  refine gC ?_;refine dU ?_;refine lH (c3) ?_;refine⟨rfl, ?_⟩;refine gD ?_;refine lH (c2) ?_;refine⟨rfl, ?_⟩;refine gD ?_;by_cases h:i>=0
  ·refine aN (decide_eq_true h) (gD ?_);refine gC ?_;rw[decide_eq_true h,aja];exact⟨rfl,rfl⟩
  ·refine aP (decide_eq_false h) (gD ?_);refine gC ?_;rw[decide_eq_false h,ald];exact⟨rfl,rfl⟩
 case hr=>rfl
theorem RE(z:aK)(q:bp)(cut:Text)(b:Bool)(w:Text)(V:gq z)(hf:z.gY)(hq:Nm.valid q.name=true)(hw:w=[]\/Nm.valid w=true):au E 154 [bK z q cut b w,bw z] [.ptr 0 0] (fun x h=>x=.d (pX 6 (bR z.J (cd (if w=[]then[aC z.J ⟨z.af,4⟩,cM z.J q.name,-1]else[aC z.J ⟨z.af,4⟩,cM z.J q.name,cM z.J w]))) [])/\h=[bK z q cut b w,bw z]):=by
 have c1:=Kk z q cut b w V.sorted;have c3:=xQ z q cut b w q.name V hq;have ai:=(hU (l:=z.J) (q:=⟨z.af,4⟩)).2;have ni:=(vI (l:=z.J) (n:=q.name)).2;have ace:=(vI (l:=z.J) (n:=w)).2;generalize aC z.J ⟨z.af,4⟩=i at *;by_cases he:w=[]
 ·rw[if_pos he];generalize cM z.J q.name=j at *;have c2:=om z q cut b w 6 [i,j,-1] hf (fun p hp=>by simp at hp;rcases hp with rfl|rfl|rfl<;>first|assumption|omega) sP;simp only[ahx,akr]at c2;unfold bK bw at c1 c2 c3;apply au.tq
  case hk=>rfl
  case hc =>
   unfold bK bw;refine aE ?_;refine aP (by simp[he]) (gC ?_);refine dU ?_;refine lH (c1) ?_;refine⟨rfl, ?_⟩;refine gD ?_;refine lH (c3) ?_;refine⟨rfl, ?_⟩;refine gD ?_;refine lH (c2) ?_;refine⟨rfl, ?_⟩;refine gD ?_;refine gC ?_;exact⟨rfl,rfl⟩
  case hr=>rfl
 ·have c4:=xQ z q cut b w w V (hw.resolve_left he);rw[if_neg he];generalize cM z.J q.name=j at *;generalize cM z.J w=m at *;have c2:=om z q cut b w 6 [i,j,m] hf (fun p hp=>by simp at hp;rcases hp with rfl|rfl|rfl<;>assumption) sP;simp only[ahx,akr]at c2;unfold bK bw at c1 c2 c3 c4;apply au.tq
  case hk=>rfl
  case hc =>
   unfold bK bw;refine aE ?_;refine aN (by simp[he]) (gC ?_)
   with_reducible refine aX (c4) ?_
   refine gC ?_;refine dU ?_;refine lH (c1) ?_;refine⟨rfl, ?_⟩;refine gD ?_;refine lH (c3) ?_;refine⟨rfl, ?_⟩;refine gD ?_;refine lH (c2) ?_;refine⟨rfl, ?_⟩;refine gD ?_;refine gC ?_;exact⟨rfl,rfl⟩
  case hr=>rfl
end Go.Proofs.YtlhehdgciafakaaGreatDoor.P
end
section
namespace Go.Proofs.YtlhehdgciafakaaGreatDoor.P
open Go Go.az Go.RowKit
set_option maxRecDepth 100000
set_option maxHeartbeats 4000000
theorem RG{aD:Nat->Prop}{w:World}{x y:DV}{vs:List Value}(h:kM aD w [x,y] vs):∃ u v,vs=[u,v]/\VD aD w x u/\VD aD w y v:=by
 obtain⟨hl,hv⟩:=h;obtain⟨u,v,rfl⟩:∃ u v,vs=[u,v]:=by
  match vs,hl with
  |[u,v],_=>exact⟨u,v,rfl⟩
 exact⟨u,v,rfl,hv 0 x u rfl rfl,hv 1 y v rfl rfl⟩
theorem ach{w w':World}(h:Below w.heap.size w w'):Ext w w':=⟨h.os,h.tape,h.output,h.size,h.block⟩
theorem aci(t:Text)(c:UInt8):aq E 292 [.str t,.int .u8 c.toNat] (· = .int .i64 (Lib.indexByte t c)):=by
 unfold aq;refine⟨⟨_,Tryz.func292,rfl,by decide⟩,fun aD w vs _ _ hv=>?_⟩;obtain⟨u,v,rfl,h1,h2⟩:=RG hv;cases h1;cases h2;have:=Any.strings_IndexByte Tryz.acg ⟨t.toArray⟩ (c.toNat:Int) w;refine this.mono fun e w' ⟨h1,h2⟩=>⟨_,_,h1,rfl,?_,by rw[h2];exact Ext.refl w⟩;rw[show(ByteArray.mk t.toArray).data.toList=t by simp,show((c.toNat:Int)).toNat.toUInt8=c by simp];exact .int _ _
theorem Kl:∀ (L:List Text),Lib.join L [46]=Nm.glue L
 |[]=>rfl
 |[x]=>by simp[Lib.join,am5,Nm.glue]
 |x::y::t=>by
  have:=Kl (y::t);unfold Lib.join at this ⊢;rw[Nm.glue,<- this];simp[am5]
theorem acj(L:List Text)(hl:L.length<=1000)(hb:(Nm.glue L).length<=1000000):aq E 333 [.sl (L.map .str),.str [46]] (· = .str (Nm.glue L)):=by
 unfold aq;refine⟨⟨_,Tryz.func333,rfl,by decide⟩,fun aD w vs _ _ hv=>?_⟩;obtain⟨u,v,rfl,h1,h2⟩:=RG hv;cases h2;have nk:(L.map fun x=>ByteArray.mk x.toArray).map (·.data.toList)=L:=by simp[Function.comp_def]
 have fin:∀ e w',(e=Ending.returned (.string ⟨(Lib.join ((L.map fun x=>ByteArray.mk x.toArray).map (·.data.toList)) (ByteArray.mk [46].toArray).data.toList).toArray⟩)/\Below w.heap.size w w')->∃ v r,e=.returned v/\r=DV.str (Nm.glue L)/\VD (fun b=>aD b) w' r v/\Ext w w':=fun e w' ⟨h1,h2⟩=>by
  refine⟨_,_,h1,rfl,?_,ach h2⟩;rw[nk,show(ByteArray.mk [46].toArray).data.toList=[46] by simp,Kl];exact .str _
 generalize hD:L.map DV.str=D at h1;cases h1 with
 |slnil =>
  have hn:L=[]:=akS.1 hD;subst hn;exact(Any.strings_Join_none Tryz.Fi Tryz.Fj none 0 ⟨#[46]⟩ w).mono fun e w' ⟨q1,q2⟩=>fin e w' ⟨q1,q2 ▸ Below.refl _ _⟩
 |l6 a =>
  have hn:L=[]:=akS.1 hD;subst hn;exact(Any.strings_Join_none Tryz.Fi Tryz.Fj (some a) 0 ⟨#[46]⟩ w).mono fun e w' ⟨q1,q2⟩=>fin e w' ⟨q1,q2 ▸ Below.refl _ _⟩
 |sl _ blk off cap sz f la bP kI hlen dQ bJ bW =>
  subst hD;by_cases hn:L=[]
  ·subst hn;exact(Any.strings_Join_none Tryz.Fi Tryz.Fj (some ⟨blk,off,none⟩) cap ⟨#[46]⟩ w).mono fun e w' ⟨q1,q2⟩=>fin e w' ⟨q1,q2 ▸ Below.refl _ _⟩
  ·have yq:∀ (j:Nat) x,(L.map fun x=>ByteArray.mk x.toArray)[j]?=some x->w.cell? ⟨blk,off+j,none⟩=some (.string x):=fun j x hx=>by
    rw[ahy]at hx;cases e:L[j]? with
    |none=>rw[e]at hx;cases hx
    |some t =>
     rw[e]at hx;cases hx;have e1:(L.map DV.str)[j]?=some (.str t):=by rw[ahy,e];rfl
     have rB:sz=1:=(hlen j _ e1).symm;have c1:=dQ j 0 (.str t) (.str t) e1 rfl;have v1:=bJ j 0 (.str t) (.str t) e1 rfl;rw[rB,Nat.mul_one,Nat.add_zero]at c1;rw[c1];generalize f j 0=u at v1;cases v1;rfl
   obtain⟨t,r,rfl⟩:=List.exists_cons_of_ne_nil hn;have dP:blk<w.heap.size:=World.block_lt_of_cell? _ _ (yq 0 ⟨t.toArray⟩ rfl);have:=Any.strings_Join Tryz.Fi Tryz.Fj blk off cap ((t::r).map fun x=>ByteArray.mk x.toArray) ⟨#[46]⟩ w yq dP (by simp at hl ⊢;omega) (zD kI) (by rw[nk,show(ByteArray.mk [46].toArray).data.toList=[46] by simp,Kl];omega);rw[aiO]at this;rw[aiO];exact this.mono fun e w' h=>fin e w' h
theorem Km:∀ {L:List Text},(∀ t∈L,t.length<=100)->(Nm.glue L).length<=L.length*101
 |[],_=>by simp[Nm.glue]
 |[x],h=>by have:=h x sP;simp[Nm.glue];omega
 |x::y::t,h=>by
  have h1:=h x sP;have h2:=Km (L:=y::t) fun u hu=>h u (aip _ hu);rw[Nm.glue];simp only[ah5,ahN]at h2 ⊢;omega
theorem ack(L:List Text)(hl:L.length<=1000)(hb:∀ t∈L,t.length<=100):aq E 298 [.sl (L.map .str)] (· = match lj L with|some t => .aG [.str t,.int .i64 0]|none => .aG [.str [],.int .i64 11]):=by
 have no:Nm.parts L=false->lj L=none:=fun e=>by rw[lj,e];rfl
 have c2:=fun h=>acj L hl h;refine eP F298.h ?_;by_cases h0:L=[]
 ·subst h0;have e:lj []=some [46]:=by decide
  rw[e];refine aN dC (gC ?_)
  with_reducible rfl
 refine aP (zD h0) (gC ?_);apply ah<;>intro h1
 ·have h1:=of_decide_eq_true h1
  rw[no (by
   cases e:Nm.parts L
   ·rfl
   ·have:=(pL.1 e).1;simp at h1
    omega)]
  refine gC ?_
  with_reducible rfl
 have hL8:L.length<=8:=by have:=of_decide_eq_false h1;simp at this;omega
 refine gC ?_;refine I.lP L.length (rg 2 4++rg 15 17) (fun k=>[(15,.d (.int .i64 k))]) (fun _=>[]) (fun k=>k<=L.length/\∀ i x,i<k->L[i]?=some x->fK i x=true) ⟨ai4 _,fun i x h=>by omega⟩ ?_ ?_
 ·exact sZ
 rintro k ⟨hk,aM⟩ IH;refine zA ?_ ?_<;>intro h5
 ·have ai:k<L.length:=zD h5
  obtain⟨x,hx⟩:=aI ai
  have bad:fK k x=false->lj L=none:=fun e=>no (by
   cases e2:Nm.parts L
   ·rfl
   ·have:=(pL.1 e2).2 k x hx
    rw[e]at this;cases this)
  have iI:fK k x=true->∀ i y,i<k+1->L[i]?=some y->fK i y=true:=fun e i y hi hy=>by
   rcases am3 (am4 hi)with h|h
   ·exact aM i y h hy
   ·subst h;rw[hx]at hy;cases hy;exact e
  refine gC ?_;refine aR (e := .str x) (bC hx) rfl (gC ?_);refine ao (IN x) (gC ?_);cases pN:Nm.label x
  ·refine vT ?_;apply ah<;>intro h6
   ·have h6:=of_decide_eq_true h6;refine gC ?_;refine vT ?_;rw[bad (by simp[fK,pN];omega)]
   ·have h6:=of_decide_eq_false h6;refine gC ?_;by_cases h7:x=[42]
    ·refine aP (zD h7) (gC ?_);refine I.back (IH (k+1) ⟨by omega,iI (by simp[fK,h7];omega)⟩ oM) ?_;exact sZ
    ·refine aN (zD h7) (gC ?_);rw[bad (by simp[fK,pN,h7])]
  ·refine vF ?_;refine vF ?_;exact I.back (IH (k+1) ⟨by omega,iI (by simp[fK,pN])⟩ oM) sZ
 ·have aA:k=L.length:=by simp at h5;omega
  subst aA;have hp:Nm.parts L=true:=pL.2 ⟨hL8,fun i x hx=>aM i x (akz.1 hx).1 hx⟩;have yA:gS L=Nm.glue L:=by rw[gS,if_neg h0]
  have ik:=Km hb;have c2:=c2 oM;clear IH;unfold lj;rw[hp,yA,aja];refine gC ?_;refine ao (c2) (gC ?_);apply ah<;>intro h6
  ·have h6:=of_decide_eq_true h6;refine gC ?_;rw[decide_eq_false oM];rfl
  ·have h6:=of_decide_eq_false h6;refine gC ?_;rw[decide_eq_true oM];rfl
theorem RH:∀ (t:Text),(∀ r,Nm.split t=[r]->Lib.indexByte t 46 = -1/\t=r)/\∀ x y r,Nm.split t=x::y::r->∃ n:Nat,Lib.indexByte t 46=n/\t.drop (n+1)=Nm.glue (y::r)/\n+1<=t.length
 |[]=>by simp[Nm.split,Lib.indexByte]
 |c::t=>by
  obtain⟨h1,h2⟩:=RH t;by_cases hc:c=46
  ·subst hc;have e:Nm.split (46::t)=[]::Nm.split t:=by simp[Nm.split]
   have e2:Lib.indexByte (46::t) 46=0:=by simp[Lib.indexByte]
   rw[e,e2];refine⟨fun r hr=>?_,fun x y r hr=>?_⟩
   ·have:=Nm.pK t;simp at hr;exact absurd hr.2 this
   ·simp only[List.cons.injEq]at hr;refine⟨0,rfl,?_,by simp⟩;rw[<- hr.2,Nm.wW];rfl
  ·have e2:Lib.indexByte (c::t) 46=if Lib.indexByte t 46 = -1 then -1 else Lib.indexByte t 46+1:=by
    rw[Lib.indexByte,if_neg (zD hc)];simp
   cases hs:Nm.split t with
   |nil=>exact absurd hs (Nm.pK t)
   |cons h r0 =>
    have e:Nm.split (c::t)=(c::h)::r0:=by simp[Nm.split,hc,hs]
    rw[e,e2];refine⟨fun r hr=>?_,fun x y r hr=>?_⟩
    ·simp only[List.cons.injEq]at hr;obtain⟨rfl,rfl⟩:=hr;obtain⟨k1,k2⟩:=h1 h hs;rw[if_pos k1];exact⟨rfl,by rw[k2]⟩
    ·simp only[List.cons.injEq]at hr;obtain⟨rfl,rfl⟩:=hr;obtain⟨n,k1,k2,k3⟩:=h2 h y r hs;rw[if_neg oM];exact⟨n+1,by omega,zD k2,by simp;omega⟩
theorem RI(t:Text)(hv:Nm.valid t=true)(hr:t≠[46]):aq E 226 [.str t] (· = .aG [.str (gS (Nm.labels t).tail),.int .i64 0]):=by
 have hlen:=dh hv;have c1:=xg t (pC oM);rw[hv]at c1;have c2:=aci t 46;have ng:Nm.labels t=Nm.split t:=by rw[Nm.labels,if_neg hr]
 obtain⟨h1,h2⟩:=RH t;rw[ng];refine eP F226.h ?_;refine ao (c1) (gC ?_);refine vF ?_;refine aP (zD hr) (gC ?_);refine ao (c2) (gC ?_);cases hs:Nm.split t with
 |nil=>exact absurd hs (Nm.pK t)
 |cons x r =>
  cases r with
  |nil =>
   obtain⟨k1,k2⟩:=h1 x hs;refine aP (by rw[k1];decide) ?_;refine gC ?_;rfl
  |cons y r =>
   obtain⟨n,k1,k2,k3⟩:=h2 x y r hs;have hw:IntKind.i64.wrap (Lib.indexByte t 46+1)=((n+1:Nat):Int):=by rw[k1,wrap64 oM oM];omega
   have hd:List.drop ((some (IntKind.i64.wrap (Lib.indexByte t 46+1))).getD 0).toNat (List.take ((none:Option Int).getD (t.length:Int)).toNat t)=gS (y::r):=by
    rw[hw]
    simpa [gS]using k2
   refine aN (by rw[k1];simp) ?_;refine gC ?_;refine bj ⟨by rw[hw];simp;omega,by rw[hw];simp;omega,by simp⟩ ?_;(conv=>whnf);rw[hd];refine gC ?_;rfl
end Go.Proofs.YtlhehdgciafakaaGreatDoor.P
end
section
namespace Go.Proofs.YtlhehdgciafakaaGreatDoor.P
open Go Go.az
set_option maxRecDepth 100000
set_option maxHeartbeats 4000000
theorem RJ:Nm.labels [46]=[]:=rfl
theorem Kn{t:Text}(h:Nm.labels t=[]):t=[46]:=by rw[<- xN t,h];rfl
theorem RL{s t:Text}(h:Nm.labels s=Nm.labels t):s=t:=by rw[<- xN s,h,xN]
theorem Ko{t:Text}(h:t≠[46]):Nm.labels t≠[]:=fun e=>h (Kn e)
theorem RM{t:Text}(hv:Nm.valid t=true)(hr:t≠[46]):t.length<=60/\Nm.parts (Nm.split t)=true:=by
 simpa [Nm.valid,hr]using hv
theorem tZ{t:Text}(hv:Nm.valid t=true)(hr:t≠[46]):Nm.valid (gS (Nm.labels t).tail)=true/\Nm.labels (gS (Nm.labels t).tail)=(Nm.labels t).tail:=by
 obtain⟨h1,h2⟩:=RM hv hr;have hd:=Nm.NR t;have hg:=Nm.wW t;rw[Nm.labels,if_neg hr];generalize Nm.split t=L at *;cases L with
 |nil=>exact⟨rfl,rfl⟩
 |cons x r =>
  cases r with
  |nil=>exact⟨rfl,rfl⟩
  |cons y r =>
   have e:gS (y::r)=Nm.glue (y::r):=by simp[gS]
   have hs:Nm.split (Nm.glue (y::r))=y::r:=Nm.NS _ sP fun u hu=>hd u (aip _ hu);obtain⟨p1,p2⟩:=pL.1 h2;have hy:Nm.label y=true:=by simpa [fK]using p2 1 y rfl
   have aL:Nm.glue (y::r)≠[46]:=fun e=>by
    rw[e]at hs;have e2:Nm.split [46]=[[],[]]:=by decide
    rw[e2]at hs;cases hs;exact absurd hy dC
   have hl:(Nm.glue (y::r)).length<=60:=by
    rw[<- hg,Nm.glue]at h1;simp only[ah5,ahN]at h1;omega
   show Nm.valid (gS (y::r))=true/\Nm.labels (gS (y::r))=y::r;rw[e];refine⟨?_,by rw[Nm.labels,if_neg aL,hs]⟩
   have hp:Nm.parts (y::r)=true:=pL.2 ⟨by simp at p1 ⊢;omega,fun i u hu=>by
    have:=p2 (i+1) u (zD hu);simp[fK]at this
    simp[fK,this]⟩
   simp[Nm.valid,aL,hs,hp,hl]
theorem acn(a:Text):Nm.under a a=true:=by simp[Nm.under]
theorem aco{a b c:Text}(h:Nm.under a b=true)(k:Nm.under b c=true):Nm.under a c=true:=by
 simp only[Nm.under,decide_eq_true_eq]at *;exact k.trans h
theorem acp{a b:Text}(h:Nm.under a b=true)(k:Nm.under b a=true):a=b:=by
 simp only[Nm.under,decide_eq_true_eq]at *;exact RL (k.eq_of_length (Nat.le_antisymm k.length_le h.length_le))
theorem Kp{a:Text}(h:Nm.under [46] a=true):a=[46]:=by
 simp only[Nm.under,decide_eq_true_eq,RJ,List.suffix_nil]at h;exact Kn h
theorem Fk{n d:Text}(hv:Nm.valid n=true)(hr:n≠[46])(h:Nm.under n d=true)(aL:n≠d):Nm.under (gS (Nm.labels n).tail) d=true:=by
 simp only[Nm.under,decide_eq_true_eq]at *;rw[(tZ hv hr).2];cases e:Nm.labels n with
 |nil=>exact absurd (Kn e) hr
 |cons x r =>
  rw[e]at h;rcases List.suffix_cons_iff.1 h with k|k
  ·exact absurd (RL (e.trans k.symm)) aL
  ·exact k
theorem acq{n:Text}(hv:Nm.valid n=true)(hr:n≠[46]):Nm.under n (gS (Nm.labels n).tail)=true:=by
 simp only[Nm.under,decide_eq_true_eq];rw[(tZ hv hr).2];exact List.tail_suffix _
theorem Kq{n:Text}(hv:Nm.valid n=true)(hr:n≠[46]):(Nm.labels (gS (Nm.labels n).tail)).length<(Nm.labels n).length:=by
 rw[(tZ hv hr).2,List.length_tail];have:=List.length_pos_iff.2 (Ko hr);omega
theorem acr{z:aK}{c:Text}(h1:z.J.any (cF ⟨c,2⟩)=true)(h2:c≠z.af):c∈cm z.af z.J:=by
 obtain⟨s,hs,h⟩:=alN.1 h1;simp only[cF,ai2,beq_iff_eq]at h;unfold cm;exact ahY.2 ⟨s,List.mem_filter.2 ⟨hs,by simp[jT,h.1,h.2,h2]⟩,h.1⟩
theorem Kr{z:aK}{c:Text}(h:c∈cm z.af z.J):z.J.any (cF ⟨c,2⟩)=true/\c≠z.af:=by
 obtain⟨s,hs,rfl,hc⟩:=qF h;simp[jT]at hc;exact⟨alN.2 ⟨s,hs,by simp[cF,hc.1]⟩,hc.2⟩
theorem acs{z:aK}(V:gq z){n c:Text}(h:c∈cm z.af z.J)(hu:Nm.under n c=true):jh z n=some c:=by
 unfold jh;cases e:(cm z.af z.J).find? fun d=>Nm.under n d with
 |none=>exact absurd hu (by simpa using am6.1 e c h)
 |some d=>rw[V.di d (List.mem_of_find?_eq_some e) c h n (by simpa using List.find?_some e) hu]
theorem acu{z:aK}(V:gq z){n:Text}(h:∀ d∈cm z.af z.J,Nm.under n d=true->Nm.under z.af d=true):jh z n=none:=by
 unfold jh;rw[am6];intro d hd hu;obtain⟨s,hs,rfl,hc⟩:=qF hd;exact(Kr hd).2 (acp (V.under s hs) (h _ hd (zD hu)))
def Ks(z:aK)(n:Text):DV:=if Nm.valid n&&dN z then(if Nm.under n z.af then(match jh z n with|some c => .aG [.str c,.bool true,.int .i64 0]|none => .aG [.str [],.bool false,.int .i64 0])else .aG [.str [],.bool false,.int .i64 20])else .aG [.str [],.bool false,.int .i64 1]
theorem acv(z:aK)(n:Text)(hf:z.Fits)(hn:n.length<=maxLen):aq E 145 [z.enc,.str n] (· = Ks z n):=by
 have c1:=iP n hn;have c2:=xt z hf;unfold Ks;cases h1:Nm.valid n
 ·rw[h1]at c1;refine eP F145.h ?_;repeat' (first|with_reducible(first|refine cC c1 ?_|refine cX ?_|apply ah<;>intro)|refine gE ?_|with_reducible rfl)
  all_goals rfl
 cases h2:dN z
 ·rw[h1]at c1;rw[h2]at c2;refine eP F145.h ?_;repeat' (first|with_reducible(first|refine cC c1 ?_|refine cC c2 ?_|refine cX ?_|apply ah<;>intro)|refine gE ?_|with_reducible rfl)
  all_goals rfl
 rw[h1]at c1;rw[h2]at c2;have V:=Ki h2;have c3:=xi n z.af hn (by have:=dh V.af;exact pC oM);rw[ED h1 V.af,h1,V.af]at c3;have hlen:=V.len;refine eP F145.h ?_;refine ao (c1) (gC ?_);refine vF ?_;refine ao (c2) (gC ?_);refine vF ?_;refine ao (c3) (gC ?_);cases h3:Nm.under n z.af
 ·refine vT ?_;rfl
 refine vF ?_;refine I.loop (κ:=Text) ([4,5,6,10,11,12]++rg 33 18) (fun c=>[(10,.d (.str c))]) (fun _=>[]) (fun c=>Nm.valid c=true/\Nm.under n c=true/\Nm.under c z.af=true/\∀ d∈cm z.af z.J,Nm.under n d=true->Nm.under c d=true) (fun c=>(Nm.labels c).length) n ⟨h1,acn n,h3,fun d _ h=>h⟩ ?_ ?_
 ·exact sZ
 rintro c ⟨k1,k2,k3,k4⟩ IH;refine zT ?_;by_cases h4:c=z.af
 ·refine aP (zD h4) (gC ?_);subst h4;rw[acu V k4];rfl
 refine aN (zD h4) ?_;have hr:c≠[46]:=fun e=>h4 (by rw[e]at k3 ⊢;exact(Kp k3).symm);have c4:=Jc z ⟨c,2⟩ oM V.names k1 V.sorted;have c5:=RI c k1 hr;have t1:=tZ k1 hr;have t2:=Kq k1 hr;refine gC ?_
 with_reducible refine ta (c4) ?_
 rintro r ⟨i,-,rfl,-⟩;refine gC ?_;cases h5:z.J.any (cF ⟨c,2⟩)
 ·refine vF ?_;refine ao (c5) (gC ?_);have aL:∀ d∈cm z.af z.J,c≠d:=fun d hd e=>by
   have:=(Kr hd).1;rw[<- e,h5]at this;cases this
  exact I.back (IH (gS (Nm.labels c).tail) ⟨t1.1,aco k2 (acq k1 hr),Fk k1 hr k3 h4,fun d hd hu=>Fk k1 hr (k4 d hd hu) (aL d hd)⟩ t2) sZ
 ·refine vT ?_;rw[acs V (acr h5 h4) k2];rfl
end Go.Proofs.YtlhehdgciafakaaGreatDoor.P
end
