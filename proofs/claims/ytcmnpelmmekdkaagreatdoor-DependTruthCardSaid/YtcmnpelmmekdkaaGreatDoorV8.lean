/- Lemmas of mine. Conditions: as stated. -/
import Derived.Test.YtcmnpelmmekdkaaGreatDoorV5
import Derived.Test.YtcmnpelmmekdkaaGreatDoorV6
import Derived.Test.YtcmnpelmmekdkaaGreatDoorV7
set_option linter.unusedVariables false
set_option linter.unusedSimpArgs false
section
namespace Go.Proofs.YtcmnpelmmekdkaaGreatDoor.P
open Go Go.aA
set_option maxRecDepth 100000
set_option maxHeartbeats 4000000
theorem X2(l:List DV)(hl:l.length<=2147483648)(hc:∀ e∈l,e.cells.length=3):az E 147 [.sl l] (· = .sl l):=by
 by_cases h:l=[]
 ·subst h;refine az.norm ?_;refine eP F147 ?_;refine aa.vK ag rfl rfl rfl rfl (bg rfl) (fun b hb=>?_);cases b
  ·refine gO F147 ?_;refine aV ?_;refine gO F147 ?_;refine bB ⟨by decide,fun e he=>by cases he⟩ ?_;refine gO F147 ?_;rfl
  ·refine gO F147 ?_;refine bq ?_;refine gO F147 ?_;rfl
 ·refine eP F147 ?_;refine aa.vK ag rfl rfl rfl rfl (bg rfl) (fun b hb=>?_);obtain rfl:b=false:=by
   cases b
   ·rfl
   ·exact absurd (hb rfl) h
  refine gO F147 ?_;refine aV ?_;refine gO F147 ?_;refine bB ⟨by simp;omega,hc⟩ ?_;refine gO F147 ?_;rfl
theorem X3(l:List DV)(hl:l.length<=2147483648)(hc:∀ e∈l,e.cells.length=6):az E 148 [.sl l] (· = .sl l):=by
 by_cases h:l=[]
 ·subst h;refine az.norm ?_;refine eP F148 ?_;refine aa.vK ag rfl rfl rfl rfl (bg rfl) (fun b hb=>?_);cases b
  ·refine gO F148 ?_;refine aV ?_;refine gO F148 ?_;refine bB ⟨by decide,fun e he=>by cases he⟩ ?_;refine gO F148 ?_;rfl
  ·refine gO F148 ?_;refine bq ?_;refine gO F148 ?_;rfl
 ·refine eP F148 ?_;refine aa.vK ag rfl rfl rfl rfl (bg rfl) (fun b hb=>?_);obtain rfl:b=false:=by
   cases b
   ·rfl
   ·exact absurd (hb rfl) h
  refine gO F148 ?_;refine aV ?_;refine gO F148 ?_;refine bB ⟨by simp;omega,hc⟩ ?_;refine gO F148 ?_;rfl
structure aQ.gV(z:aQ):Prop where
 ab:z.ab.length<=2147483648
 each:∀ s∈z.ab,s.set.data.length<=2147483648/\s.sigs.length<=2147483648
theorem Ib{z:aQ}(h:eF z=true):z.gV:=by
 simp only[eF,Bool.and_eq_true]at h;obtain⟨h1,h2,h3,h4,h5⟩:=h;obtain⟨q1,q2,q3⟩:=vE h1;refine⟨by omega,fun s hs=>⟨?_,?_⟩⟩
 ·have:=q2 s hs;simp only[fF,Bool.and_eq_true]at this;have:=rF this.1;omega
 ·obtain⟨i,hi⟩:=List.getElem?_of_mem hs;have ai:=a7 hi;obtain⟨o,ho⟩:=bd (l:=rL z) (k:=i) (by rw[Hg];exact ai);have hm:(s,o)∈z.ab.zip (rL z):=List.mem_of_getElem? (i:=i) (by rw[List.getElem?_zip_eq_some];exact⟨hi,ho⟩);have h6:=List.all_eq_true.1 h5 _ hm;simp only[vD,nY,Bool.and_eq_true,decide_eq_true_eq]at h6;omega
theorem X4{z:aQ}(hg:z.Good)(h:xC z=true):z.Fits/\z.gV/\z.Aj:=by
 simp only[xC,Bool.and_eq_true,decide_eq_true_eq]at h;obtain⟨h1,h2⟩:=h;rw[List.take_of_length_le (by omega)]at h1;have he:∀ s∈z.ab,s.set.data.length<=20/\s.sigs.length<=20:=fun s hs=>by
  have:=List.all_eq_true.1 h1 s hs;simp[xB]at this;omega
 refine⟨⟨hg.1,fun s hs=>⟨((hg.2.2 s hs).1).1,by have:=he s hs;omega,fun d hd=>(((hg.2.2 s hs).1).2.2.2.2 d hd).1⟩⟩,⟨by omega,fun s hs=>by have:=he s hs;omega⟩,⟨by omega,fun s hs=>⟨by have:=he s hs;omega,by have:=he s hs;omega⟩⟩⟩
theorem X5{α:Type}{l:List α}{k:Nat}(h:k<l.length):∃ x,l[k]?=some x:=⟨l[k],by simp⟩
def iW(z:aQ):Int:=match z.ab[(aq z.ab ⟨z.ad,4⟩).toNat]? with
 |some s=>(match s.set.data[0]? with|some d=>d.n|none=>0)
 |none=>0
theorem OW{i j:Nat}(h:i+j<=4294967296):IntKind.i64.wrap (qT .shr .u64 (IntKind.u64.wrap (IntKind.i64.wrap ((i:Int)+j))) (Int.toNat 1))=(((i+j) / 2:Nat):Int):=NX h
theorem Ic{z:aQ}(h:eF z=true):∃ (k:Nat) (s:Signed) (d:Datum),aq z.ab ⟨z.ad,4⟩=k/\z.ab[k]?=some s/\cE ⟨z.ad,4⟩ s=true/\s.set.data[0]?=some d/\iW z=d.n:=by
 have h0:=h;simp only[eF,Bool.and_eq_true]at h;obtain⟨h1,h2,h3,h4,h5⟩:=h;simp only[rJ,Bool.and_eq_true,Bool.not_eq_true',decide_eq_false_iff_not]at h2;have h6:=h2.1.1;cases hf:z.ab.findIdx? (cE ⟨z.ad,4⟩)with
 |none=>simp[aq,hf]at h6
 |some k =>
  obtain⟨hk,hq,_⟩:=List.findIdx?_eq_some_iff_getElem.1 hf;have hs:z.ab[k]?=some z.ab[k]:=List.getElem?_eq_getElem hk;obtain⟨q1,q2,q3⟩:=vE h1;have aO:=q2 z.ab[k] (List.getElem_mem hk);simp only[fF,Bool.and_eq_true]at aO;have hl:=rF aO.1;obtain⟨d,hd⟩:=X5 (l:=z.ab[k].set.data) (k:=0) (by omega);have e:aq z.ab ⟨z.ad,4⟩=k:=by simp[aq,hf]
  exact⟨k,z.ab[k],d,e,hs,hq,hd,by simp[iW,e,hs,hd]⟩
theorem Ie(z:aQ)(hf:z.Fits)(h:eF z=true):az E 88 [z.enc] (· = .aK [.int .i64 (iW z),.int .i64 0]):=by
 have c1:=Hv z hf;rw[h]at c1;obtain⟨k,s,d,e1,e2,e3,e4,e5⟩:=Ic h;have cj:n4 z=true:=by simp only[eF,Bool.and_eq_true]at h;exact h.1
 obtain⟨f1,f2,_⟩:=Hu cj;obtain⟨g1,_,g3⟩:=vE cj;have c2:=Df z ⟨z.ad,4⟩ (by omega) f2 g3 f1;obtain⟨za,zs⟩:=z;simp only at e1 e2 e3 c2;show az E _ [DV.agg [.str za,.sl (zs.map Signed.enc)]] _;refine eP Tryz.func88 ?_;refine aj (c1) ?_;refine gO Tryz.func88 ?_;refine aV ?_;refine gO Tryz.func88 ?_;refine uS c2 ?_;rintro r ⟨i,_,rfl,hi⟩;obtain rfl:=hi k s e2 e3;refine gO Tryz.func88 ?_;refine aD (e:=s.enc) (aU e2) rfl ?_;refine gO Tryz.func88 ?_;refine aD (e:=d.enc) (te e4) rfl ?_;refine gO Tryz.func88 ?_;rw[e5]
theorem OX(z:aQ)(h:eF z=true):az E 48 [z.enc] (· = .int .i64 (iW z)):=by
 obtain⟨k,s,d,e1,e2,e3,e4,e5⟩:=Ic h;have hl:z.ab.length<=2147483648:=(Ib h).ab;have c1:=vB z ⟨z.ad,4⟩ hl;rw[e1]at c1;obtain⟨za,zs⟩:=z;show az E _ [DV.agg [.str za,.sl (zs.map Signed.enc)]] _;refine eP Tryz.func48 ?_;refine aa.draw ag bU 14 2000 (by kernel_rfl) ?_;(conv=>whnf);refine bl (c1) ?_;refine gD ?_;refine aD (e:=s.enc) (aU e2) rfl ?_;refine gD ?_;refine aD (e:=d.enc) (te e4) rfl ?_;refine gD ?_;refine gS ?_;refine gO Tryz.func48 ?_;rw[e5]
end Go.Proofs.YtcmnpelmmekdkaaGreatDoor.P
end
section
namespace Go.Proofs.YtcmnpelmmekdkaaGreatDoor.P
open Go Go.aA
theorem OY{C H:List Text}(hA:ji H)(hP:tp H)(rP:∀ d∈H,d∈C)(xO:∀ c∈C,∃ d∈H,Nm.under c d=true)(aM:∀ c∈C,c≠[]) :
  ∀ (rest done:List Text) (cut:Text) (k:Nat),ji (done++rest)->(∀ c∈C,c∈done++rest)->k<=H.length->(match done.getLast? with|none=>cut=[]|some p=>rO H p cut)->(∀ m d,m<k->H[m]?=some d->∃ p,done.getLast?=some p/\bC d p<=0)->∀ (i:Nat) (n r:Text),rest[i]?=some n->(nd H k rest)[i]?=some r->rO H n r
 |[],_,_,_,_,_,_,_,_=>fun i n r h=>by simp at h
 |n::rest,done,cut,k,rQ,aX,hk,hcut,vH=>by
  have xP:∀ p,done.getLast?=some p->bC p n<=0:=fun p hp=>by
   have hl:0<done.length:=by cases done with|nil=>simp at hp|cons=>simp
   rw[List.getLast?_eq_getElem?]at hp;exact rQ (done.length-1) done.length p n (by omega) (by rw[List.getElem?_append_left (by omega)];exact hp) (by simp)
  have Di:∀ d∈H,bC d n<0->∃ p,done.getLast?=some p/\bC d p<=0:=fun d hd o6=>by
   have:=aX d (rP d hd);obtain⟨i,hi⟩:=List.getElem?_of_mem this;have qQ:(done++n::rest)[done.length]?=some n:=by simp
   have ai:i<done.length:=by
    rcases Nat.lt_trichotomy i done.length with h|h|h
    ·exact h
    ·subst h;rw[qQ]at hi;cases hi;rw[kp]at o6;omega
    ·have h1:=rQ done.length i n d h qQ hi;have h2:=xK d n;omega
   rw[List.getElem?_append_left ai]at hi;obtain⟨p,hp⟩:=bd (l:=done) (k:=done.length-1) (by omega);refine⟨p,by rw[List.getLast?_eq_getElem?];exact hp,?_⟩;rcases Nat.lt_or_ge i (done.length-1)with h|h
   ·exact rQ i (done.length-1) d p h (by rw[List.getElem?_append_left ai];exact hi) (by rw[List.getElem?_append_left (by omega)];exact hp)
   ·obtain rfl:i=done.length-1:=by omega
    rw[hp]at hi;cases hi;rw[kp];omega
  obtain⟨f2,f3⟩:=N7 hA hP (n:=n) hk (fun m d hm hd=>by
   obtain⟨p,hp,kO⟩:=vH m d hm hd
   exact Dh kO (xP p hp))
  have ih:=OY hA hP rP xO aM rest (done++[n]) (mq H n (eW H n k)) (eW H n k) (by simpa using rQ) (by simpa using aX) (C3 hk) (by simpa using f2) (fun m d hm hd=>⟨n,by simp,f3 m d hm hd⟩);intro i m r hm hr;cases i with
  |zero =>
   simp at hm;subst hm;simp only[nd,List.getElem?_cons_zero,Option.some.injEq]at hr;subst hr;exact f2
  |succ i=>exact ih i m r (by simpa using hm) (by simpa [nd]using hr)
end Go.Proofs.YtcmnpelmmekdkaaGreatDoor.P
end
section
namespace Go.Proofs.YtcmnpelmmekdkaaGreatDoor.P
open Go Go.aA
set_option maxRecDepth 100000
structure iI where
 kind:Int
 ab:List Signed
 cut:Text
 deriving DecidableEq
@[reducible] def iI.enc (a : iI) : DV := .agg [.int .i64 a.kind, .sl (a.ab.map Signed.enc), .str a.cut]
theorem X6{x y:Signed}:nX y.set x.set=0↔cE ⟨x.set.name,x.set.type⟩ y=true:=by
 rw[<- De,<- xM];show _↔(n' y.set.name y.set.type x.set.name x.set.type==0)=true;simp
theorem xZ{l:List Signed}(h:fj l){k:Nat}{x:Signed}(hx:l[k]?=some x):aq l ⟨x.set.name,x.set.type⟩=k :=
 Ni (fun j y hj hy=>by
  have h1:=h j k y x hj hy hx;cases e:cE ⟨x.set.name,x.set.type⟩ y
  ·rfl
  ·rw[X6.2 e]at h1;omega) hx (by simp[cE])
theorem jN{l:List Signed}{q:aG}(h:0<=aq l q):∃ s,l[(aq l q).toNat]?=some s/\cE q s=true:=by
 unfold aq at h ⊢;cases e:l.findIdx? (cE q)with
 |none=>rw[e]at h;simp at h
 |some k =>
  obtain⟨h1,h2,_⟩:=List.findIdx?_eq_some_iff_getElem.1 e;exact⟨l[k],by simp,h2⟩
theorem fX{l:List Signed}{q:aG} : -1<=aq l q/\aq l q<l.length:=by
 unfold aq;cases e:l.findIdx? (cE q)with
 |none=>exact⟨Int.le_refl _,by show(-1:Int)<l.length;omega⟩
 |some k =>
  obtain⟨h1,h2,_⟩:=List.findIdx?_eq_some_iff_getElem.1 e;exact⟨by show(-1:Int)<=(k:Int);omega,by show(k:Int)<l.length;omega⟩
theorem qj{q:aG}{s:Signed}(h:cE q s=true):q=⟨s.set.name,s.set.type⟩:=by
 obtain⟨n,t⟩:=q;simp[cE]at h;rw[h.1,h.2]
def bN(l:List Signed)(ps:List Int):List Signed:=ps.filterMap fun p=>l[p.toNat]?
def du(ps:List Int)(p:Int):List Int:=if p<0\/p∈ps then ps else ps++[p]
def b8(ps:List Int):List Int:=ps.foldl du []
def lO(l:List Signed)(ps:List Int):Prop:=∀ p∈ps,0<=p/\p<l.length
theorem lO.nil{l:List Signed}:lO l []:=fun p hp=>by simp at hp
theorem lO.add{l:List Signed}{ps:List Int}{p:Int}(h:lO l ps)(hp:p<l.length):lO l (du ps p):=by
 unfold du;split
 ·exact h
 ·rename_i hn;intro q hq;rcases List.mem_append.1 hq with hq|hq
  ·exact h q hq
  ·rw[List.mem_singleton.1 hq];exact⟨by omega,hp⟩
theorem AM{ps:List Int}{p:Int}:b8 (ps++[p])=du (b8 ps) p:=by rw[b8,List.foldl_append];rfl
theorem OZ{ps:List Int}{k:Nat}{p:Int}(h:ps[k]?=some p):b8 (ps.take (k+1))=du (b8 (ps.take k)) p:=by rw[ey h,AM]
theorem Ig{p:Int}:∀ {ps:List Int},p∈b8 ps↔0<=p/\p∈ps:=by
 have main:∀ (ps acc:List Int),(∀ q∈acc,0<=q)->(p∈ps.foldl du acc↔p∈acc\/(0<=p/\p∈ps)):=by
  intro ps
  induction ps with
  |nil=>intro acc _;simp
  |cons x ps ih =>
   intro acc ha;rw[List.foldl_cons,ih]
   ·unfold du;split
    ·rename_i hx;constructor
     ·rintro(h|h)
      ·exact .inl h
      ·exact .inr ⟨h.1,List.mem_cons_of_mem _ h.2⟩
     ·rintro(h|⟨h1,h2⟩)
      ·exact .inl h
      ·rcases List.mem_cons.1 h2 with rfl|h2
       ·rcases hx with hx|hx
        ·omega
        ·exact .inl hx
       ·exact .inr ⟨h1,h2⟩
    ·rename_i hx;simp only[List.mem_append,List.mem_cons,List.not_mem_nil,or_false];constructor
     ·rintro((h|rfl)|h)
      ·exact .inl h
      ·exact .inr ⟨by omega,.inl rfl⟩
      ·exact .inr ⟨h.1,.inr h.2⟩
     ·rintro(h|⟨h1,h2⟩)
      ·exact .inl (.inl h)
      ·rcases h2 with rfl|h2
       ·exact .inl (.inr rfl)
       ·exact .inr ⟨h1,h2⟩
   ·intro q hq;unfold du at hq;split at hq
    ·exact ha q hq
    ·rename_i hx;rcases List.mem_append.1 hq with hq|hq
     ·exact ha q hq
     ·rw[List.mem_singleton.1 hq];omega
 intro ps;have:=main ps [] (fun q hq=>by simp at hq)
 simpa [b8]using this
theorem X7{l:List Signed}{ps:List Int}(h:∀ p∈ps,p<l.length):lO l (b8 ps):=fun p hp=>by
 obtain⟨h1,h2⟩:=Ig.1 hp;exact⟨h1,h p h2⟩
theorem Dq{ps:List Int}:(b8 ps).length<=ps.length:=by
 have main:∀ (ps acc:List Int),(ps.foldl du acc).length<=acc.length+ps.length:=by
  intro ps
  induction ps with
  |nil=>intro acc;simp
  |cons x ps ih =>
   intro acc;rw[List.foldl_cons];refine Nat.le_trans (ih _) ?_;have:(du acc x).length<=acc.length+1:=by unfold du;split<;>simp
   simp;omega
 have:=main ps []
 simpa [b8]using this
theorem vM{l:List Signed}{ps:List Int}:(bN l ps).length<=ps.length:=List.length_filterMap_le ..
theorem O0{l:List Signed}{ps:List Int}{p:Int}{s:Signed}(h0:0<=p)(hs:l[p.toNat]?=some s):bN l (du ps p)=if p∈ps then bN l ps else bN l ps++[s]:=by
 unfold du;by_cases h:p∈ps
 ·rw[if_pos (.inr h),if_pos h]
 ·rw[if_neg (by rintro(e|e);omega;exact h e),if_neg h,bN,List.filterMap_append];simp[bN,hs]
theorem get_mem{l:List Signed}{ps:List Int}{s:Signed}:s∈bN l ps↔∃ p∈ps,l[p.toNat]?=some s:=by simp[bN,List.mem_filterMap]
def gG(l:List Signed)(n:Text):Bool:=l.any fun s=>Nm.under s.set.name n
def ig(P:Signed->Bool)(l:List Signed):Nat:=(l.takeWhile P).length
theorem x7{P:Signed->Bool}{l:List Signed}:ig P l<=l.length:=by
 unfold ig;exact(List.takeWhile_sublist P).length_le
theorem Ih{P:Signed->Bool}:∀ {l:List Signed} (_:∀ (i j:Nat) (x y:Signed),i<j->l[i]?=some x->l[j]?=some y->P y=true->P x=true) {i:Nat} {x:Signed} (_:l[i]?=some x),P x=true↔i<ig P l
 |[],_,i,x,hx=>by simp at hx
 |a::l,hd,i,x,hx=>by
  unfold ig;rw[List.takeWhile_cons];cases ha:P a
  ·simp only[Bool.false_eq_true,if_false,List.length_nil,Nat.not_lt_zero,iff_false];intro e;cases i with
   |zero=>simp at hx;subst hx;rw[ha]at e;cases e
   |succ i =>
    have:=hd 0 (i+1) a x (by omega) rfl hx e;rw[ha]at this;cases this
  ·rw[if_pos rfl,List.length_cons];cases i with
   |zero=>simp at hx;subst hx;simp[ha]
   |succ i =>
    have:=Ih (P:=P) (l:=l) (fun i j x y h h1 h2=>hd (i+1) (j+1) x y (by omega) h1 h2) (i:=i) (x:=x) (by simpa using hx);unfold ig at this;rw[this];omega
theorem X8{a b c:Text}(h:bC a b<=0)(k:bC b c<0):bC a c<0:=by
 rcases Int.lt_or_eq_of_le h with h|h
 ·exact qb h k
 ·rw[oZ h];exact k
theorem Ii{l:List Signed}(hs:fj l){i j:Nat}{x y:Signed}(h:i<j)(hx:l[i]?=some x)(hy:l[j]?=some y):bC x.set.name y.set.name<=0:=Ht (hs i j x y h hx hy)
def jm(n:Text)(s:Signed):Bool:=decide (bC s.set.name n<0)
def iJ(n:Text)(s:Signed):Bool:=decide (bC s.set.name n<=0)
theorem lt_iff{l:List Signed}(hs:fj l){n:Text}{i:Nat}{x:Signed}(hx:l[i]?=some x):bC x.set.name n<0↔i<ig (jm n) l:=by
 rw[<- Ih (P:=jm n) (fun i j x y h h1 h2 h3=>by
  simp only[jm,decide_eq_true_eq]at h3 ⊢
  exact X8 (Ii hs h h1 h2) h3) hx]
 simp[jm]
theorem le_iff{l:List Signed}(hs:fj l){n:Text}{i:Nat}{x:Signed}(hx:l[i]?=some x):bC x.set.name n<=0↔i<ig (iJ n) l:=by
 rw[<- Ih (P:=iJ n) (fun i j x y h h1 h2 h3=>by
  simp only[iJ,decide_eq_true_eq]at h3 ⊢
  exact Dh (Ii hs h h1 h2) h3) hx]
 simp[iJ]
theorem X9{l:List Signed}(hs:fj l){n:Text}:gG l n=match l[ig (jm n) l]? with
  |some s=>Nm.under s.set.name n
  |none=>false:=by
 rw[Bool.eq_iff_iff];constructor
 ·intro h;obtain⟨x,hx,hu⟩:=List.any_eq_true.1 h;obtain⟨j,hj⟩:=List.getElem?_of_mem hx;have h1:=Au hu;have h2:¬ bC x.set.name n<0:=by rw[xK];omega
  have h3:ig (jm n) l<=j:=by have:=(lt_iff hs (n:=n) hj);omega
  obtain⟨s,iD⟩:=bd (l:=l) (k:=ig (jm n) l) (by have:=(List.getElem?_eq_some_iff.1 hj).1;omega);rw[iD];show Nm.under s.set.name n=true;rcases Nat.lt_or_eq_of_le h3 with h3|h3
  ·have h4:¬ bC s.set.name n<0:=fun e=>by have:=(lt_iff hs (n:=n) iD).1 e;omega
   exact xL (by rw[xK];omega) (Ii hs h3 iD hj) hu
  ·rw[<- h3,iD]at hj;cases hj;exact hu
 ·intro h;cases e:l[ig (jm n) l]? with
  |none=>rw[e]at h;cases h
  |some s=>rw[e]at h;exact List.any_eq_true.2 ⟨s,List.mem_of_getElem? e,h⟩
def fG(P:Nat->Bool):Nat->Int
 |0 => -1
 |n+1=>if P n then(n:Int)else fG P n
theorem O1{P:Nat->Bool}:∀ {n:Nat},-1<=fG P n/\fG P n<n
 |0=>by simp[fG]
 |n+1=>by
  have:=O1 (P:=P) (n:=n);rw[fG];split<;>omega
theorem O2{P:Nat->Bool}:∀ {n:Nat},0<=fG P n->P (fG P n).toNat=true
 |0,h=>by simp[fG]at h
 |n+1,h=>by
  rw[fG]at h ⊢;split
  ·rename_i hp;simpa using hp
  ·rename_i hp;rw[if_neg hp]at h;exact O2 h
theorem O3{P Q:Nat->Bool}:∀ {n:Nat},(∀ i,i<n->P i=Q i)->fG P n=fG Q n
 |0,_=>rfl
 |n+1,h=>by rw[fG,fG,h n (by omega),O3 fun i hi=>h i (by omega)]
theorem O4{P:Nat->Bool}{n:Nat}:∀ {d:Nat},(∀ i,n<=i->P i=false)->fG P (n+d)=fG P n
 |0,_=>rfl
 |d+1,h=>by
  rw[show n+(d+1)=n+d+1 by omega,fG,h (n+d) (by omega),if_neg (by decide),O4 h]
def rT(l:List Signed)(i:Nat):Bool:=match l[i]? with
 |some s=>s.set.type==8
 |none=>false
def qk(l:List Signed)(n:Text)(i:Nat):Bool:=match l[i]? with
 |some s=>s.set.type==8&&decide (bC s.set.name n<=0)
 |none=>false
def cJ(l:List Signed)(n:Text):Int:=fG (rT l) (ig (iJ n) l)
theorem X'{l:List Signed}(hs:fj l){n:Text}:fG (qk l n) l.length=cJ l n:=by
 have hle:=x7 (P:=iJ n) (l:=l);have e:l.length=ig (iJ n) l+(l.length-ig (iJ n) l):=by omega
 rw[e,O4 (fun i hi=>?_),cJ]
 ·refine O3 fun i hi=>?_;unfold qk rT;cases h:l[i]? with
  |none=>rfl
  |some s =>
   have:=(le_iff hs (n:=n) h).2 hi;simp[this]
 ·unfold qk;cases h:l[i]? with
  |none=>rfl
  |some s =>
   have:¬ bC s.set.name n<=0:=fun e=>by have:=(le_iff hs (n:=n) h).1 e;omega
   simp[this]
theorem tB{l:List Signed}{n:Text} : -1<=cJ l n/\cJ l n<l.length:=by
 have h1:=O1 (P:=rT l) (n:=ig (iJ n) l);have h2:=x7 (P:=iJ n) (l:=l);unfold cJ;omega
theorem Ya{l:List Signed}{n:Text}(h:0<=cJ l n):∃ s,l[(cJ l n).toNat]?=some s/\s.set.type=8:=by
 have h2:rT l (cJ l n).toNat=true:=O2 h;unfold rT at h2;cases e:l[(cJ l n).toNat]? with
 |none=>rw[e]at h2;cases h2
 |some s=>rw[e]at h2;exact⟨s,rfl,by simpa using h2⟩
def fN(L:List Text):Text:=if L=[]then[46]else Nm.glue L
theorem rU(s:Text):fN (Nm.labels s)=s:=by
 unfold fN Nm.labels;by_cases h:s=[46]
 ·rw[if_pos h,if_pos rfl,h]
 ·rw[if_neg h,if_neg (Nm.nR s),Nm.vp]
def kr(l:List Signed):List Text->List Text
 |[]=>[]
 |x::r=>if gG l (fN (x::r))then x::r else kr l r
def ql(l:List Signed)(s:Text):Text:=fN (kr l (Nm.labels s))
def jO(M:List Text):Option Text:=if Nm.parts M&&decide ((fN M).length<=60)then some (fN M)else none
def pc(l:List Signed)(s:Text):Option Text:=jO ([42]::kr l (Nm.labels s))
def gW(z:aQ)(n:Text):Option Text:=(bO z.ad z.ab).find? fun c=>Nm.under n c
def eA(l:List Signed)(c:Text):Int:=if aq l ⟨c,6⟩<0 then aq l ⟨c,8⟩else aq l ⟨c,6⟩
def x8(l:List Signed)(c:Text):List Datum:=match l[(aq l ⟨c,2⟩).toNat]? with
 |some s=>s.set.data
 |none=>[]
def lP(l:List Signed)(c:Text):List Int:=((x8 l c).filter fun d=>Nm.under d.text c).map fun d=>aq l ⟨d.text,1⟩
def gX(l:List Signed)(c:Text):List Int:=b8 (aq l ⟨c,2⟩::eA l c::lP l c)
def fY(z:aQ)(q:aG):iI :=
 if 0<=aq z.ab q then⟨1,bN z.ab [aq z.ab q],[]⟩
 else if 0<=aq z.ab ⟨q.name,3⟩/\q.type≠8 then⟨3,bN z.ab [aq z.ab ⟨q.name,3⟩],[]⟩
 else if gG z.ab q.name then⟨5,bN z.ab (b8 [aq z.ab ⟨z.ad,4⟩,cJ z.ab q.name]),[]⟩
 else match pc z.ab q.name with
  |none=>⟨6,bN z.ab (b8 [aq z.ab ⟨z.ad,4⟩,cJ z.ab q.name]),[]⟩
  |some w =>
   if 0<=aq z.ab ⟨w,q.type⟩then⟨2,bN z.ab (b8 [aq z.ab ⟨w,q.type⟩,cJ z.ab q.name]),[]⟩
   else if 0<=aq z.ab ⟨w,3⟩/\q.type≠8 then⟨3,bN z.ab (b8 [aq z.ab ⟨w,3⟩,cJ z.ab q.name]),[]⟩
   else if gG z.ab w then⟨5,bN z.ab (b8 [aq z.ab ⟨z.ad,4⟩,cJ z.ab q.name,cJ z.ab w]),[]⟩
   else⟨6,bN z.ab (b8 [aq z.ab ⟨z.ad,4⟩,cJ z.ab q.name,cJ z.ab w]),[]⟩
def bK(z:aQ)(q:aG):iI :=
 if Nm.under q.name z.ad then
  match gW z q.name with
  |some c=>if q.name=c/\(q.type=6\/q.type=8)then fY z q else⟨4,bN z.ab (gX z.ab c),c⟩
  |none=>fY z q
 else⟨7,[],[]⟩
def dV(q:aG):Bool:=Nm.valid q.name&&(decide (1<=q.type)&&decide (q.type<=8))
def kX(z:aQ)(q:aG):Int:=if eF z&&dV q then 0 else 1
def mr(z:aQ)(q:aG):iI:=if kX z q=0 then bK z q else⟨0,[],[]⟩
structure eH(z:aQ):Prop where
 sorted:fj z.ab
 names:∀ s∈z.ab,Nm.valid s.set.name=true
 ab:∀ s∈z.ab,fg s.set=true
 ad:Nm.valid z.ad=true
 under:∀ s∈z.ab,Nm.under s.set.name z.ad=true
 len:z.ab.length<=20000
 start:0<=aq z.ab ⟨z.ad,4⟩
 db:∀ c∈bO z.ad z.ab,∀ d∈bO z.ad z.ab,∀ n,Nm.under n c=true->Nm.under n d=true->c=d
theorem kY{z:aQ}(h:eF z=true):eH z:=by
 have h0:=h;simp only[eF,Bool.and_eq_true]at h;obtain⟨h1,-,-,h4,-⟩:=h;obtain⟨hs,hv,hn⟩:=Hu h1;obtain⟨hl,aO,AN⟩:=vE h1;have aM:∀ s∈z.ab,s.set.name≠[]:=fun s h=>(hn s h).1;have hA:=Oa (ad:=z.ad) (Dj hs);obtain⟨g1,g2,g3⟩:=N4 _ hA;have O5:∀ c∈bO z.ad z.ab,c≠[]:=fun c hc=>by
  obtain⟨s,h,rfl,-⟩:=nZ hc;exact aM s h
 have aX:∀ c∈bO z.ad z.ab,c∈([]:List Text)++z.ab.map (·.set.name):=fun c hc=>by
  obtain⟨s,h,rfl,-⟩:=nZ hc
  simpa using⟨s,h,rfl⟩
 have bQ:=OY g1 g2 xD g3 O5 (z.ab.map (·.set.name)) [] [] 0 (by simpa using Dj hs) aX (Nat.zero_le _) rfl (fun m d hm=>by omega);have dX:∀ c∈bO z.ad z.ab,c∈fy (bO z.ad z.ab):=fun c hc=>by
  obtain⟨s,Yb,rfl,hcut⟩:=nZ hc;obtain⟨i,hi⟩:=List.getElem?_of_mem Yb;have ai:=a7 hi;obtain⟨b,hb⟩:=bd (l:=jh z) (k:=i) (by rw[tf];exact ai);have hF:=bQ i s.set.name b (by simp[hi]) hb;obtain⟨d,hd,hu⟩:=g3 _ hc;rcases hF with⟨k1,k2⟩|⟨-,k2⟩
  ·have hz:=List.all_eq_true.1 h4 (s,b) (List.mem_of_getElem? (xF hi hb));have iy:b≠[]:=O5 b (xD b k1);have ht:s.set.type=2:=by
    simp only[iH,Bool.and_eq_true,beq_iff_eq]at hcut;exact hcut.1
   simp only[p9,Bool.and_eq_true]at hz;have h5:=hz.1.1;simp[iy,ht]at h5;rw[h5];exact k1
  ·rw[k2 d hd]at hu;cases hu
 obtain⟨k,s,d,e1,-⟩:=Ic h0;refine⟨hs,hv,fun s h=>?_,AN,fun s h=>?_,hl,by rw[e1];omega,fun c hc d hd n dW o6=>N5 g1 g2 (dX c hc) (dX d hd) dW o6⟩
 ·have:=aO s h;simp only[fF,Bool.and_eq_true]at this;exact this.1
 ·have:=aO s h;simp only[fF,Bool.and_eq_true]at this;exact this.2
theorem eH.O6{z:aQ}(V:eH z):gG z.ab z.ad=true:=by
 obtain⟨s,h1,h2⟩:=jN V.start;exact List.any_eq_true.2 ⟨s,List.mem_of_getElem? h1,V.under s (List.mem_of_getElem? h1)⟩
end Go.Proofs.YtcmnpelmmekdkaaGreatDoor.P
end
section
namespace Go.Proofs.YtcmnpelmmekdkaaGreatDoor.P
open Go Go.aA
set_option maxRecDepth 100000
set_option maxHeartbeats 4000000
theorem Dr(t:Text):(Nm.back ⟨t.toArray⟩).length=(Nm.labels t).length:=by simp[Nm.back,ki]
theorem Yc{t:Text}{i:Nat}{x:Text}(h:(Nm.labels t)[i]?=some x):(Nm.back ⟨t.toArray⟩)[(Nm.labels t).length-1-i]?=some ⟨x.toArray⟩:=by
 have hi:=a7 h;simp only[Nm.back,ki,List.getElem?_map];rw[List.getElem?_reverse (by omega),show(Nm.labels t).length-1-((Nm.labels t).length-1-i)=i by omega,h];rfl
def vN(t:Text):DV:=if Nm.valid t then .aK [.sl ((Nm.labels t).map .str),.int .i64 0]else .aK [.aW,.int .i64 11]
theorem O7(t:Text)(ht:t.length<=maxLen):az E 153 [.str t] (· = vN t):=by
 unfold az;refine⟨⟨_,Tryz.func153,rfl,by decide⟩,fun ak w vs eU _ hv=>?_⟩;obtain⟨hl,hv⟩:=hv;obtain⟨v,rfl⟩:∃ v,vs=[v]:=by
  cases vs with
  |nil=>simp at hl
  |cons v r=>cases r with
   |nil=>exact⟨v,rfl⟩
   |cons u r=>simp at hl
 have:=hv 0 (.str t) v rfl rfl;cases this;cases h:Nm.valid t
 ·refine(WY ⟨t.toArray⟩ w (size_mk ht) (by rw[ki];exact h)).mono fun e w' ⟨h1,h2⟩=>⟨_,vN t,h1,rfl,?_,h2⟩;simp only[vN,h]
  exact .aK _ _ rfl (fun j x v hx hv=>by
   match j with
   |0=>simp at hx hv;subst hx;subst hv;exact .aW
   |1=>simp at hx hv;subst hx;subst hv;exact .int _ _
   |j+2=>simp at hx)
 ·refine(WT ⟨t.toArray⟩ w (by rw[ki];exact h)).mono fun e w' ⟨B,k,hk,h1,h2,hB,dH⟩=>⟨_,vN t,h1,rfl,?_,h2⟩;simp only[vN,h,if_true];refine .aK _ _ rfl (fun j x v hx hv=>?_)
  match j with
  |0 =>
   simp at hx hv;subst hx;subst hv;cases jB:Nm.labels t with
   |nil =>
    rw[Dr,jB];exact .lg _
   |cons y ys =>
    have aM:Nm.back ⟨t.toArray⟩≠[]:=by
     intro h0;have:=Dr t;rw[h0,jB]at this;simp at this
    have O8:=hk aM;rw[Dr]at O8;have e1:(Nm.back ⟨t.toArray⟩).length=((Nm.labels t).map DV.str).length:=by rw[Dr];simp
    rw[e1,<- jB];have cj:∀ (i j:Nat) (e x:DV),((Nm.labels t).map DV.str)[i]?=some e->e.cells[j]?=some x->∃ y,(Nm.labels t)[i]?=some y/\x=.str y/\j=0:=fun i j e x he hx=>by
     simp only[List.getElem?_map,Option.map_eq_some_iff]at he;obtain⟨y,hy,rfl⟩:=he
     match j with
     |0=>simp[DV.cells]at hx;exact⟨y,hy,hx.symm,rfl⟩
     |j+1=>simp[DV.cells]at hx
    refine .sl _ B k _ 1 (fun i _=>match (Nm.labels t)[i]? with|some y => .string ⟨y.toArray⟩|none=>undef) (fun _ hb=>by have:=eU B hb;omega) (by omega) (Nat.le_refl _) (fun i e he=>?_) (fun i j e x he hx=>?_) (fun i j e x he hx=>?_) (fun i j e x he hx=>?_)
    ·simp only[List.getElem?_map,Option.map_eq_some_iff]at he;obtain⟨y,hy,rfl⟩:=he;rfl
    ·obtain⟨y,hy,rfl,rfl⟩:=cj i j e x he hx;have hi:=a7 hy;have:=dH _ _ (Yc hy);simp only[hy];rw[show k+(i*1+0)=7-((Nm.labels t).length-1-i) by omega];exact this
    ·obtain⟨y,hy,rfl,rfl⟩:=cj i j e x he hx;simp only[hy];exact .str y
    ·obtain⟨y,hy,rfl,rfl⟩:=cj i j e x he hx;simp only[hy];rfl
  |1=>simp at hx hv;subst hx;subst hv;exact .int _ _
  |j+2=>simp at hx
def vO(t:Text):Bool:=Nm.valid t&&rI t
theorem O9(t:Text)(ht:t.length<=maxLen):az E 106 [.str t] (· = .bool (vO t)):=by
 have mu:=O7 t ht;unfold vN at mu;cases h:Nm.valid t
 ·simp only[h,Bool.false_eq_true,if_false]at mu;refine eP F106 ?_
  with_reducible refine aj (mu) ?_
  refine gO F106 ?_;refine aV ?_;refine gO F106 ?_;simp[vO,h]
 ·simp only[h,if_true]at mu;refine eP F106 ?_
  with_reducible refine aj (mu) ?_
  refine gO F106 ?_;cases hl:Nm.labels t with
  |nil =>
   refine aP rfl ?_;refine gO F106 ?_;simp[vO,rI,h,hl]
  |cons y ys =>
   have hy:(y::ys)[0]?=some y:=rfl;refine aJ (by simp) ?_;refine gO F106 ?_;refine aD (e := .str y) (te hy) rfl ?_;refine gO F106 ?_;simp[vO,rI,h,hl]
def ku(n:Int):Bool:=decide (1<=n)&&decide (n<=1000000)
theorem Ij(n:Int):az E 107 [.int .i64 n] (· = .bool (ku n)):=by
 refine eP Tryz.func107 ?_;repeat' (first|with_reducible(first|refine cY ?_|refine cN ?_|refine ar (fun _=>?_) (fun _=>?_))|refine gA Tryz.func107 ?_|refine gB ?_|refine gC ?_|with_reducible rfl)
 all_goals (simp_all[ku]<;>omega)
theorem Ds(a b:Int):fc (.int .i64 a) (.int .i64 b)=(a==b):=rfl
def x9(es:List (DV × DV)):Prop:=∀ p∈es,∃ s,p.1=DV.int .i64 s
theorem O'{n:Int}{v:DV}:∀ {es:List (DV × DV)},x9 es->x9 (cx (.int .i64 n) v es)
 |[],_,p,hp=>by simp[cx]at hp;subst hp;exact⟨_,rfl⟩
 |q::es,h,p,hp=>by
  unfold cx at hp;split at hp
  ·rcases List.mem_cons.1 hp with rfl|hp
   ·exact⟨_,rfl⟩
   ·exact h p (List.mem_cons_of_mem _ hp)
  ·rcases List.mem_cons.1 hp with rfl|hp
   ·exact h _ (List.mem_cons_self ..)
   ·exact O' (fun r hr=>h r (List.mem_cons_of_mem _ hr)) p hp
theorem Pb{n m:Int}{v:DV}:∀ {es:List (DV × DV)},x9 es->findD (.int .i64 m) (cx (.int .i64 n) v es)=if m==n then some v else findD (.int .i64 m) es
 |[],_=>by simp[cx,findD,Ds]
 |q::es,h=>by
  obtain⟨s,hs⟩:=h q (List.mem_cons_self ..);obtain⟨q1,q2⟩:=q;simp only at hs;subst hs;unfold cx;simp only[Ds];by_cases e:n=s
  ·subst e;simp only[beq_self_eq_true,if_true,findD,Ds];by_cases e2:m=n
   ·simp[e2]
   ·simp[e2]
  ·have ih:=Pb (n:=n) (m:=m) (v:=v) (es:=es) (fun r hr=>h r (List.mem_cons_of_mem _ hr));have e':(n==s)=false:=by simpa using e
   simp only[e',Bool.false_eq_true,if_false,findD,Ds,ih];by_cases e2:m=s
   ·subst e2;have:(m==n)=false:=by simpa using fun h=>e h.symm
    simp[this]
   ·simp[e2]
def mv(x:Host):Bool:=Nm.valid x.name && !vO x.name&&decide (0<=x.owner)&&decide (x.owner<32)&&ku x.addr
def jn(l:List Host):Bool:=decide (l.length<=64)&&l.all mv&&decide ((l.map (·.addr)).Nodup)
def vP(l:List Host):List (DV × DV):=l.foldl (fun es x=>cx (.int .i64 x.addr) (.bool true) es) []
theorem Yd{l:List Host}{k:Nat}{x:Host}(h:l[k]?=some x):vP (l.take (k+1))=cx (.int .i64 x.addr) (.bool true) (vP (l.take k)):=by
 rw[ey h,vP,List.foldl_append];rfl
theorem Pc(l:List Host):x9 (vP l)/\∀ n,findD (.int .i64 n) (vP l)=if n∈l.map (·.addr)then some (.bool true)else none:=by
 have main:∀ (l:List Host) (es:List (DV × DV)) (C:List Int),x9 es->(∀ n,findD (.int .i64 n) es=if n∈C then some (.bool true)else none) ->
   x9 (l.foldl (fun es x=>cx (.int .i64 x.addr) (.bool true) es) es)/\∀ n,findD (.int .i64 n) (l.foldl (fun es x=>cx (.int .i64 x.addr) (.bool true) es) es)=if n∈C++l.map (·.addr)then some (.bool true)else none:=by
  intro l
  induction l with
  |nil=>intro es C h1 h2;exact⟨h1,by simpa using h2⟩
  |cons s l ih =>
   intro es C h1 h2
   have:=ih (cx (.int .i64 s.addr) (.bool true) es) (C++[s.addr]) (O' h1) (fun n=>by
    rw[Pb h1,h2 n];by_cases h:n=s.addr
    ·simp[h]
    ·simp[h])
   simpa using this
 have:=main l [] [] (fun p hp=>by simp at hp) (fun n=>by simp[findD])
 simpa [vP]using this
theorem Ik{l:List Host}{k:Nat}{x:Host}(hx:l[k]?=some x)(h:mv x=false):jn l=false:=by
 have:l.all mv=false:=by
  cases ha:l.all mv
  ·rfl
  ·rw[List.all_eq_true.1 ha x (List.mem_of_getElem? hx)]at h;cases h
 simp[jn,this]
theorem Pd(l:List Host)(hn:∀ x∈l,x.name.length<=maxLen):az E 69 [.sl (l.map Host.enc)] (· = .bool (jn l)):=by
 refine eP F69 ?_;refine ar (fun h1=>?_) (fun h1=>?_)
 ·refine gO F69 ?_;have:jn l=false:=by simp[jn];simp at h1;omega
  rw[this]
 ·have hlen:l.length<=64:=by simp at h1;omega
  refine gO F69 ?_;refine gO F69 ?_;refine aa.loop (κ:=Nat) ([2,5]++rg 12 37) (fun k=>[(12,.d (.int .i64 k)),(2,.d (.bool false)),(3,.map 0)]) (fun k=>[(0,.map (vP (l.take k)))]) (fun k=>k<=l.length/\(l.take k).all mv=true/\((l.take k).map (·.addr)).Nodup) (fun k=>l.length-k) 0 ⟨Nat.zero_le _,rfl,by simp⟩ ?_ ?_
  ·(conv=>whnf);repeat (first|exact trivial|(refine And.intro (by first|with_reducible rfl|exact congrArg (DV.int .i64) (by omega)|exact rfl|exact congrArg (DV.int .i64) (wrap64 (by omega) (by omega))|exact congrArg (DV.int .i64) ((wrap64 (by omega) (by omega)).trans (by omega))) ?_;conv=>whnf))
  rintro k ⟨hk,aX,fE⟩ IH;refine aa.head ag F69 2000 ?_;(conv=>whnf);refine ar (fun h5=>?_) (fun h5=>?_)
  ·have ai:k<l.length:=by simpa using h5
   obtain⟨x,hx⟩:=bd ai;have bj:=hn x (List.mem_of_getElem? hx);refine gO F69 ?_;refine aD (e:=x.enc) (aU hx) rfl ?_;refine gO F69 ?_;repeat' (first|with_reducible(first|refine aj (lL x.name bj) ?_|refine bl (lL x.name bj) ?_|refine aj (O9 x.name bj) ?_|refine bl (O9 x.name bj) ?_|refine aj (Ij x.addr) ?_|refine bl (Ij x.addr) ?_|refine cY ?_|refine cN ?_|refine ar (fun _=>?_) (fun _=>?_))|refine gA F69 ?_|refine gB ?_|refine gC ?_|with_reducible rfl)
   all_goals try (rw[Ik hx (by simp_all[mv]<;>omega)];done)
   have dq:=(Pc (l.take k)).2 x.addr;have nk:=(Pc (l.take k)).1;have hb:mv x=true:=by simp_all[mv]
   refine jx (.bool false) (.bool false) (v := .bool (decide (x.addr∈(l.take k).map (·.addr)))) (f:=decide (x.addr∈(l.take k).map (·.addr))) ⟨_,rfl⟩ nk (fun w=>by kernel_rfl) (fun _ _ => .bool _) (by rw[dq];split<;>simp_all) (by rw[dq];split<;>simp_all) ?_;refine gO F69 ?_;refine ar (fun h9=>?_) (fun h9=>?_)
   ·refine gO F69 ?_;have hm:x.addr∈(l.take k).map (·.addr):=by simpa using h9
    have:jn l=false:=by
     have qQ:¬ (l.map (·.addr)).Nodup:=fun jL=>by
      obtain⟨y,hy,e⟩:=List.mem_map.1 hm;obtain⟨j,hj⟩:=List.getElem?_of_mem hy;rw[List.getElem?_take]at hj;split at hj
      ·rename_i zi;obtain⟨p1,e1⟩:=List.getElem?_eq_some_iff.1 hx;obtain⟨p2,e2⟩:=List.getElem?_eq_some_iff.1 hj;have:=List.pairwise_iff_getElem.1 (List.nodup_iff_pairwise_ne.1 jL) j k (by simpa using p2) (by simpa using p1) zi;apply this;simp[e1,e2,e]
      ·cases hj
     simp[jn,qQ]
    rw[this]
   ·have hm:x.addr ∉ (l.take k).map (·.addr):=by simpa using h9
    refine gO F69 ?_;refine bB ⟨⟨_,rfl⟩,nk⟩ ?_;refine gO F69 ?_;refine aa.back (IH (k+1) ⟨by omega,jI aX hx hb,?_⟩ (by omega)) ?_
    ·rw[ey hx,List.map_append,List.nodup_append];refine⟨fE,by simp,fun a ha b tC e=>?_⟩;simp at tC;subst tC;subst e;exact hm ha
    ·(conv=>whnf);repeat (first|exact trivial|(refine sI ?_;conv=>whnf))
     refine And.intro (Yd hx).symm ?_;exact sZ
  ·have aL:l.length<=k:=by simpa using h5
   rw[List.take_of_length_le aL]at aX fE;refine gO F69 ?_;simp[jn,aX,fE,hlen]
theorem Ye(n:Int):az E 110 [.int .i64 n] (· = .bool (!ku n)):=by
 refine eP Tryz.func110 ?_
 with_reducible refine aj (Ij n) ?_
 refine gO Tryz.func110 ?_
 with_reducible rfl
theorem Yf(l:List Int)(hl:l.length<=1000000):aB E 170 [] [.d (.sl (l.map (.int .i64))),.fn (.func 110) [] []] (fun a b=>∃ n:Int,a=.d (.int .i64 n)/\b=[]/\(0<=n↔l.all ku=false)):=by
 refine aB.run ag (fn:=Tryz.f170) Tryz.func170 (body:=Tryz.f170.body.getD .skip) rfl (by decide) 2000 rfl ?_;(conv=>whnf);refine aa.loop (κ:=Nat) ([4,5]++rg 8 11) (fun k=>[(8,.d (.int .i64 k))]) (fun _=>[]) (fun k=>k<=l.length/\(l.take k).all ku=true) (fun k=>l.length-k) 0 ⟨Nat.zero_le _,rfl⟩ ?_ ?_
 ·exact sZ
 rintro k ⟨hk,aX⟩ IH;refine aa.head ag F170 2000 ?_;(conv=>whnf);refine ar (fun h5=>?_) (fun h5=>?_)
 ·have ai:k<l.length:=by simpa using h5
  obtain⟨x,hx⟩:=bd ai;refine gO F170 ?_;refine aD (e := .int .i64 x) (aU hx) rfl ?_;refine gO F170 ?_
  with_reducible refine aj (Ye x) ?_
  refine gO F170 ?_;refine ar (fun h6=>?_) (fun h6=>?_)
  ·refine gO F170 ?_;refine⟨k,rfl,rfl,?_⟩;have:l.all ku=false:=by
    cases ha:l.all ku
    ·rfl
    ·have:=List.all_eq_true.1 ha x (List.mem_of_getElem? hx);simp[this]at h6
   simp[this]
  ·refine gO F170 ?_;refine aa.back (IH (k+1) ⟨by omega,jI aX hx (by simpa using h6)⟩ (by omega)) ?_;exact sZ
 ·have aL:l.length<=k:=by simpa using h5
  rw[List.take_of_length_le aL]at aX;refine gO F170 ?_;exact⟨_,rfl,rfl,by simp[aX]⟩
theorem Yg(l:List Int)(hl:l.length<=1000000):aB E 109 [] [.d (.sl (l.map (.int .i64))),.fn (.func 110) [] []] (fun a b=>a=.d (.bool (!l.all ku))/\b=[]):=by
 refine aB.run ag (fn:=Tryz.f109) Tryz.func109 (body:=Tryz.f109.body.getD .skip) rfl (by decide) 2000 rfl ?_;(conv=>whnf);refine sN (Yf l hl) ?_;rintro r b ⟨n,rfl,rfl,h⟩;refine gO Tryz.func109 ?_;cases ha:l.all ku
 ·simp[h.2 ha]
 ·have:¬ 0<=n:=fun h0=>by rw[h.1 h0]at ha;cases ha
  simp;omega
def oe(a:eM)(l:List Int):Bool:=fg a&&decide (a.type=6)&&decide (a.name=[46])&&decide (1<=l.length)&&decide (l.length<=8)&&l.all ku
theorem Pe(a:eM)(l:List Int)(hf:a.Fits)(hl:l.length<=maxLen):az E 71 [a.enc,.sl (l.map (.int .i64))] (· = .bool (oe a l)):=by
 refine eP Tryz.func71 ?_;repeat' (first|with_reducible(first|refine aj (CT a hf) ?_|refine bl (CT a hf) ?_|refine cY ?_|refine cN ?_|refine ar (fun _=>?_) (fun _=>?_))|refine gA Tryz.func71 ?_|refine gB ?_|refine gC ?_|with_reducible rfl)
 all_goals try (simp_all[oe]<;>omega;done)
 rename_i h1 h2 h3 h4 h5;refine sN (Yg l (by simp at h5;omega)) ?_;rintro r b ⟨rfl,rfl⟩;refine gO Tryz.func71 ?_;have e1:fg a=true:=by simpa using h1
 have e2:a.type=6:=by simpa using h2
 have e3:a.name=[46]:=by simpa using h3
 have e4:1<=l.length:=by simp at h4;omega
 have e5:l.length<=8:=by simp at h5;omega
 simp[oe,e1,e2,e3,e4,e5]
end Go.Proofs.YtcmnpelmmekdkaaGreatDoor.P
end
section
namespace Go.Proofs.YtcmnpelmmekdkaaGreatDoor.P
open Go Go.aA
set_option maxRecDepth 100000
set_option maxHeartbeats 4000000
set_option linter.unusedSectionVars false
section
variable {α:Type} [DecidableEq α] {en:α->DV}
def lQ(en:α->DV)(es:List (DV × DV)):Prop:=∀ p∈es,∃ a,p.1=en a
theorem Dt{b:α}{v:DV}:∀ {es:List (DV × DV)},lQ en es->lQ en (cx (en b) v es)
 |[],_,p,hp=>by simp[cx]at hp;subst hp;exact⟨_,rfl⟩
 |q::es,h,p,hp=>by
  unfold cx at hp;split at hp
  ·rcases List.mem_cons.1 hp with rfl|hp
   ·exact⟨_,rfl⟩
   ·exact h p (List.mem_cons_of_mem _ hp)
  ·rcases List.mem_cons.1 hp with rfl|hp
   ·exact h _ (List.mem_cons_self ..)
   ·exact Dt (fun r hr=>h r (List.mem_cons_of_mem _ hr)) p hp
theorem Du(hk:∀ a b,fc (en a) (en b)=decide (a=b)){a b:α}{v:DV}:∀ {es:List (DV × DV)},lQ en es->findD (en a) (cx (en b) v es)=if a=b then some v else findD (en a) es
 |[],_=>by simp[cx,findD,hk]
 |q::es,h=>by
  obtain⟨s,hs⟩:=h q (List.mem_cons_self ..);obtain⟨q1,q2⟩:=q;simp only at hs;subst hs;unfold cx;simp only[hk];by_cases e:b=s
  ·subst e;simp only[decide_true,if_true,findD,hk];by_cases e2:a=b
   ·simp[e2]
   ·simp[e2]
  ·have ih:=Du hk (a:=a) (b:=b) (v:=v) (es:=es) (fun r hr=>h r (List.mem_cons_of_mem _ hr));simp only[e,decide_false,Bool.false_eq_true,if_false,findD,hk,ih];by_cases e2:a=s
   ·subst e2;have:¬ a=b:=fun h=>e h.symm;simp[this]
   ·simp[e2]
def fZ(en:α->DV)(l:List α):List (DV × DV):=l.foldl (fun es x=>cx (en x) (.bool true) es) []
theorem Pf{l:List α}{k:Nat}{x:α}(h:l[k]?=some x):fZ en (l.take (k+1))=cx (en x) (.bool true) (fZ en (l.take k)):=by
 rw[ey h,fZ,List.foldl_append];rfl
theorem AO(l:List α)(x:α):fZ en (l++[x])=cx (en x) (.bool true) (fZ en l):=by
 rw[fZ,List.foldl_append];rfl
theorem tD(hk:∀ a b,fc (en a) (en b)=decide (a=b))(l:List α):lQ en (fZ en l)/\∀ a,findD (en a) (fZ en l)=if a∈l then some (.bool true)else none:=by
 have main:∀ (l:List α) (es:List (DV × DV)) (C:List α),lQ en es->(∀ n,findD (en n) es=if n∈C then some (.bool true)else none) ->
   lQ en (l.foldl (fun es x=>cx (en x) (.bool true) es) es)/\∀ n,findD (en n) (l.foldl (fun es x=>cx (en x) (.bool true) es) es)=if n∈C++l then some (.bool true)else none:=by
  intro l
  induction l with
  |nil=>intro es C h1 h2;exact⟨h1,by simpa using h2⟩
  |cons s l ih =>
   intro es C h1 h2
   have:=ih (cx (en s) (.bool true) es) (C++[s]) (Dt h1) (fun n=>by
    rw[Du hk h1,h2 n];by_cases h:n=s
    ·simp[h]
    ·simp[h])
   simpa using this
 have:=main l [] [] (fun p hp=>by simp at hp) (fun n=>by simp[findD])
 simpa [fZ]using this
theorem Dv(hk:∀ a b,fc (en a) (en b)=decide (a=b))(l:List α)(a:α):(findD (en a) (fZ en l)).getD (.bool false)=.bool (decide (a∈l))/\(findD (en a) (fZ en l)).isSome=decide (a∈l):=by
 rw[(tD hk l).2 a];split<;>simp_all
def fO:List α->List α->List α
 |acc,[]=>acc
 |acc,x::l=>fO (if x∈acc then acc else acc++[x]) l
theorem Pg(acc l:List α)(x:α):fO acc (l++[x])=if x∈fO acc l then fO acc l else fO acc l++[x]:=by
 induction l generalizing acc with
 |nil=>rfl
 |cons y l ih =>
  show fO _ (l++[x])=_;rw[ih];rfl
theorem AP{x:α}:∀ {l acc:List α},x∈fO acc l↔x∈acc\/x∈l
 |[],acc=>by simp[fO]
 |y::l,acc=>by
  rw[fO,AP (l:=l)];split
  ·rename_i h;constructor
   ·rintro(h1|h1)
    ·exact .inl h1
    ·exact .inr (List.mem_cons_of_mem _ h1)
   ·rintro(h1|h1)
    ·exact .inl h1
    ·rcases List.mem_cons.1 h1 with rfl|h1
     ·exact .inl h
     ·exact .inr h1
  ·simp[or_assoc]
theorem Il:∀ {l acc:List α},acc.Nodup->(fO acc l).Nodup
 |[],_,h=>h
 |y::l,acc,h=>by
  rw[fO];refine Il ?_;split
  ·exact h
  ·rename_i hy;rw[List.nodup_append];exact⟨h,by simp,fun a ha b hb e=>by simp at hb;subst hb;subst e;exact hy ha⟩
theorem Im:∀ {l acc:List α},(fO acc l).length<=acc.length+l.length
 |[],_=>by simp[fO]
 |y::l,acc=>by
  rw[fO];refine Nat.le_trans Im ?_;split<;>simp<;>omega
theorem Ph{l:List α}{k:Nat}{x:α}(h:l[k]?=some x):fO [] (l.take (k+1))=if x∈l.take k then fO [] (l.take k)else fO [] (l.take k)++[x]:=by
 rw[ey h,Pg];have:=AP (x:=x) (l:=l.take k) (acc:=[]);simp only[List.not_mem_nil,false_or]at this;by_cases hx:x∈l.take k
 ·rw[if_pos hx,if_pos (this.2 hx)]
 ·rw[if_neg hx,if_neg (fun h=>hx (this.1 h))]
end
theorem rV(a b:Text):fc (.str a) (.str b)=decide (a=b):=by
 show(a==b)=_;rw[Bool.eq_iff_iff];simp
theorem Pj(a b:Int):fc (.int .i64 a) (.int .i64 b)=decide (a=b):=by
 show(a==b)=_;rw[Bool.eq_iff_iff];simp
abbrev qm:=Int × Text
@[reducible] def qm.en (p : qm) : DV := .agg [.int .i64 p.1, .str p.2]
theorem Pk(a b:qm):fc (qm.en a) (qm.en b)=decide (a=b):=by
 show(((a.1==b.1))&&((a.2==b.2)&&true))=_;rw[Bool.eq_iff_iff];simp[Prod.ext_iff]
end Go.Proofs.YtcmnpelmmekdkaaGreatDoor.P
end
section
namespace Go.aA
open Go Go.RowKit
section
variable {E:Env} {s:List AV} {h:List af}
theorem Pl{t:Nat}{x:Operand}{n:Int}{kt et:TypeId}(hu:E.P.underlying t=some (.map kt et))(hx:bh E.G s x (.d (.int .i64 n))):aZ E (.makeMap t (some x)) s h (.map h.length) (h++[.map []]):=fun o c ac h1 h2 h3 h4=>by
 subst h2;have hv:=hx c ac h3 h4;obtain⟨k1,k2⟩:=h3.add (.map []) 0 (.map #[] 0);have bJ:(c.add (.map []) 0 (.map #[] 0)).own c.heap.length=some (c.w.heap.size,0):=by simp[Cx.add]
 have kE:(c.add (.map []) 0 (.map #[] 0)).heap[c.heap.length]?=some (.map []):=by simp[Cx.add]
 refine⟨_,.map (some c.w.heap.size),.inl ?_,rfl,k2 ⟨c.w.heap.size,0,#[],0,bJ,heap_alloc_new _ _,⟨rfl,by simp,by simp,by simp,rfl⟩,fun j k x m hj=>by simp at hj⟩,.map c.heap.length [] c.w.heap.size 0 kE bJ,k1⟩;generalize vg:ac.eval x=u at hv;cases hv with
 |d _ _ hv =>
  cases hv;simp only[execOp,h1,Option.map_some,vg,Instr.makeMap,Sem.run_bind,Sem.run_pure,run_underlying hu,Result.andThen_ok];rfl
end
section
variable {E:Env} {ae:FuncId} {R:bZ} {ops:Array Oper} {k:List aI} {F:List Nat} {n:Nat} {B:List Nat} {X:List af} {lits:List Nat} {j:Nat} {o:Oper} {l:List Oper} {s:List AV} {h:List af}
theorem aS.Pm{t:Nat}{x:Operand}{m:Int}{kt et:TypeId}(hF:bW j F=false)(hg:o.guard=none)(bX:o.op=.makeMap t (some x))(hu:E.P.underlying t=some (.map kt et))(hx:bh E.G (bY (ca ops o) 0 s) x (.d (.int .i64 m)))
  (H:lY h (.map []) 0 fun h' m=>cS n B 0 h'=X/\bL s o.dst (.map m) fun s'=>aS E ae R ops k F n B X lits (j+1) l s' h'):aS E ae R ops k F n B X lits j (o::l) s h:=by
 rw[nB,df,Nat.zero_add]at H;obtain⟨H1,H⟩:=H;unfold aS;unfold fM;rw[hF];exact⟨_,_,dm.of (eK hg) (bX ▸ Pl hu hx),fun t e=>(by rw[bX]at e;cases e),H1,H.to⟩
theorem aa.Pm{t:Nat}{x:Operand}{m:Int}{kt et:TypeId}{k:List aI}(hg:o.guard=none)(bX:o.op=.makeMap t (some x))(hu:E.P.underlying t=some (.map kt et))(hx:bh E.G s x (.d (.int .i64 m)))
  (H:lY h (.map []) 0 fun h' m=>bL s o.dst (.map m) fun s'=>aa E ae R lits (.bF ops l::k) s' h'):aa E ae R lits (.bF ops (o::l)::k) s h:=by
 rw[nB,df,Nat.zero_add]at H;exact .of (.op (eK hg) (v := .map h.length) (h':=h++[.map []]) (bX ▸ Pl hu hx) H.to)
end
end Go.aA
end
