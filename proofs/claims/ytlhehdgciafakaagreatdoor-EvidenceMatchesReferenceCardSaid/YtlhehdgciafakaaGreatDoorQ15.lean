/- Lemmas of mine. Conditions: as stated. -/
import Derived.Test.YtlhehdgciafakaaGreatDoorQ13
set_option linter.unusedVariables false
set_option linter.unusedSimpArgs false
open Bool renaming true_and->aja
open List renaming take_of_length_le->ajq,getElem?_take->ahS,mem_of_getElem?->aiQ,range->ais,take_length->akR,map_append->aih,getElem?_map->ahy,mem_range->ajY
open Nat renaming zero_le->ai4,le_refl->ahL
open Option renaming getD_some->ah8
section
namespace Go.az
open Go Go.RowKit
section
variable {E:Env} {s:List AV} {h:List ae} {c:Cx} {G:List (Nat × DV)} {P:Program}
end
theorem Cl{P Q:Prop}(h:P->Q)(p:P):Q:=h p
section
variable {E:Env} {aj:FuncId} {R:cT} {td:List aY} {s:List AV} {h:List ae}
theorem I.forget{lits:List Nat}(fm ks:List Nat)(vars:List (Nat × AV))(boxes:List (Nat × ae))(hs:rC fm ks vars boxes s h fun s' h'=>uT h h' R.fx (uS R.n h s h' s'))
  (H:rC fm ks vars boxes s h fun s' h'=>I E aj R [] td s' h'):I E aj R lits td s h:=by
 rw[yY]at hs H;exact .of (.weaken hs H.to)
end
section
variable {E:Env} {s:List AV} {h:List ae} {c:Cx} {G:List (Nat × DV)}
theorem aO.rest(h3:aO G c){b g:Nat}{ts:Nat × Nat}{l:List DV}(hb:c.heap[b]?=some (.arr g ts l)):∃ c':Cx,c'.heap=c.heap.set b .gone/\c'.w=c.w/\aO G c'/\Step c c'/\∀ v,VR c (.own b g) v->VR c' (.d (.sl l)) v:=by
 have fE:=aW hb
 let c':Cx:={ c with own:=fun i=>if i=b then none else c.own i,heap:=c.heap.set b .gone }
 have fT:c'.heap[b]?=some .gone:=by show(c.heap.set b .gone)[b]?=_;rw[List.getElem?_set_self fE]
 have ly:∀ i,i≠b->c'.heap[i]?=c.heap[i]? := fun i hi=>by show(c.heap.set b .gone)[i]?=_;rw[List.getElem?_set_ne (Ne.symm hi)]
 have bN:∀ i,i≠b->c'.own i=c.own i:=fun i hi=>by simp only[c',if_neg hi]
 have kO:∀ i p,c'.own i=some p->i≠b/\c.own i=some p:=fun i p hp=>by
  simp only[c']at hp;split at hp
  ·cases hp
  ·rename_i q;exact⟨q,hp⟩
 have bc:Step c c':=⟨rfl,h3.bV,rfl,rfl,rfl,ahL _,fun _ _ _=>rfl,fun i x n hi _=>⟨n,(kO i _ hi).2⟩,fun i bx hi=>by
  by_cases bL:i=b
  ·subst bL;cases bx with
   |cells cs=>exact .inr fT
   |arr g sz l=>exact .inr fT
   |map es=>exact .inr fT
   |gone=>exact fT
   |hole=>exact⟨_,fT⟩
  ·exact nB hi (ly i bL) (bN i bL)⟩
 refine⟨c',rfl,rfl,?_,bc,fun v hv=>?_⟩
 ·refine h3.next bc (fun i x n hi=>?_) (fun i j x n m hi hj=>h3.inj i j x n m (kO i _ hi).2 (kO j _ hj).2) (fun i bx hi=>?_)
  ·have:=h3.bD i x n (kO i _ hi).2;refine⟨this.1,?_⟩;show i<(c.heap.set b .gone).length;rw[List.length_set];exact this.2
  ·by_cases bL:i=b
   ·subst bL;right;rw[fT]at hi;cases hi;show c'.own i=none;simp[c']
   ·rw[ly i bL]at hi;exact .inl ⟨hi,bN i bL,fun _ _ _=>rfl⟩
 ·obtain⟨q0,q1,q2⟩:=h3.box b _ hb;rcases lu hb hv with⟨blk,cap,r1,rfl⟩|⟨rfl,rfl,r1⟩
  ·rcases q2 with⟨q2,-⟩|⟨jL,iV,vs,q2,q3,q4,q5,q6,q7⟩
   ·rw[r1]at q2;cases q2
   rw[r1]at q2;cases q2;refine .d _ _ (.sl l blk 0 cap ts.2 (fun i j=>(vs[i*ts.2+j]?).getD undef) (fun _ fJ=>?_) q0 q5 (fun i e he=>q1 i e he) (fun i j e x he hx=>?_) (fun i j e x he hx=>?_) (fun i j e x he hx=>?_))
   ·rcases fJ with fJ|⟨i,n,hi⟩
    ·exact h3.sep b blk cap r1 fJ
    ·obtain⟨k1,k2⟩:=kO i _ hi;exact k1 (h3.inj i b blk n cap k2 r1)
   ·obtain⟨v,p1,p2,p3⟩:=q7 i j e x he hx;rw[p1,ah8];exact mL q3 _ v (zD p1)
   ·obtain⟨v,p1,p2,p3⟩:=q7 i j e x he hx;simp only[p1,ah8];exact bc.vd p3
   ·obtain⟨v,p1,p2,p3⟩:=q7 i j e x he hx;simp only[p1,ah8];exact p2
  ·exact .d _ _ .slnil
end
end Go.az
end
section
namespace Go.Proofs.YtlhehdgciafakaaGreatDoor.P
open Go Go.az
set_option maxRecDepth 100000
set_option maxHeartbeats 4000000
theorem QX{α:Type}{l:List α}{k:Nat}{x:α}{β:Type}{f:α->β}(h:((l.take k).map f).Nodup)(hx:l[k]?=some x)(hn:∀ j y,j<k->l[j]?=some y->f y≠f x):((l.take (k+1)).map f).Nodup:=by
 rw[cj hx,aih,List.nodup_append];refine⟨h,by simp,fun a ha b hb e=>?_⟩;obtain⟨y,hy,rfl⟩:=List.mem_map.1 ha;obtain⟨j,hj⟩:=List.getElem?_of_mem hy;have qM:j<k:=by have:=aW hj;simp at this;omega
 rw[ahS,if_pos qM]at hj;simp at hb;exact hn j y qM hj (e.trans hb)
theorem QY{α:Type}{l:List α}{k j:Nat}{x y:α}{β:Type}{f:α->β}(hx:l[k]?=some x)(hy:l[j]?=some y)(hj:j<k)(e:f y=f x):¬ (l.map f).Nodup:=fun h=>by
 have h1:(l.map f)[k]?=some (f x):=by rw[ahy,hx];rfl
 have h2:(l.map f)[j]?=some (f x):=by rw[ahy,hy,<- e];rfl
 have:=(List.getElem?_inj (by simpa using aW hy) h).1 (h2.trans h1.symm);omega
def zM(s:Signed):Bool := !(decide ((s.set.data.length:Int)>20)) && !(decide ((s.sigs.length:Int)>20)) && !(decide ((s.set.name.length:Int)>100))
def vG(l:List Signed):Bool:=(l.take 61).all zM&&decide (l.length<=60)
theorem J6(l:List Signed)(hl:l.length<=maxLen):aq E 7 [.sl (l.map Signed.enc)] (· = .bool (vG l)):=by
 unfold maxLen at hl;unfold vG;refine eP F7.h ?_;refine I.lP l.length (rg 2 39) (fun k=>[(3,.d (.int .i64 k))]) (fun _=>[]) (fun k=>k<=l.length/\k<=61/\(l.take k).all zM=true) ⟨ai4 _,by omega,rfl⟩ ?_ ?_
 ·exact sZ
 rintro k ⟨hk,fq,aM⟩ IH;refine zT ?_;by_cases ai:k<l.length/\k<=60
 ·obtain⟨x,hx⟩:=aI ai.1;have no:=fun h=>dK (l:=l.take 61) (k:=k) (p:=zM) (by rw[ahS,if_pos oM];exact hx) h;have back:=fun h=>IH (k+1) ⟨by omega,by omega,ea aM hx h⟩ oM;have oS:zM x=(!(decide ((x.set.data.length:Int)>20)) && !(decide ((x.sigs.length:Int)>20)) && !(decide ((x.set.name.length:Int)>100))):=rfl;refine aN (by simp;omega) ?_;refine gC ?_;refine aN (by simp;omega) ?_;refine gC ?_;repeat' (first|with_reducible(first|refine aR (bC hx) rfl ?_|refine cX ?_|apply ah<;>intro)|refine gE ?_|with_reducible rfl)
  all_goals try (rw[no (by rw[oS];simp_all)];rfl)
  refine gC ?_;refine I.back (back (by rw[oS];simp_all)) ?_;exact sZ
 ·have e:(l.take 61).all zM=true:=by
   by_cases h:k=61
   ·rw[<- h];exact aM
   ·rw[ajq oM]at aM ⊢;exact aM
  rw[e];by_cases h:k<l.length
  ·refine aN (zD h) (gC ?_);refine aP (by simp;omega) ?_;refine gC ?_;rw[aja];refine congrArg DV.bool (decide_eq_decide.2 ?_);simp;omega
  ·refine aP (zD h) (gC ?_);refine vF ?_;rw[aja];refine congrArg DV.bool (decide_eq_decide.2 ?_);simp;omega
def zN(s z:Text):Bool:=Nm.valid s&&Nm.valid z && !nf z&&Nm.under s z
theorem aaV(s z:Text)(hs:s.length<=maxLen)(hz:z.length<=maxLen):aq E 260 [.str s,.str z] (· = .bool (zN s z)):=by
 unfold zN;have c1:=fA s hs;have c2:=fA z hz;cases h1:Nm.valid s
 ·rw[h1]at c1;refine eP F260.h ?_;repeat' (first|with_reducible(first|refine cC c1 ?_|refine cC c2 ?_|refine cX ?_|apply ah<;>intro)|refine gE ?_|with_reducible rfl)
  all_goals simp_all
 cases h2:Nm.valid z
 ·rw[h1]at c1;rw[h2]at c2;refine eP F260.h ?_;repeat' (first|with_reducible(first|refine cC c1 ?_|refine cC c2 ?_|refine cX ?_|apply ah<;>intro)|refine gE ?_|with_reducible rfl)
  all_goals simp_all
 have l1:=dh h1;have l2:=dh h2;have c3:=Eo z oM;have c4:=rN s z oM oM;rw[h1]at c1;rw[h2]at c2;refine eP F260.h ?_;repeat' (first|with_reducible(first|refine cC c1 ?_|refine cC c2 ?_|refine cC c3 ?_|refine cC c4 ?_|refine cX ?_|apply ah<;>intro)|refine gE ?_|with_reducible rfl)
 all_goals simp_all
def Co(s:dw):Bool:=(s.data.length:Int)==0
theorem aaW(e:Entry):aq E 261 [e.enc] (· = .bool (Co e.signed.set)):=by
 unfold Co;refine eP Tryz.func261 ?_;simp
def qN(e:Entry):Bool:=zN e.signed.set.name e.ar&&decide (1<=e.upto)&&decide (e.upto<=20100001) &&
 (if Co e.signed.set then decide (1 <= e.signed.set.type) && decide (e.signed.set.type <= 8) && decide (0 <= e.signed.set.dD) && decide (e.signed.set.dD <= 100000) && ((e.signed.sigs.length : Int) == 0)
  else eX e.signed.set && kX e.signed.sigs e.ar)
def Entry.cR(e:Entry):Prop:=e.signed.cR/\e.ar.length<=maxLen
theorem aaX(e:Entry)(hf:e.cR):aq E 187 [e.enc] (· = .bool (qN e)):=by
 have c1:=aaV e.signed.set.name e.ar hf.1.1.name hf.2;have c2:=aaW e;have c3:=zp e.signed.set hf.1.1;have c4:=IZ e.signed.sigs e.ar;obtain⟨⟨s,l⟩,z,u⟩:=e;unfold qN;simp only at c1 c2 c3 c4 ⊢;show aq E _ [DV.agg [.str s.name,.int .i64 s.type,.int .i64 s.dD,rH s.data,rI l,.str z,.int .i64 u]] _;refine eP Tryz.func187 ?_;repeat' (first|with_reducible(first|refine cC c1 ?_|refine cC c2 ?_|refine cC c3 ?_|refine cC c4 ?_|refine cX ?_|apply ah<;>intro)|refine gA Tryz.func187 ?_|refine gB ?_|with_reducible rfl)
 all_goals (refine congrArg DV.bool ?_;simp_all;try omega)
def lU(e:Entry):Text × Int × Text:=(e.signed.set.name,e.signed.set.type,e.ar)
theorem aaY(a b:Entry):aq E 188 [a.enc,b.enc] (· = .bool (decide (lU a=lU b))):=by
 unfold lU;refine eP Tryz.func188 ?_;repeat' (first|with_reducible(first|refine cX ?_|apply ah<;>intro)|refine gA Tryz.func188 ?_|refine gB ?_|with_reducible rfl)
 all_goals (refine congrArg DV.bool ?_;rw[Bool.eq_iff_iff];simp_all)
def zO(c:Cache):Bool:=c.list.all qN&&decide ((c.list.map lU).Nodup)&&decide (c.list.length<=400)
theorem aaZ(c:Cache)(hl:c.list.length<=maxLen)(hf:∀ e∈c.list,e.cR):aq E 111 [c.enc] (· = .bool (zO c)):=by
 obtain⟨l⟩:=c;unfold zO;simp only at hl hf ⊢;unfold maxLen at hl;show aq E _ [DV.agg [.sl (l.map Entry.enc)]] _;refine eP F111.h ?_;refine I.lP l.length (rg 2 33) (fun k=>[(3,.d (.int .i64 k))]) (fun _=>[]) (fun k=>k<=l.length/\(l.take k).all qN=true/\((l.take k).map lU).Nodup) ⟨ai4 _,rfl,by simp⟩ ?_ ?_
 ·exact sZ
 rintro k ⟨hk,aM,cW⟩ IH;refine zA ?_ ?_<;>intro h5
 ·have ai:k<l.length:=zD h5
  obtain⟨x,hx⟩:=aI ai;have c1:=aaX x (hf x (aiQ hx));refine gC ?_;refine eM hx (gC ?_);refine ao (c1) (gC ?_);cases hp:qN x
  ·refine vT ?_;rw[dK hx hp];rfl
  refine vF ?_;refine I.lP k ([2,4]++rg 19 16) (fun j=>[(4,.d (.int .i64 j))]) (fun _=>[]) (fun j=>j<=k/\∀ i y,i<j->l[i]?=some y->lU y≠lU x) ⟨ai4 _,by omega⟩ ?_ ?_
  ·exact sZ
  rintro j ⟨hj,bI⟩ JH;refine zA ?_ ?_<;>intro h6
  ·have qM:j<k:=zD h6
   obtain⟨y,hy⟩:=aI (l:=l) (k:=j) oM;have c2:=aaY y x;refine gC ?_;refine dU ?_;refine eM hy (gD ?_);refine eM hx (gD ?_);refine ax (c2) (gD ?_);refine gC ?_;by_cases he:lU y=lU x
   ·refine aN (decide_eq_true he) (gC ?_);rw[decide_eq_false (QY hx hy qM he),Bool.and_false];rfl
   ·refine aP (decide_eq_false he) (gC ?_);refine I.back (JH (j+1) ⟨by omega,fun i w hi hw=>(Nat.lt_succ_iff_lt_or_eq.1 hi).elim (fun h=>bI i w h hw) (fun h=>by subst h;rw[hy]at hw;cases hw;exact he)⟩ oM) ?_;exact sZ
  ·have aA:j=k:=by simp at h6;omega
   subst aA;refine gC ?_;exact I.back (IH (j+1) ⟨by omega,ea aM hx hp,QX cW hx bI⟩ oM) sZ
 ·have aA:l.length<=k:=zD h5
  rw[ajq aA]at aM cW;rw[aM,decide_eq_true cW];refine gC ?_;refine congrArg DV.bool ?_;simp;omega
def Cp(e:Entry):Bool := !(decide ((e.signed.set.data.length:Int)>20)) && !(decide ((e.signed.sigs.length:Int)>20)) && !(decide ((e.ar.length:Int)>100))
def Fc(c:Cache):Bool:=(c.list.take 411).all Cp&&decide (c.list.length<=410)
theorem Cq{α:Type}{P:α->Bool}{l:List α}{k n:Nat}(h:(l.take k).all P=true)(hk:¬ (k<l.length/\k<n))(hn:k<=n):(l.take n).all P=true:=by
 by_cases e:k=n
 ·rw[<- e];exact h
 ·rw[ajq oM]at h ⊢;exact h
theorem aa0(c:Cache)(hl:c.list.length<=maxLen):aq E 47 [c.enc] (· = .bool (Fc c)):=by
 obtain⟨l⟩:=c;unfold Fc;simp only at hl ⊢;unfold maxLen at hl;show aq E _ [DV.agg [.sl (l.map Entry.enc)]] _;refine eP F47.h ?_;refine I.lP l.length (rg 2 38) (fun k=>[(3,.d (.int .i64 k))]) (fun _=>[]) (fun k=>k<=l.length/\k<=411/\(l.take k).all Cp=true) ⟨ai4 _,by omega,rfl⟩ ?_ ?_
 ·exact sZ
 rintro k ⟨hk,fq,aM⟩ IH;refine zT ?_;by_cases ai:k<l.length/\k<411
 ·obtain⟨x,hx⟩:=aI ai.1;have no:=fun h=>dK (l:=l.take 411) (k:=k) (p:=Cp) (by rw[ahS,if_pos ai.2];exact hx) h;have back:=fun h=>IH (k+1) ⟨by omega,by omega,ea aM hx h⟩ oM;have oS:Cp x=(!(decide ((x.signed.set.data.length:Int)>20)) && !(decide ((x.signed.sigs.length:Int)>20)) && !(decide ((x.ar.length:Int)>100))):=rfl;refine aN (by simp;omega) ?_;refine gC ?_;refine aN (by simp;omega) ?_;refine gC ?_;repeat' (first|with_reducible(first|refine aR (bC hx) rfl ?_|refine cX ?_|apply ah<;>intro)|refine gE ?_|with_reducible rfl)
  all_goals try (rw[no (by rw[oS];simp_all)];rfl)
  refine gC ?_;refine I.back (back (by rw[oS];simp_all)) ?_;exact sZ
 ·rw[Cq aM ai fq];by_cases h:k<l.length
  ·refine aN (zD h) (gC ?_);refine aP (by simp;omega) ?_;refine gC ?_;rw[aja];refine congrArg DV.bool (decide_eq_decide.2 ?_);simp;omega
  ·refine aP (zD h) (gC ?_);refine vF ?_;rw[aja];refine congrArg DV.bool (decide_eq_decide.2 ?_);simp;omega
def lV(a:dJ):Bool:=a.kind==0&&(a.J.length:Int)==0&&a.cut==[]
theorem QZ(a:dJ):aq E 97 [a.enc] (· = .bool (lV a)):=by
 unfold lV;refine eP Tryz.func97 ?_;repeat' (first|with_reducible(first|refine cX ?_|apply ah<;>intro)|refine gA Tryz.func97 ?_|refine gB ?_|with_reducible rfl)
 all_goals (refine congrArg DV.bool ?_;simp_all)
def zP(v:nj):Bool:=decide (1<=v.kind)&&decide (v.kind<=3) && !(v.kind != 1&&decide ((v.J.length:Int)>0)) &&
 (if v.kind=3 then eD v.q else decide (v.q=⟨[],0⟩)&&o6 ⟨1,v.J,[]⟩)
def nj.cR(v:nj):Prop:=v.q.name.length<=maxLen/\v.J.length<=maxLen/\∀ s∈v.J,s.cR
theorem aa1(v:nj)(hf:v.cR):aq E 112 [v.enc] (· = .bool (zP v)):=by
 have c1:=Cn v.q hf.1;have c2:=J4 ⟨1,v.J,[]⟩ ⟨hf.2.1,hf.2.2,ai4 _⟩;obtain⟨kd,⟨qn,qt⟩,l⟩:=v;unfold zP;simp only at c1 c2 ⊢;show aq E _ [DV.agg [.int .i64 kd,.str qn,.int .i64 qt,.sl (l.map Signed.enc)]] _;refine eP Tryz.func112 ?_;repeat' (first|with_reducible(first|refine cC c1 ?_|refine cC c2 ?_|refine cX ?_|apply ah<;>intro)|refine gA Tryz.func112 ?_|refine gB ?_|with_reducible rfl)
 all_goals (refine congrArg DV.bool ?_;simp_all;try omega)
def ob(at_:Int)(x:bZ):Bool:=eD x.q&&x.time==at_&&decide (1<=x.addr)&&decide (x.addr<=1000000)&&(lV x.answer||o6 x.answer)
def lW(t:dO):Bool:=t.heard.all (ob t.time)&&eD t.q&&decide (0<=t.time)&&decide (t.time<=10000000)&&zO t.cache&&decide (t.heard.length<=40)&&zP t.result
def bZ.cR(x:bZ):Prop:=x.q.name.length<=maxLen/\x.answer.cR
def dO.cR(t:dO):Prop:=t.q.name.length<=maxLen/\(t.cache.list.length<=maxLen/\∀ e∈t.cache.list,e.cR)/\(t.heard.length<=maxLen/\∀ x∈t.heard,x.cR)/\t.result.cR
theorem aa2(t:dO)(hf:t.cR):aq E 42 [t.enc] (· = .bool (lW t)):=by
 obtain⟨h1,⟨h2,h3⟩,⟨h4,h5⟩,h6⟩:=hf;have c1:=Cn t.q h1;have c2:=aaZ t.cache h2 h3;have c3:=aa1 t.result h6;obtain⟨⟨qn,qt⟩,at_,⟨cl⟩,l,⟨rk,⟨rn,rt⟩,rl⟩⟩:=t;unfold lW;simp only at c1 c2 c3 h4 h5 ⊢;unfold maxLen at h4;show aq E _ [DV.agg [.str qn,.int .i64 qt,.int .i64 at_,.sl (cl.map Entry.enc),.sl (l.map bZ.enc),.int .i64 rk,.str rn,.int .i64 rt,.sl (rl.map Signed.enc)]] _;refine eP F42.h ?_;refine I.lP l.length (rg 2 4++rg 7 46) (fun k=>[(3,.d (.int .i64 k))]) (fun _=>[]) (fun k=>k<=l.length/\(l.take k).all (ob at_)=true) ⟨ai4 _,rfl⟩ ?_ ?_
 ·exact sZ
 rintro k ⟨hk,aM⟩ IH;refine zA ?_ ?_<;>intro h7
 ·have ai:k<l.length:=zD h7
  obtain⟨x,hx⟩:=aI ai;have jd:=h5 x (aiQ hx);have c4:=Cn x.q jd.1;have c5:=QZ x.answer;have c6:=J4 x.answer jd.2;have no:=fun h=>dK hx (p:=ob at_) h;have back:=fun h=>IH (k+1) ⟨by omega,ea aM hx h⟩ oM;have oS:ob at_ x=(eD x.q&&x.time==at_&&decide (1<=x.addr)&&decide (x.addr<=1000000)&&(lV x.answer||o6 x.answer)):=rfl;refine gC ?_;refine eM hx (gC ?_);repeat' (first|with_reducible(first|refine cC c4 ?_|refine cC c5 ?_|refine cC c6 ?_|refine cX ?_|apply ah<;>intro)|refine gE ?_|with_reducible rfl)
  all_goals try (rw[no (by rw[oS];simp_all;try omega)];simp;done)
  all_goals
   refine gC ?_;refine I.back (back (by rw[oS];simp_all;try omega)) ?_;exact sZ
 ·have aA:l.length<=k:=zD h7
  rw[ajq aA]at aM;rw[aM];refine gC ?_;repeat' (first|with_reducible(first|refine cC c1 ?_|refine cC c2 ?_|refine cC c3 ?_|refine cX ?_|apply ah<;>intro)|refine gE ?_|with_reducible rfl)
  all_goals (refine congrArg DV.bool ?_;simp_all;try omega)
def Cr(x:bZ):Bool:=vG x.answer.J && !(decide ((x.answer.J.length:Int)>40)) && !(decide ((x.answer.cut.length:Int)>100)) && !(decide ((x.q.name.length:Int)>100))
def tU(t:dO):Bool:=(t.heard.take 43).all Cr&&vG t.result.J&&Fc t.cache&&decide ((t.cache.list.length:Int)<=60)&&decide ((t.heard.length:Int)<=42)&&decide ((t.q.name.length:Int)<=100)&&decide ((t.result.q.name.length:Int)<=100)
theorem Q0(t:dO)(h1:t.cache.list.length<=maxLen)(h2:t.heard.length<=maxLen)(h3:∀ x∈t.heard,x.answer.J.length<=maxLen)(h4:t.result.J.length<=maxLen):aq E 20 [t.enc] (· = .bool (tU t)):=by
 have c1:=aa0 t.cache h1;have c2:=J6 t.result.J h4;obtain⟨⟨qn,qt⟩,at_,⟨cl⟩,l,⟨rk,⟨rn,rt⟩,rl⟩⟩:=t;unfold tU;simp only at c1 c2 h2 h3 ⊢;unfold maxLen at h2;show aq E _ [DV.agg [.str qn,.int .i64 qt,.int .i64 at_,.sl (cl.map Entry.enc),.sl (l.map bZ.enc),.int .i64 rk,.str rn,.int .i64 rt,.sl (rl.map Signed.enc)]] _;refine eP F20.h ?_;refine I.lP l.length ([2,3,4]++rg 6 54) (fun k=>[(3,.d (.int .i64 k))]) (fun _=>[]) (fun k=>k<=l.length/\k<=43/\(l.take k).all Cr=true) ⟨ai4 _,by omega,rfl⟩ ?_ ?_
 ·exact sZ
 rintro k ⟨hk,fq,aM⟩ IH;refine zT ?_;by_cases ai:k<l.length/\k<43
 ·obtain⟨x,hx⟩:=aI ai.1;have no:=fun h=>dK (l:=l.take 43) (k:=k) (p:=Cr) (by rw[ahS,if_pos ai.2];exact hx) h;have back:=fun h=>IH (k+1) ⟨by omega,by omega,ea aM hx h⟩ oM;have oS:Cr x=(vG x.answer.J && !(decide ((x.answer.J.length:Int)>40)) && !(decide ((x.answer.cut.length:Int)>100)) && !(decide ((x.q.name.length:Int)>100))):=rfl;have c3:=J6 x.answer.J (h3 x (aiQ hx));refine aN (by simp;omega) ?_;refine gC ?_;refine aN (by simp;omega) ?_;refine gC ?_;repeat' (first|with_reducible(first|refine aR (bC hx) rfl ?_|refine cC c3 ?_|refine cX ?_|apply ah<;>intro)|refine gE ?_|with_reducible rfl)
  all_goals try (rw[no (by rw[oS];simp_all)];simp;done)
  refine gC ?_;refine I.back (back (by rw[oS];simp_all)) ?_;exact sZ
 ·rw[Cq aM ai fq];by_cases h:k<l.length
  ·refine aN (zD h) (gC ?_);refine aP (by simp;omega) ?_;refine gC ?_;repeat' (first|with_reducible(first|refine cC c1 ?_|refine cC c2 ?_|refine cX ?_|apply ah<;>intro)|refine gE ?_|with_reducible rfl)
   all_goals (refine congrArg DV.bool ?_;simp_all;try omega)
  ·refine aP (zD h) (gC ?_);refine vF ?_;repeat' (first|with_reducible(first|refine cC c1 ?_|refine cC c2 ?_|refine cX ?_|apply ah<;>intro)|refine gE ?_|with_reducible rfl)
   all_goals (refine congrArg DV.bool ?_;simp_all;try omega)
end Go.Proofs.YtlhehdgciafakaaGreatDoor.P
end
section
namespace Go.Proofs.YtlhehdgciafakaaGreatDoor.P
open Go Go.az
set_option maxRecDepth 100000
section
variable {α:Type} [DecidableEq α] {en:α->DV}
theorem Q8(hk:∀ a b,fy (en a) (en b)=decide (a=b)){x:α}:∀ {l:List α},x∈l->b8 (en x) (.bool true) (l.map fun a=>(en a,DV.bool true))=l.map fun a=>(en a,DV.bool true)
 |[],h=>by simp at h
 |y::l,h=>by
  show b8 (en x) (.bool true) ((en y,DV.bool true)::l.map fun a=>(en a,DV.bool true))=_;simp only[b8,hk];by_cases e:y=x
  ·subst e;simp
  ·have hm:x∈l:=(List.mem_cons.1 h).resolve_left fun q=>e q.symm;have:=Q8 hk hm;first
    |rw[if_neg (zD e),this];rfl
    |rw[if_neg (by simpa using fun q=>e q.symm),this];rfl
theorem Q9(hk:∀ a b,fy (en a) (en b)=decide (a=b)){x:α}:∀ {l:List α},x ∉ l->b8 (en x) (.bool true) (l.map fun a=>(en a,DV.bool true))=(l++[x]).map fun a=>(en a,DV.bool true)
 |[],h=>rfl
 |y::l,h=>by
  have h1:y≠x:=fun e=>h (e ▸ List.mem_cons_self ..);have h2:x ∉ l:=fun e=>h (List.mem_cons_of_mem _ e);show b8 (en x) (.bool true) ((en y,DV.bool true)::l.map fun a=>(en a,DV.bool true))=_;have:=Q9 hk h2;simp only[b8,hk];first
   |rw[if_neg (zD h1),this];rfl
   |rw[if_neg (by simpa using fun q=>h1 q.symm),this];rfl
theorem abk(hk:∀ a b,fy (en a) (en b)=decide (a=b))(l:List α):eY en l=(er [] l).map fun a=>(en a,DV.bool true):=by
 have main:∀ (n:Nat),eY en (l.take n)=(er [] (l.take n)).map fun a=>(en a,DV.bool true):=by
  intro n
  induction n with
  |zero=>rfl
  |succ n ih =>
   cases h:l[n]? with
   |none =>
    have:l.length<=n:=zD h
    rw[ajq oM,<- ajq this];exact ih
   |some x =>
    rw[JB h,ih,cj h,P5];split
    ·rename_i hm;exact Q8 hk hm
    ·rename_i hm;exact Q9 hk hm
 have:=main l.length
 rwa [akR]at this
end
section
variable {α:Type}
def nr(xs:List α)(seen:List Nat):List α:=seen.filterMap fun j=>xs[j]?
theorem Ra{xs:List α}{seen:List Nat}{j:Nat}{a:α}(h:xs[j]?=some a):nr xs (seen++[j])=nr xs seen++[a]:=by
 rw[nr,List.filterMap_append];simp[nr,h]
theorem abl{xs:List α}{seen:List Nat}:(nr xs seen).length<=seen.length:=List.length_filterMap_le ..
theorem abm(xs:List α):nr xs (ais xs.length)=xs:=by
 have main:∀ (n:Nat),n<=xs.length->nr xs (ais n)=xs.take n:=by
  intro n
  induction n with
  |zero=>intro _;simp[nr]
  |succ n ih =>
   intro h;obtain⟨a,ha⟩:=aI (l:=xs) (k:=n) oM;rw[List.range_succ,Ra ha,ih oM,cj ha]
 rw[main _ (ahL _),akR]
theorem abn{xs:List α}{seen:List Nat}(hn:seen.Nodup)(ai:∀ j∈seen,j<xs.length)(aM:∀ j,j<xs.length->j∈seen):(nr xs seen).Perm xs:=by
 have h:seen.Perm (ais xs.length):=(List.perm_ext_iff_of_nodup hn List.nodup_range).2 fun j=>by
  rw[ajY];exact⟨ai j,aM j⟩
 have:=h.filterMap (fun j=>xs[j]?);have e:=abm xs;unfold nr at e;rw[e]at this;exact this
theorem Rb{xs:List α}{seen:List Nat}(hn:seen.Nodup)(ai:∀ j∈seen,j<xs.length):seen.length<=xs.length:=by
 have:=Iv hn (U:=ais xs.length) fun j hj=>ajY.2 (ai j hj)
 simpa using this
end
end Go.Proofs.YtlhehdgciafakaaGreatDoor.P
end
section
namespace Go.Proofs.YtlhehdgciafakaaGreatDoor.P
open Go Go.az
set_option maxRecDepth 100000
set_option maxHeartbeats 4000000
structure pT.Fits(w:pT):Prop where
 ay:∀ x∈w.ay,x.name.length<=maxLen
 anchor:w.anchor.Fits
 hints:w.hints.length<=maxLen
 dS:∀ p∈w.dS,p.ar.Fits
theorem Ky{l:List aH}{n:Nat}(h:l.all (oY n)=false):oZ n l=false:=by simp[oZ,h]
theorem acO{l:List aH}{k:Nat}{x:aH}(h:l[k]?=some x):(l.take (k+1)).map (·.ar.af)=(l.take k).map (·.ar.af)++[x.ar.af]:=by rw[cj h,aih];rfl
theorem acP(l:List aH):(eY DV.str (l.map (·.ar.af))).length=EW l:=by
 have:=JI zF (l.map (·.ar.af)) _ (ahL _)
 rwa [akR]at this
theorem RZ(ay:List Host)(l:List aH)(a:dw)(hints:List Int)(hz:∀ p∈l,p.ar.Fits):aq E 123 [DV.agg [.sl (ay.map Host.enc),.sl (l.map aH.enc),.str a.name,.int .i64 a.type,.int .i64 a.dD,.sl (a.data.map Datum.enc),.sl (hints.map (.int .i64))]] (· = .bool (oZ ay.length l)):=by
 refine eP F123.h ?_;apply ah<;>intro h1
 ·refine gC ?_;have:oZ ay.length l=false:=by simp[oZ];simp at h1;omega
  rw[this]
 have hlen:l.length<=4000:=by simp at h1;omega
 refine gC ?_;refine gC ?_;refine gC ?_;refine I.lP l.length ([2,6,7]++rg 17 39) (fun k=>[(17,.d (.int .i64 k)),(2,.d (.bool false)),(3,.map 1),(4,.map 2)]) (fun k=>[(1,.map (eY cU.en ((l.take k).map aH.spot))),(2,.map (eY DV.str ((l.take k).map (·.ar.af))))]) (fun k=>k<=l.length/\(l.take k).all (oY ay.length)=true/\((l.take k).map aH.spot).Nodup) ⟨ai4 _,rfl,by simp⟩ ?_ ?_
 ·refine sY ?_
  refine⟨rfl, ?_⟩;refine sY ?_
  refine⟨rfl, ?_⟩;exact sZ
 rintro i ⟨hi,aM,cW⟩ IH;refine zA ?_ ?_<;>intro h5
 ·have ai:i<l.length:=zD h5
  obtain⟨x,hx⟩:=aI ai;have gw:=hz x (aiQ hx);have gv:=(pU r8 ((l.take i).map aH.spot)).1;have acQ:=(pU zF ((l.take i).map (·.ar.af))).1;obtain⟨gU,jx⟩:=xy r8 ((l.take i).map aH.spot) x.spot;refine gC ?_;refine eM hx (gC ?_);apply ah<;>intro h6
  ·repeat' (first|with_reducible(first|refine cX ?_|apply ah<;>intro)|refine gE ?_|with_reducible rfl)
   rw[Ky (dK hx (by simp[oY];simp at h6;omega))]
  refine gC ?_;apply ah<;>intro h7
  ·repeat' (first|with_reducible(first|refine cX ?_|apply ah<;>intro)|refine gE ?_|with_reducible rfl)
   rw[Ky (dK hx (by simp[oY];simp at h7;omega))]
  refine gC ?_;refine qm (.bool false) (.bool false) ⟨_,rfl,rfl,⟨_,rfl,_,rfl⟩,rfl,⟨_,rfl,_,rfl⟩,trivial⟩ (zG gv) (fun w=>by kernel_rfl) (fun _ _ => .bool _) gU jx (gC ?_);apply ah<;>intro h8
  ·repeat' (first|with_reducible(first|refine cX ?_|apply ah<;>intro)|refine gE ?_|with_reducible rfl)
   have:=JF hx (zD h8);simp[oZ,this]
  refine gC ?_
  with_reducible refine ao (xt x.ar gw) ?_
  refine gC ?_;cases E3:dN x.ar
  ·repeat' (first|with_reducible(first|refine cX ?_|apply ah<;>intro)|refine gE ?_|with_reducible rfl)
   rw[Ky (dK hx (by simp[oY,E3]))]
  refine vF ?_;have aV:oY ay.length x=true:=by simp[oY,E3];simp at h6 h7;omega
  refine bj ⟨⟨_,rfl,rfl,⟨_,rfl,_,rfl⟩,rfl,⟨_,rfl,_,rfl⟩,trivial⟩,zG gv⟩ (gC ?_);refine bj ⟨⟨_,rfl⟩,acQ⟩ (gC ?_);refine I.back (IH (i+1) ⟨by omega,ea aM hx aV,JG hx cW (zD h8)⟩ oM) ?_;rw[EV hx,vC,acO hx,vC];refine sY ?_
  refine⟨rfl, ?_⟩;exact sZ
 ·have aA:l.length<=i:=zD h5
  rw[ajq aA]at aM cW ⊢;refine gC ?_;refine gC ?_;have:=acP l;rw[this];simp[oZ,aM,cW,hlen];omega
theorem acR(w:pT)(hf:w.Fits):aq E 63 [w.enc] (· = .bool (tR w)):=by
 obtain⟨ay,dS,anchor,hints⟩:=w;obtain⟨f1,f2,f3,f4⟩:=hf;simp only at f1 f2 f3 f4;show aq E _ [DV.agg [.sl (ay.map Host.enc),.sl (dS.map aH.enc),.str anchor.name,.int .i64 anchor.type,.int .i64 anchor.dD,.sl (anchor.data.map Datum.enc),.sl (hints.map (.int .i64))]] _;refine eP F63.h ?_;repeat' (first|with_reducible(first|refine cC (ER ay f1) ?_|refine cC (RZ ay dS anchor hints f4) ?_|refine cC (ES anchor hints f2 f3) ?_|refine cX ?_|apply ah<;>intro)|refine gE ?_|with_reducible rfl)
 all_goals simp_all[tR]
end Go.Proofs.YtlhehdgciafakaaGreatDoor.P
end
