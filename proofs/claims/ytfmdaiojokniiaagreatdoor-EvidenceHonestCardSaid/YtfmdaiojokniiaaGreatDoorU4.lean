/- Lemmas of mine. Conditions: as stated. -/
import Derived.Test.YtfmdaiojokniiaaGreatDoorU2
import Derived.Maps.RangeRun
set_option linter.unusedVariables false
set_option linter.unusedSimpArgs false
section
namespace Go.ay
open Go Go.RowKit
open Go.ChangeMaps (setBlock)
theorem uH{c0 c c':Cx}{i:Nat}(hh:∀ x,c.heap[i]?=some x->c'.heap[i]?=some x)(ho:∀ x,c.heap[i]?=some x->c'.own i=c.own i){bx:af}(h:yp c0 c i bx):yp c0 c' i bx:=by
 cases bx with
 |cells cs =>
  rcases h with⟨cs',h1,h2,h3⟩|h1
  ·exact .inl ⟨cs',hh _ h1,(ho _ h1).trans h2,h3⟩
  ·exact .inr (hh _ h1)
 |arr g sz l =>
  rcases h with⟨g',l',h1,h2⟩|h1
  ·refine .inl ⟨g',l',hh _ h1,?_⟩;rcases h2 with h2|⟨h2,h3,h4⟩
   ·exact .inl h2
   ·exact .inr ⟨h2,h3,(ho _ h1).trans h4⟩
  ·exact .inr (hh _ h1)
 |map es =>
  rcases h with⟨dV,h1,h2⟩|h1
  ·exact .inl ⟨dV,hh _ h1,(ho _ h1).trans h2⟩
  ·exact .inr (hh _ h1)
 |gone=>exact hh _ h
 |hole=>obtain⟨b,h⟩:=h;exact⟨b,hh _ h⟩
section
variable {G:List (Nat × DV)} {c:Cx} {bx:af} {blk cap:Nat}
def Cx.cJ(c:Cx)(bx:af)(blk cap:Nat):Cx:=⟨fun i=>if i=c.heap.length then some (blk,cap)else c.own i,c.heap++[bx],fun b=>c.az b/\b≠blk,c.w⟩
theorem Sd(ho:aK G c)(hb:c.az blk)(b:Nat):(c.cJ bx blk cap).bad b↔c.bad b:=by
 constructor
 ·rintro(h|⟨i,n,h⟩)
  ·exact .inl h.1
  ·simp only[Cx.cJ]at h;split at h
   ·cases h;exact .inl hb
   ·exact .inr ⟨i,n,h⟩
 ·rintro(h|⟨i,n,h⟩)
  ·by_cases e:b=blk
   ·subst e;exact .inr ⟨c.heap.length,cap,by simp[Cx.cJ]⟩
   ·exact .inl ⟨h,e⟩
  ·refine .inr ⟨i,n,?_⟩;have:=(ho.bA i b n h).2;simp only[Cx.cJ];rw[if_neg (by omega)];exact h
theorem KC(ho:aK G c)(hb:c.az blk)(b:Nat)(_:b<c.w.heap.size)(hn:¬ c.bad b):¬ (c.cJ bx blk cap).bad b/\(c.cJ bx blk cap).w.heap[b]?=c.w.heap[b]? := ⟨fun h=>hn ((Sd ho hb b).1 h),rfl⟩
theorem KD{i:Nat}{b:af}(hi:c.heap[i]?=some b):(c.cJ bx blk cap).heap[i]?=c.heap[i]? := List.getElem?_append_left (aQ hi)
theorem FJ{i:Nat}{b:af}(hi:c.heap[i]?=some b):(c.cJ bx blk cap).own i=c.own i:=by
 have:=aQ hi;simp only[Cx.cJ];rw[if_neg (by omega)]
theorem uI(ho:aK G c)(hb:c.az blk){x:AV}{v:Value}(hv:VR c x v):VR (c.cJ bx blk cap) x v:=rQ (KC ho hb) (fun _ _ hi=>l6 hi (KD hi) (FJ hi)) hv
theorem B8(ho:aK G c)(hb:c.az blk){x:DV}{v:Value}(hv:VD c.bad c.w x v):VD (c.cJ bx blk cap).bad (c.cJ bx blk cap).w x v:=hv.mono (KC ho hb)
theorem aK.cJ(ho:aK G c)(hb:c.az blk)(iN:jG (c.cJ bx blk cap) c.heap.length bx):aK G (c.cJ bx blk cap) where
 bQ:=fun b h=>ho.bQ b h.1
 bA:=fun i b n hi=>by
  have hl:(c.cJ bx blk cap).heap.length=c.heap.length+1:=by simp[Cx.cJ]
  simp only[Cx.cJ]at hi;split at hi
  ·cases hi;exact⟨ho.bQ _ hb,by omega⟩
  ·have:=ho.bA i b n hi;exact⟨this.1,by omega⟩
 inj:=fun i j b n m hi hj=>by
  simp only[Cx.cJ]at hi hj;split at hi<;>split at hj
  ·omega
  ·cases hi;exact absurd hb (ho.sep j _ m hj)
  ·cases hj;exact absurd hb (ho.sep i _ n hi)
  ·exact ho.inj i j b n m hi hj
 sep:=fun i b n hi h=>by
  simp only[Cx.cJ]at hi;split at hi
  ·cases hi;exact h.2 rfl
  ·exact ho.sep i b n hi h.1
 box:=fun i b hx=>by
  rcases Nat.lt_trichotomy i c.heap.length with hi|rfl|hi
  ·have dX:c.heap[i]?=some b:=by
    have:(c.cJ bx blk cap).heap[i]?=c.heap[i]? := List.getElem?_append_left hi
    rwa [this]at hx
   exact(ho.box i b dX).gen (fun _ _=>uI ho hb) (fun _ _=>B8 ho hb) (FJ dX) (fun _ _ _=>rfl)
  ·have:b=bx:=by simp[Cx.cJ]at hx;exact hx.symm
   subst this;exact iN
  ·rw[List.getElem?_eq_none (by simp[Cx.cJ];omega)]at hx;cases hx
 fJ:=fun g e hg=>uI ho hb (ho.fJ g e hg)
theorem c8.cJ{c0:Cx}(hr:c8 c0 c)(hb:c0.w.heap.size<=blk):c8 c0 (c.cJ bx blk cap) where
 lim:=hr.lim
 l5:=hr.l5
 az:=fun b h=>⟨hr.az b h,fun e=>by subst e;have:=hr.lim _ h;omega⟩
 mO:=fun b h=>hr.mO b h.1
 os:=hr.os
 tape:=hr.tape
 output:=hr.output
 size:=hr.size
 keep:=hr.keep
 dy:=fun i b n hi ah=>by
  simp only[Cx.cJ]at hi;split at hi
  ·cases hi;omega
  ·exact hr.dy i b n hi ah
 boxes:=fun i bx hi=>uH (fun x hx=>(KD hx).trans hx) (fun x hx=>FJ hx) (hr.boxes i bx hi)
theorem gu.cJ{lim:Nat}{rows:List bk}(h:gu lim c rows)(ho:aK G c)(hb:c.az blk)(hn:blk ∉ rows.flatMap bk.cj):gu lim (c.cJ bx blk cap) rows :=
 ⟨fun r hr=>(h.each r hr).gen (fun b KE=>⟨⟨(h.each r hr).az b KE,fun e=>hn (List.mem_flatMap.2 ⟨r,hr,e ▸ KE⟩)⟩,rfl⟩) (fun _ _=>B8 ho hb) (fun _ _=>uI ho hb),h.nodup⟩
def Cx.cO(c:Cx)(b blk:Nat):Cx:=⟨fun i=>if i=b then none else c.own i,c.heap.set b .gone,fun x=>c.az x\/x=blk,c.w⟩
variable {b:Nat}
theorem xk{i:Nat}{p:Nat × Nat}(hi:(c.cO b blk).own i=some p):i≠b/\c.own i=some p:=by
 simp only[Cx.cO]at hi;split at hi
 ·cases hi
 ·rename_i q;exact⟨q,hi⟩
theorem Se(hb:c.own b=some (blk,cap))(x:Nat):(c.cO b blk).bad x↔c.bad x:=by
 constructor
 ·rintro((h|h)|⟨i,n,h⟩)
  ·exact .inl h
  ·subst h;exact .inr ⟨b,cap,hb⟩
  ·exact .inr ⟨i,n,(xk h).2⟩
 ·rintro(h|⟨i,n,h⟩)
  ·exact .inl (.inl h)
  ·by_cases e:i=b
   ·subst e;rw[hb]at h;cases h;exact .inl (.inr rfl)
   ·exact .inr ⟨i,n,by simp only[Cx.cO,if_neg e];exact h⟩
theorem KF(hb:c.own b=some (blk,cap))(x:Nat)(_:x<c.w.heap.size)(hn:¬ c.bad x):¬ (c.cO b blk).bad x/\(c.cO b blk).w.heap[x]?=c.w.heap[x]? := ⟨fun h=>hn ((Se hb x).1 h),rfl⟩
theorem Sf{i:Nat}{y:af}(hi:c.heap[i]?=some y):tG c (c.cO b blk) i y:=by
 by_cases e:i=b
 ·subst e;have hg:(c.cO i blk).heap[i]?=some .gone:=List.getElem?_set_self (aQ hi);cases y with
  |cells cs=>exact .inr hg
  |arr g sz l=>exact .inr hg
  |map es=>exact .inr hg
  |gone=>exact hg
  |hole=>exact⟨_,hg⟩
 ·exact l6 hi (List.getElem?_set_ne (Ne.symm e)) (by simp only[Cx.cO,if_neg e])
theorem qM(hb:c.own b=some (blk,cap)){x:AV}{v:Value}(hv:VR c x v):VR (c.cO b blk) x v:=rQ (KF hb) (fun _ _=>Sf) hv
theorem uJ(hb:c.own b=some (blk,cap)){x:DV}{v:Value}(hv:VD c.bad c.w x v):VD (c.cO b blk).bad (c.cO b blk).w x v:=hv.mono (KF hb)
theorem aK.cO(ho:aK G c)(hb:c.own b=some (blk,cap)):aK G (c.cO b blk) where
 bQ:=fun x h=>h.elim (ho.bQ x) fun e=>by subst e;exact(ho.bA b _ cap hb).1
 bA:=fun i x n hi=>by
  have:=ho.bA i x n (xk hi).2;refine⟨this.1,?_⟩;show i<(c.heap.set b .gone).length;rw[List.length_set];exact this.2
 inj:=fun i j x n m hi hj=>ho.inj i j x n m (xk hi).2 (xk hj).2
 sep:=fun i x n hi h=>by
  obtain⟨h1,h2⟩:=xk hi;rcases h with h|h
  ·exact ho.sep i x n h2 h
  ·subst h;exact h1 (ho.inj i b x n cap h2 hb)
 box:=fun i y hx=>by
  by_cases e:i=b
  ·subst e;have ah:i<c.heap.length:=(ho.bA i _ cap hb).2;have:(c.cO i blk).heap[i]?=some .gone:=List.getElem?_set_self ah;rw[this]at hx;cases hx;show(c.cO i blk).own i=none;simp[Cx.cO]
  ·have dX:c.heap[i]?=some y:=by
    have:(c.cO b blk).heap[i]?=c.heap[i]? := List.getElem?_set_ne (Ne.symm e)
    rwa [this]at hx
   exact(ho.box i y dX).gen (fun _ _=>qM hb) (fun _ _=>uJ hb) (by simp only[Cx.cO,if_neg e]) (fun _ _ _=>rfl)
 fJ:=fun g e hg=>qM hb (ho.fJ g e hg)
theorem B9{c0:Cx}(hr:c8 c0 c)(hb:c.own b=some (blk,cap))(hn:c0.heap.length<=b):c0.w.heap.size<=blk:=by
 rcases Nat.lt_or_ge blk c0.w.heap.size with h|h
 ·obtain⟨m,hm⟩:=hr.dy b blk cap hb h;have:=hr.l5 b _ hm;omega
 ·exact h
theorem c8.cO{c0:Cx}(hr:c8 c0 c)(hb:c.own b=some (blk,cap))(hn:c0.heap.length<=b):c8 c0 (c.cO b blk) where
 lim:=hr.lim
 l5:=hr.l5
 az:=fun x h => .inl (hr.az x h)
 mO:=fun x h=>h.elim (hr.mO x) fun e => .inr (by subst e;exact B9 hr hb hn)
 os:=hr.os
 tape:=hr.tape
 output:=hr.output
 size:=hr.size
 keep:=hr.keep
 dy:=fun i x n hi ah=>hr.dy i x n (xk hi).2 ah
 boxes:=fun i bx hi=>by
  have bE:i≠b:=fun e=>by have:=aQ hi;omega
  exact uH (fun x hx=>(List.getElem?_set_ne (Ne.symm bE)).trans hx) (fun x hx=>by simp only[Cx.cO,if_neg bE]) (hr.boxes i bx hi)
theorem gu.cO{lim:Nat}{rows:List bk}(h:gu lim c rows)(hb:c.own b=some (blk,cap)):gu lim (c.cO b blk) rows :=
 ⟨fun r hr=>(h.each r hr).gen (fun x hx=>⟨.inl ((h.each r hr).az x hx),rfl⟩) (fun _ _=>uJ hb) (fun _ _=>qM hb),h.nodup⟩
theorem B'{lim:Nat}{rows:List bk}(h:gu lim c rows)(ho:aK G c)(hb:c.own b=some (blk,cap)):blk ∉ rows.flatMap bk.cj:=fun hm=>by
 obtain⟨r,hr,hx⟩:=List.mem_flatMap.1 hm;exact ho.sep b blk cap hb ((h.each r hr).az blk hx)
theorem Sg{α:Type}{a b c:List α}(h:(a++b++c).Nodup):(a++c).Nodup/\∀ x∈b,x ∉ a++c:=by
 have hp:(a++b++c).Perm (b++(a++c)):=by
  rw[List.append_assoc,<- List.append_assoc b a c];refine(List.Perm.trans ?_ (List.Perm.append_right c List.perm_append_comm));rw[List.append_assoc]
 have h2:=(hp.nodup_iff).1 h;rw[List.nodup_append]at h2;exact⟨h2.2.1,fun x hx dX=>h2.2.2 x hx x dX rfl⟩
theorem gu.uK{lim:Nat}{g1 g2:List bk}{g:bk}(h:gu lim c (g1++g::g2)):gu lim c (g1++g2)/\iQ lim c g/\∀ x∈g.cj,x ∉ (g1++g2).flatMap bk.cj:=by
 have hn:=h.nodup;rw[List.flatMap_append,List.flatMap_cons,<- List.append_assoc]at hn;obtain⟨h1,h2⟩:=Sg hn;rw[<- List.flatMap_append]at h1 h2;refine⟨⟨fun r hr=>h.each r ?_,h1⟩,h.each g (by simp),h2⟩;rcases List.mem_append.1 hr with hr|hr
 ·exact List.mem_append_left _ hr
 ·exact List.mem_append_right _ (List.mem_cons_of_mem _ hr)
end
theorem cR.uK{lim:Nat}{c:Cx}{g1 g2 L:List bk}{g:bk}(h:cR lim c (g1++g::g2) L):cR lim c (g1++g2) L/\iQ lim c g/\∀ x∈g.cj,x ∉ ((g1++g2)++L).flatMap bk.cj:=by
 have h1:=h.all;rw[List.append_assoc,List.cons_append]at h1;obtain⟨k1,k2,k3⟩:=h1.uK;rw[<- List.append_assoc]at k1 k3;refine⟨⟨k1,fun x hx=>h.flat x ?_⟩,k2,k3⟩;rcases List.mem_append.1 hx with hx|hx
 ·exact List.mem_append_left _ hx
 ·exact List.mem_append_right _ (List.mem_cons_of_mem _ hx)
theorem Ca{c:Cx}{s:List AV}{t:Array Value}(hv:VS c s t){d:Nat}{x:AV}(hx:∀ v,t[d]?=some v->VR c x v):VS c (s.set d x) t:=by
 refine⟨by simpa using hv.1,fun i y u hy hu=>?_⟩;by_cases hd:d=i
 ·subst hd;have hl:d<s.length:=by have:=aQ hy;simpa using this
  rw[List.getElem?_set_self hl]at hy;cases hy;exact hx u hu
 ·rw[List.getElem?_set_ne hd]at hy;exact hv.2 i y u hy hu
section
variable {E:Env} {ag:FuncId} {R:cF} {td:List aP} {s:List AV} {h:List af} {lits:List Nat}
theorem I.borrow(d:Nat){bz:Row}{n:Nat}{g1 g2:List bk}(pI:R.rows=g1 ++ .row bz::g2)(hd:s[d]?=some (.d (.raw (.slice (some ⟨bz.blk,0,none⟩) n bz.cap))))(hn:n=bz.l.length)
  (H:I E ag ⟨R.n,R.Q,g1++g2,R.fx⟩ lits td (s.set d (.own h.length 0)) (h++[.arr 0 bz.ts bz.l])):I E ag R lits td s h:=by
 replace H:=H.to;refine .of ?_;unfold AW at H ⊢;intro c0 c t ew h0 h1 h2 h3 hr bq h4 h5 cs;subst h2;rw[pI]at bq;obtain⟨r1,r2,r3⟩:=bq.uK;have r2:l7 c0.w.heap.size c bz:=r2;have zF:bz.blk ∉ ((g1++g2)++R.fx.loops).flatMap bk.cj:=r3 _ (by simp[bk.cj]);have dF:(c.cJ (.arr 0 bz.ts bz.l) bz.blk bz.cap).heap[c.heap.length]?=some (.arr 0 bz.ts bz.l):=by simp[Cx.cJ]
 have bF:(c.cJ (.arr 0 bz.ts bz.l) bz.blk bz.cap).own c.heap.length=some (bz.blk,bz.cap):=by simp[Cx.cJ]
 have aM:aK E.G (c.cJ (.arr 0 bz.ts bz.l) bz.blk bz.cap):=h3.cJ r2.az (by
  obtain⟨q1,q2,q3,q4,vs,q5,q6,q7,q8,q9⟩:=r2;refine⟨q3,q4,.inr ⟨bz.blk,bz.cap,vs,bF,q5,q6,q7,q8,fun i j e x he hx=>?_⟩⟩;obtain⟨v,k1,k2,k3⟩:=q9 i j e x he hx
  exact⟨v,k1,k2,B8 h3 q1 k3⟩)
 have dm:VS (c.cJ (.arr 0 bz.ts bz.l) bz.blk bz.cap) s t:=⟨h4.1,fun i x v hx hv=>uI h3 r2.az (h4.2 i x v hx hv)⟩
 have:=H c0 (c.cJ (.arr 0 bz.ts bz.l) bz.blk bz.cap) t ew h0 h1 rfl aM (hr.cJ r2.new) ⟨r1.all.cJ h3 r2.az zF,r1.flat⟩ (Ca dm fun v hv=>by
  have eD:=h4.2 d _ v hd hv;cases eD with
  |d _ _ hq =>
   cases hq;subst hn
   exact .own _ 0 bz.ts bz.l bz.blk bz.cap dF bF) (nQ (fun _ _=>uI h3 r2.az) h5) cs
 exact this
theorem I.cO(d b:Nat){g:Nat}{ts:Nat × Nat}{l:List DV}(hb:h[b]?=some (.arr g ts l))(FK:R.n<=b)(hd:s[d]?=some (.own b g))
  (H0:l=[]->I E ag R lits td (s.set d (.d (.raw (.slice none 0 0)))) (h.set b .gone))
  (H:∀ blk cap,I E ag ⟨R.n,R.Q,.row ⟨blk,cap,ts,l⟩::R.rows,R.fx⟩ lits td (s.set d (.d (.raw (.slice (some ⟨blk,0,none⟩) l.length cap)))) (h.set b .gone)):I E ag R lits td s h:=by
 refine .of ?_;unfold AW;intro c0 c t ew h0 h1 h2 h3 hr bq h4 h5 cs;subst h2;obtain⟨q0,q1,q2⟩:=h3.box b _ hb;rcases q2 with⟨q2,q3⟩|⟨blk,cap,vs,q2,q3,q4,q5,q6,q7⟩
 ·subst q3;have H:=(H0 rfl).to
  let c':Cx:={ c with own:=fun i=>if i=b then none else c.own i,heap:=c.heap.set b .gone }
  have eW:c'.heap[b]?=some .gone:=List.getElem?_set_self (aQ hb);have bF:∀ i,c'.own i=c.own i:=fun i=>by
   simp only[c'];split
   ·rename_i e;subst e;exact q2.symm
   ·rfl
  have oF:∀ x,c'.bad x↔c.bad x:=fun x=>by
   constructor
   ·rintro(h|⟨i,n,h⟩)
    ·exact .inl h
    ·exact .inr ⟨i,n,(bF i) ▸ h⟩
   ·rintro(h|⟨i,n,h⟩)
    ·exact .inl h
    ·exact .inr ⟨i,n,(bF i).trans h⟩
  have bg:Step c c':=⟨rfl,h3.bQ,rfl,rfl,rfl,Nat.le_refl _,fun _ _ _=>rfl,fun i x n hi _=>⟨n,(bF i) ▸ hi⟩,fun i bx hi=>by
   by_cases e:i=b
   ·subst e;rw[hb]at hi;cases hi;exact .inr eW
   ·exact l6 hi (List.getElem?_set_ne (Ne.symm e)) (bF i)⟩
  have aM:aK E.G c':=h3.next bg (fun i x n hi=>by
    have:=h3.bA i x n ((bF i) ▸ hi);refine⟨this.1,?_⟩;show i<(c.heap.set b .gone).length;rw[List.length_set];exact this.2) (fun i j x n m hi hj=>h3.inj i j x n m ((bF i) ▸ hi) ((bF j) ▸ hj)) (fun i bx hi=>by
   by_cases e:i=b
   ·subst e;rw[eW]at hi;cases hi;right;show c'.own i=none;simp[c']
   ·have:c'.heap[i]?=c.heap[i]? := List.getElem?_set_ne (Ne.symm e);rw[this]at hi
    exact .inl ⟨hi,bF i,fun _ _ _=>rfl⟩)
  unfold AW at H;refine H c0 c' t ew h0 h1 rfl aM (hr.step bg) (bq.step h3 bg) (Ca (bg.vs h4) fun v hv=>?_) (bg.cr h5) cs;have eD:=h4.2 d _ v hd hv;rcases kC hb eD with⟨blk,cap,r1,rfl⟩|⟨-,rfl,-⟩
  ·rw[q2]at r1;cases r1
  ·exact .d _ _ (.raw _ rfl)
 ·have H:=(H blk cap).to;unfold AW at H;have eb:=B9 hr q2 (by omega);have aM:=h3.cO q2;refine H c0 (c.cO b blk) t ew h0 h1 rfl aM (hr.cO q2 (by omega)) ⟨⟨fun r oV=>?_,?_⟩,fun g hg=>(List.mem_cons.1 hg).elim (fun e=>by subst e;trivial) (bq.flat g)⟩ (Ca ⟨h4.1,fun i x v hx hv=>qM q2 (h4.2 i x v hx hv)⟩ fun v hv=>?_) (nQ (fun _ _=>qM q2) h5) cs
  ·rcases List.mem_cons.1 oV with rfl|oV
   ·show l7 c0.w.heap.size (c.cO b blk) ⟨blk,cap,ts,l⟩
    exact⟨Or.inr rfl,eb,q0,q1,vs,q3,q4,q5,q6,fun i j e x he hx=>by
     obtain⟨v,k1,k2,k3⟩:=q7 i j e x he hx
     exact⟨v,k1,k2,uJ q2 k3⟩⟩
   ·exact(bq.all.cO q2).each r oV
  ·rw[List.cons_append,List.flatMap_cons];refine List.nodup_append.2 ⟨by simp[bk.cj],bq.all.nodup,fun x hx y hy e=>?_⟩;simp[bk.cj]at hx;subst hx;subst e;exact B' bq.all h3 q2 hy
  ·have eD:=h4.2 d _ v hd hv;rcases kC hb eD with⟨iM,gV,r1,rfl⟩|⟨rfl,rfl,r1⟩
   ·rw[q2]at r1;cases r1;exact .d _ _ (.raw _ rfl)
   ·rw[q2]at r1;cases r1
end
end Go.ay
end
section
namespace Go.ay
open Go Go.RowKit
def Cx.cS(c:Cx)(o:Obj):Cx:=⟨c.own,c.heap,fun b=>c.az b\/b=c.w.heap.size,c.w.alloc o⟩
section
variable {G:List (Nat × DV)} {c:Cx} {o:Obj}
theorem KG(b:Nat)(hb:b<c.w.heap.size)(hn:¬ c.bad b):¬ (c.cS o).bad b/\(c.cS o).w.heap[b]?=c.w.heap[b]? := by
 refine⟨?_,Below.heap_alloc c.w o b hb⟩;rintro((h|h)|⟨i,n,h⟩)
 ·exact hn (.inl h)
 ·omega
 ·exact hn (.inr ⟨i,n,h⟩)
theorem uL{x:AV}{v:Value}(hv:VR c x v):VR (c.cS o) x v:=rQ KG (fun _ _ hi=>l6 hi rfl rfl) hv
theorem Cb{x:DV}{v:Value}(hv:VD c.bad c.w x v):VD (c.cS o).bad (c.cS o).w x v:=hv.mono KG
theorem aK.cS(ho:aK G c):aK G (c.cS o) where
 bQ:=fun b hb=>by
  have hs:(c.cS o).w.heap.size=c.w.heap.size+1:=by simp[Cx.cS]
  rcases hb with hb|hb
  ·have:=ho.bQ b hb;omega
  ·omega
 bA:=fun i b n hi=>by
  have hs:(c.cS o).w.heap.size=c.w.heap.size+1:=by simp[Cx.cS]
  have:=ho.bA i b n hi;exact⟨by omega,this.2⟩
 inj:=ho.inj
 sep:=fun i b n hi hb=>hb.elim (ho.sep i b n hi) (fun e=>by have:=(ho.bA i b n hi).1;omega)
 box:=fun i bx hx=>(ho.box i bx hx).gen (fun _ _=>uL) (fun _ _=>Cb) rfl (fun b n hn=>Below.heap_alloc c.w o b (ho.bA i b n hn).1)
 fJ:=fun g e hg=>uL (ho.fJ g e hg)
end
open Go.ChangeMaps (setBlock)
section
variable {G:List (Nat × DV)} {c:Cx} {r:Nat} {w':World}
structure Touch(c:Cx)(r:Nat)(w':World):Prop where
 az:c.az r
 os:w'.os=c.w.os
 tape:w'.tape=c.w.tape
 output:w'.output=c.w.output
 size:w'.heap.size=c.w.heap.size
 other:∀ b,b≠r->w'.heap[b]?=c.w.heap[b]?
theorem Touch.yc(h:Touch c r w')(b:Nat)(_:b<c.w.heap.size)(hn:¬ c.bad b):¬ (c.eu w').bad b/\(c.eu w').w.heap[b]?=c.w.heap[b]? :=
 ⟨hn,h.other b (fun e=>by subst e;exact hn (.inl h.az))⟩
theorem Touch.vr(h:Touch c r w'){x:AV}{v:Value}(hv:VR c x v):VR (c.eu w') x v:=rQ h.yc (fun _ _ hi=>l6 hi rfl rfl) hv
theorem Touch.vd(h:Touch c r w'){x:DV}{v:Value}(hv:VD c.bad c.w x v):VD (c.eu w').bad (c.eu w').w x v:=hv.mono h.yc
theorem Touch.aM(h:Touch c r w')(ho:aK G c):aK G (c.eu w') where
 bQ:=fun b hb=>by show b<w'.heap.size;rw[h.size];exact ho.bQ b hb
 bA:=fun i b n hi=>by show b<w'.heap.size/\_;rw[h.size];exact ho.bA i b n hi
 inj:=ho.inj
 sep:=ho.sep
 box:=fun i bx hi=>(ho.box i bx hi).gen (fun _ _=>h.vr) (fun _ _=>h.vd) rfl (fun b n hn=>h.other b (fun e=>by subst e;exact ho.sep i _ n hn h.az))
 fJ:=fun g e hg=>h.vr (ho.fJ g e hg)
theorem Touch.rel(h:Touch c r w'){c0:Cx}(hr:c8 c0 c)(hl:c0.w.heap.size<=r):c8 c0 (c.eu w') where
 lim:=hr.lim
 l5:=hr.l5
 az:=hr.az
 mO:=hr.mO
 os:=h.os.trans hr.os
 tape:=h.tape.trans hr.tape
 output:=h.output.trans hr.output
 size:=by show _<=w'.heap.size;rw[h.size];exact hr.size
 keep:=fun b hb hn=>(h.other b (by omega)).trans (hr.keep b hb hn)
 dy:=hr.dy
 boxes:=fun i bx hi=>uH (fun _ hx=>hx) (fun _ _=>rfl) (hr.boxes i bx hi)
theorem Touch.rows(h:Touch c r w'){lim:Nat}{rows:List bk}(hr:gu lim c rows)(hn:r ∉ rows.flatMap bk.cj):gu lim (c.eu w') rows :=
 ⟨fun g hg=>(hr.each g hg).gen (fun b hb=>⟨(hr.each g hg).az b hb,h.other b (fun e=>hn (List.mem_flatMap.2 ⟨g,hg,e ▸ hb⟩))⟩) (fun _ _=>h.vd) (fun _ _=>h.vr),hr.nodup⟩
variable {o:Obj}
theorem c8.cS{c0:Cx}(hr:c8 c0 c):c8 c0 (c.cS o) where
 lim:=hr.lim
 l5:=hr.l5
 az:=fun b h => .inl (hr.az b h)
 mO:=fun b h=>h.elim (hr.mO b) fun e => .inr (by rw[e];exact hr.size)
 os:=hr.os
 tape:=hr.tape
 output:=hr.output
 size:=by have:=hr.size;show _<=(c.w.alloc o).heap.size;simp;omega
 keep:=fun b hb hn=>by
  show(c.w.alloc o).heap[b]?=_;rw[Below.heap_alloc c.w o b (by have:=hr.size;omega)];exact hr.keep b hb hn
 dy:=hr.dy
 boxes:=fun i bx hi=>uH (fun _ hx=>hx) (fun _ _=>rfl) (hr.boxes i bx hi)
theorem gu.cS{lim:Nat}{rows:List bk}(hr:gu lim c rows)(ho:aK G c):gu lim (c.cS o) rows :=
 ⟨fun g hg=>(hr.each g hg).gen (fun b hb=>⟨.inl ((hr.each g hg).az b hb),Below.heap_alloc c.w o b (ho.bQ _ ((hr.each g hg).az b hb))⟩) (fun _ _=>Cb) (fun _ _=>uL),hr.nodup⟩
end
theorem FL{en:Array MapEntry}{j:Nat}(h:j<en.size):((en[j]?).map (·.born)).getD 0=en[j].born:=by simp[h]
theorem born_inj{en:Array MapEntry}(hn:(en.toList.map (·.born)).Nodup){i j:Nat}(hi:i<en.size)(hj:j<en.size)(h:en[i].born=en[j].born):i=j:=by
 have h1:(en.toList.map (·.born))[i]?=some en[i].born:=by simp[hi]
 have h2:(en.toList.map (·.born))[j]?=some en[i].born:=by simp[hj,h]
 exact Jt hn h1 h2
theorem KI{en:Array MapEntry}(hn:(en.toList.map (·.born)).Nodup){seen:List Nat}(ah:∀ j∈seen,j<en.size){j:Nat}(hj:j<en.size) :
  en[j]∈(leftOf en ((seen.map fun j=>((en[j]?).map (·.born)).getD 0).toArray)).toList↔j ∉ seen:=by
 simp only[leftOf,Array.toList_filter,List.mem_filter,List.contains_toArray,Bool.not_eq_true',List.contains_eq_mem,decide_eq_false_iff_not,List.mem_map,not_exists,not_and];constructor
 ·rintro⟨-,h⟩ hm;exact h j hm (FL hj)
 ·intro h;refine⟨by simp,fun k hk e=>?_⟩;rw[FL (ah k hk)]at e;exact h (born_inj hn (ah k hk) hj e ▸ hk)
section
variable {E:Env} {ag:FuncId} {R:cF} {s:List AV} {h:List af} {lits:List Nat} {ops:Array Oper} {o:Oper} {l:List Oper} {k:List aP}
theorem I.range(hE:E.OK){t kt e b:Nat}{m:Operand}{es:List (DV × DV)}{ti:br}(hg:o.guard=none)(cm:o.op=.range t m)(bV:E.T[t]?=some ti)(hk:ti.k=.map kt e)(hm:aZ E.G s m (.map b))(hb:h[b]?=some (.map es))(FK:R.n<=b)
  (H:∀ i:Iter,i.seen=[]->i.es=es->i.since<=i.ck->I E ag ⟨R.n,R.Q,.iter i::R.rows,R.fx⟩ lits (.bu ops l::k) (bX s o.dst (.d (.raw (.pointer (some ⟨i.r,0,none⟩))))) (h.set b .gone)):I E ag R lits (.bu ops (o::l)::k) s h:=by
 refine .of ?_;unfold AW;intro c0 c t' ew h0 h1 h2 h3 hr bq h4 h5 cs;subst h2;obtain⟨i,hi,ea,aM⟩:=mQ (h1 _ (List.mem_cons_self ..));obtain⟨me,d,g1,g2,g3,-⟩:=cD (hE.types t ti bV);have hd:d=.map kt e:=by rw[hk]at g3;cases d<;>first|(cases g3;rfl)|cases g3
 subst hd;have Sh:=hm c ⟨t',marks R.fx.aL⟩ h3 h4;obtain⟨blk,cap,en,ck,q1,q2,q3,qe,q4⟩:=wG h3 hb Sh;have dz:=h3.cO q2;have uM:=hr.cO q2 (by omega);have xl:(c.cO b blk).w=c.w:=rfl
 let it:Obj := .mapIter (some blk) ck #[] ck
 have fM:aK E.G ((c.cO b blk).cS it):=dz.cS;have FM:c8 c0 ((c.cO b blk).cS it):=uM.cS;have hblk:blk<c.w.heap.size:=(h3.bA b blk cap q2).1
 let gi:Iter:=⟨blk,c.w.heap.size,en,ck,ck,[],es⟩
 have FN:l8 c0.w.heap.size ((c.cO b blk).cS it) gi:=by
  refine⟨.inl (.inr rfl),.inr rfl,hr.size,?_,⟨ck,Nat.le_refl _,fun _=>rfl,?_⟩,qe.born,qe,fun j kk x mm h1 h2=>?_,fun j hj=>by simp[gi]at hj⟩
  ·show(c.w.alloc it).heap[blk]?=_;rw[Below.heap_alloc c.w it blk hblk];exact q3
  ·show(c.w.alloc it).heap[c.w.heap.size]?=_;exact heap_alloc_new _ _
  ·have:=q4.2 j kk x mm h1 (by simpa using h2);exact⟨Cb (uJ q2 this.1),Cb (uJ q2 this.2)⟩
 have pI:cR c0.w.heap.size ((c.cO b blk).cS it) (.iter gi::R.rows) R.fx.loops:=by
  have hold:=(bq.all.cO (b:=b) (blk:=blk) q2).cS (o:=it) dz;refine⟨⟨fun g hg=>?_,?_⟩,fun g hg=>(List.mem_cons.1 hg).elim (fun e=>by subst e;trivial) (bq.flat g)⟩
  ·rcases List.mem_cons.1 hg with rfl|hg
   ·exact FN
   ·exact hold.each g hg
  ·rw[List.cons_append,List.flatMap_cons];refine List.nodup_append.2 ⟨by simp[bk.cj,gi];omega,bq.all.nodup,fun x hx y hy e=>?_⟩;subst e;simp[bk.cj,gi]at hx;rcases hx with rfl|rfl
   ·exact B' bq.all h3 q2 hy
   ·obtain⟨g,hg,hx⟩:=List.mem_flatMap.1 hy;have:=h3.bQ _ ((bq.all.each g hg).az _ hx);omega
 have cI:(execOp (⟨t',marks R.fx.aL⟩:Act).eval o).run E.P c.w=.ok (.value (.pointer (some ⟨c.w.heap.size,0,none⟩))) (c.w.alloc it):=by
  simp only[execOp,cm,q1,Instr.range,newObj,Sem.run_bind,run_underlying g2,Result.andThen_ok,qz q3,Sem.run_pure,Sem.run];rfl
 have dm:VS ((c.cO b blk).cS it) (bX s o.dst (.d (.raw (.pointer (some ⟨c.w.heap.size,0,none⟩))))) ((⟨t',marks R.fx.aL⟩:Act).put o.dst (.pointer (some ⟨c.w.heap.size,0,none⟩))).tmps :=
  VS.bX (a:=⟨t',marks R.fx.aL⟩) ⟨h4.1,fun i x v hx hv=>uL (qM q2 (h4.2 i x v hx hv))⟩ o.dst (.d _ _ (.raw _ rfl))
 have H:=(H gi rfl rfl (Nat.le_refl _)).to;unfold AW at H;obtain⟨c2,fr,rr,u,e1,e2,e3,e4,e5,e6⟩:=H c0 _ _ ew h0 (gC aM (dZ h1)) rfl fM FM pI dm (nQ (fun _ _ hv=>uL (qM q2 hv)) h5) cs;refine⟨c2,fr,rr,u,e1,e2,e3,e4,.head ?_ e5,e6⟩;simp only[b8.bI,List.map_cons,ea];rw[wq hi (fS hg c t' h4) (.inl cI),put_defers];rfl
theorem I.next{x:Operand}{it:Iter}{g1 g2:List bk}(hg:o.guard=none)(cm:o.op=.next x false)(sM:it.since<=it.ck)(pI:R.rows=g1 ++ .iter it::g2)(hx:aZ E.G s x (.d (.raw (.pointer (some ⟨it.r,0,none⟩)))))
  (H0:(∀ j,j<it.es.length->j∈it.seen)->I E ag R lits (.bu ops l::k) (bX s o.dst (.d (.aD [.bool false]))) h)
  (H1:∀ j kk y,it.es[j]?=some (kk,y)->j ∉ it.seen->I E ag ⟨R.n,R.Q,g1 ++ .iter { it with seen:=it.seen++[j] }::g2,R.fx⟩ lits (.bu ops l::k) (bX s o.dst (.d (.aD [.bool true,kk,y]))) h):I E ag R lits (.bu ops (o::l)::k) s h:=by
 refine .of ?_;unfold AW;intro c0 c t' ew h0 h1 h2 h3 hr bq h4 h5 cs;subst h2;obtain⟨i,hi,ea,aM⟩:=mQ (h1 _ (List.mem_cons_self ..));have cG:(⟨t',marks R.fx.aL⟩:Act).eval x=.pointer (some ⟨it.r,0,none⟩):=by
  have:=hx c ⟨t',marks R.fx.aL⟩ h3 h4;generalize (⟨t',marks R.fx.aL⟩:Act).eval x=u at this;cases this with
  |d _ _ hq=>cases hq;rfl
 have Cc:=bq;rw[pI]at Cc;obtain⟨r1,r2,r3⟩:=Cc.uK;have r2:l8 c0.w.heap.size c it:=r2;obtain⟨z0,z1,-,z2⟩:=r2.iter;have bP:it.en.size=it.es.length:=r2.cC.size;rcases run_next_at (P:=E.P) c.w o.type it.r it.bm it.since z0 _ it.en it.ck z2 r2.map r2.old z1 with⟨n1,n2⟩|⟨cC,n1,w1,n2,n3⟩
 ·have H:=(H0 fun j hj=>by
   apply Classical.byContradiction;intro hm;have jL:j<it.en.size:=by omega
   have:=(KI r2.cC.nodup r2.lt jL).2 hm;have hl:(leftOf it.en ((it.seen.map fun j=>((it.en[j]?).map (·.born)).getD 0).toArray)).toList.length=0:=by simpa using n1
   rw[List.eq_nil_of_length_eq_zero hl]at this
   cases this).to
  unfold AW at H;have cI:(execOp (⟨t',marks R.fx.aL⟩:Act).eval o).run E.P c.w=.ok (.value (.tuple #[.bool false])) c.w:=by
   simp only[execOp,cm,cG,Sem.run_bind,n2,Result.andThen_ok,Sem.run_pure]
  have dm:VS c (bX s o.dst (.d (.aD [.bool false]))) ((⟨t',marks R.fx.aL⟩:Act).put o.dst (.tuple #[.bool false])).tmps :=
   VS.bX (a:=⟨t',marks R.fx.aL⟩) h4 o.dst (.d _ _ (.aD _ _ rfl fun j y v hy hv=>by
    match j with
    |0=>simp at hy hv;subst hy;subst hv;exact .bool _
    |j+1=>simp at hy))
  obtain⟨c2,fr,rr,u,e1,e2,e3,e4,e5,e6⟩:=H c0 c _ ew h0 (gC aM (dZ h1)) rfl h3 hr bq dm h5 cs;refine⟨c2,fr,rr,u,e1,e2,e3,e4,.head ?_ e5,e6⟩;simp only[b8.bI,List.map_cons,ea];rw[wq hi (fS hg c t' h4) (.inl cI),put_defers];rfl
 ·have uN:cC∈it.en.toList:=by
   simp only[leftOf,Array.toList_filter,List.mem_filter]at n1;exact n1.1
  obtain⟨j,hj,rfl⟩:=List.getElem_of_mem uN;have jL:j<it.en.size:=by simpa using hj
  have fU:it.en.toList[j]=it.en[j]:=by simp
  rw[fU]at n1 n3;have kH:=(KI r2.cC.nodup r2.lt jL).1 n1;obtain⟨⟨kk,y⟩,KJ⟩:∃ p,it.es[j]?=some p:=⟨it.es[j]'(by omega),by rw[List.getElem?_eq_getElem]⟩;have H:=(H1 j kk y KJ kH).to;unfold AW at H;have ss:=h3.bQ _ r2.yq;have xl:w1.os=c.w.os/\w1.tape=c.w.tape/\w1.output=c.w.output/\w1.heap=c.w.heap:=by rcases n2 with rfl|rfl<;>exact⟨rfl,rfl,rfl,rfl⟩
  obtain⟨a1,a2,a3,a4⟩:=xl;generalize tS:setBlock w1 it.r (.mapIter (some it.bm) it.since (((it.seen.map fun j=>((it.en[j]?).map (·.born)).getD 0).toArray).push it.en[j].born) it.ck)=w' at n3;have pJ:Touch c it.r w':=by
   subst tS;refine⟨r2.yq,a1,a2,a3,by simp[setBlock,a4],fun b hb=>?_⟩;simp only[setBlock,a4];rw[Array.getElem?_setIfInBounds_ne (Ne.symm hb)]
  have Si:it.r ∉ ((g1++g2)++R.fx.loops).flatMap bk.cj:=r3 _ (by simp[bk.cj]);have cX:it.bm≠it.r:=by
   have:=Cc.all.nodup;rw[List.append_assoc,List.cons_append,List.flatMap_append,List.nodup_append]at this;have h6:=this.2.1;rw[List.flatMap_cons,List.nodup_append]at h6;have h7:=h6.1;simp[bk.cj]at h7;exact h7
  have FN:l8 c0.w.heap.size (c.eu w') { it with seen:=it.seen++[j] }:=by
   refine⟨r2.D4,r2.yq,r2.IG,(pJ.other _ cX).trans r2.map,⟨it.ck,?_,fun _=>rfl,?_⟩,r2.old,r2.cC,fun p kk x mm h1 h2=>?_,fun p hp=>?_⟩
   ·exact sM
   ·show w'.heap[it.r]?=_;subst tS;simp only[setBlock,a4];rw[Array.getElem?_setIfInBounds_self_of_lt ss];simp[FL jL]
   ·have:=r2.val p kk x mm h1 h2;exact⟨pJ.vd this.1,pJ.vd this.2⟩
   ·rcases List.mem_append.1 hp with hp|hp
    ·exact r2.lt p hp
    ·simp at hp;subst hp;exact jL
  have Sj:cR c0.w.heap.size (c.eu w') (g1 ++ .iter { it with seen:=it.seen++[j] }::g2) R.fx.loops:=by
   have hold:=pJ.rows r1.all Si;refine⟨⟨fun g hg=>?_,?_⟩,fun g hg=>?_⟩
   ·rcases List.mem_append.1 hg with hg|hg
    ·rcases List.mem_append.1 hg with hg|hg
     ·exact hold.each g (List.mem_append_left _ (List.mem_append_left _ hg))
     ·rcases List.mem_cons.1 hg with rfl|hg
      ·exact FN
      ·exact hold.each g (List.mem_append_left _ (List.mem_append_right _ hg))
    ·exact hold.each g (List.mem_append_right _ hg)
   ·have:=Cc.all.nodup;rw[List.append_assoc,List.cons_append,List.flatMap_append,List.flatMap_cons]at this ⊢;exact this
   ·rcases List.mem_append.1 hg with hg|hg
    ·exact r1.flat g (List.mem_append_left _ hg)
    ·rcases List.mem_cons.1 hg with rfl|hg
     ·trivial
     ·exact r1.flat g (List.mem_append_right _ hg)
  have bH:=r2.val j kk y it.en[j] KJ (by simp[jL]);have cI:(execOp (⟨t',marks R.fx.aL⟩:Act).eval o).run E.P c.w=.ok (.value (.tuple #[.bool true,it.en[j].key,it.en[j].val])) w':=by
   simp only[execOp,cm,cG,Sem.run_bind,n3,Result.andThen_ok,Sem.run_pure]
  have dm:VS (c.eu w') (bX s o.dst (.d (.aD [.bool true,kk,y]))) ((⟨t',marks R.fx.aL⟩:Act).put o.dst (.tuple #[.bool true,it.en[j].key,it.en[j].val])).tmps :=
   VS.bX (a:=⟨t',marks R.fx.aL⟩) ⟨h4.1,fun i x v hx hv=>pJ.vr (h4.2 i x v hx hv)⟩ o.dst (.d _ _ (.aD _ _ rfl fun p z v hz hv=>by
    match p with
    |0=>simp at hz hv;subst hz;subst hv;exact .bool _
    |1=>simp at hz hv;subst hz;subst hv;exact pJ.vd bH.1
    |2=>simp at hz hv;subst hz;subst hv;exact pJ.vd bH.2
    |p+3=>simp at hz))
  obtain⟨c2,fr,rr,u,e1,e2,e3,e4,e5,e6⟩:=H c0 (c.eu w') _ ew h0 (gC aM (dZ h1)) rfl (pJ.aM h3) (pJ.rel hr r2.IG) Sj dm (nQ (fun _ _=>pJ.vr) h5) cs;refine⟨c2,fr,rr,u,e1,e2,e3,e4,.head ?_ e5,e6⟩;simp only[b8.bI,List.map_cons,ea];rw[wq hi (fS hg c t' h4) (.inl cI),put_defers];rfl
end
end Go.ay
end
section
namespace Go.ay
open Go Go.RowKit
section
variable {E:Env} {ag:FuncId} {R:cF} {td:List aP} {s:List AV} {h:List af}
theorem I.pK{lits:List Nat}(b off:Nat)(ts:Nat × Nat)(iR:0<ts.2){cs:List AV}(hb:h[b]?=some (.cells cs))(hd:cs[off]?=some (.d .aH))
  (H:I E ag R lits td s (h.set b (.cells (cs.set off (.own h.length 0)))++[.arr 0 ts []])):I E ag R lits td s h:=by
 replace H:=H.to;refine .of (.kA (fun c t ew h1 h2 h3 h4 h5=>?_) H);subst h2;have eJ:=aQ hb
 let c':Cx:={ c with heap:=c.heap.set b (.cells (cs.set off (.own c.heap.length 0)))++[.arr 0 ts []] }
 have bK:c.own c.heap.length=none:=by
  cases ho:c.own c.heap.length with
  |none=>rfl
  |some p=>have:=(h3.bA _ p.1 p.2 ho).2;omega
 have eb:c'.heap[c.heap.length]?=some (.arr 0 ts []):=by show(c.heap.set b _++_)[_]?=_;rw[List.getElem?_append_right (by simp)];simp
 have KK:c'.heap[b]?=some (.cells (cs.set off (.own c.heap.length 0))):=by
  show(c.heap.set b _++_)[b]?=_;rw[List.getElem?_append_left (by simp;omega),List.getElem?_set_self eJ]
 have qN:∀ i,i≠b->i<c.heap.length->c'.heap[i]?=c.heap[i]? := fun i hi hl=>by
  show(c.heap.set b _++_)[i]?=_;rw[List.getElem?_append_left (by simp;omega),List.getElem?_set_ne (Ne.symm hi)]
 have bg:Step c c':=⟨rfl,h3.bQ,rfl,rfl,rfl,Nat.le_refl _,fun _ _ _=>rfl,fun i x n hi _=>⟨n,hi⟩,fun i bx hi=>by
  by_cases bE:i=b
  ·subst bE;rw[hb]at hi;cases hi;exact .inl ⟨_,KK,rfl,by simp⟩
  ·exact l6 hi (qN i bE (aQ hi)) rfl⟩
 have aM:aK E.G c':=h3.next bg (fun i x n hi=>by
   have:=h3.bA i x n hi;refine⟨this.1,?_⟩;show i<(c.heap.set b _++_).length;simp;omega) h3.inj (fun i bx hi=>by
  by_cases fR:i=c.heap.length
  ·subst fR;rw[eb]at hi;cases hi;exact .inr ⟨iR,fun i e he=>by simp at he,.inl ⟨bK,rfl⟩⟩
  ·have ah:i<c.heap.length:=by
    have h1:=aQ hi;have h2:c'.heap.length=c.heap.length+1:=by show(c.heap.set b _++_).length=_;simp
    omega
   by_cases bE:i=b
   ·subst bE;rw[KK]at hi;cases hi;right;obtain⟨blk,cap,vs,ty,g1,g2,g3,g4⟩:=h3.box i _ hb;refine⟨blk,cap,vs,ty,g1,g2,by simpa using g3,fun j x v hx hv=>?_⟩;by_cases hj:j=off
    ·subst hj;rw[List.getElem?_set_self (aQ hd)]at hx;cases hx;have:=g4 j _ v hd hv;cases this with
     |d _ _ hq=>cases hq;exact .iu _ _ ts eb bK
    ·rw[List.getElem?_set_ne (Ne.symm hj)]at hx;exact bg.vr (g4 j x v hx hv)
   ·rw[qN i bE ah]at hi
    exact .inl ⟨hi,rfl,fun _ _ _=>rfl⟩)
 exact⟨c',t,ew,h1,rfl,aM,bg.vs h4,bg.cr h5,bg,fun _ => .refl _ _⟩
end
end Go.ay
end
