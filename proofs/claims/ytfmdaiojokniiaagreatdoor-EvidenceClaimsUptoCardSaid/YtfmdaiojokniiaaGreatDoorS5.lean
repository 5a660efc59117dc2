/- Lemmas of mine. Conditions: as stated. -/
import Derived.Test.YtfmdaiojokniiaaGreatDoorS3
import Derived.Maps.RangeRun
set_option linter.unusedVariables false
set_option linter.unusedSimpArgs false
open Array renaming toList_filter->agK
open List renaming getElem?_set_ne->aej,append_assoc->afb,getElem?_set_self->aei,mem_append->aeI,mem_append_left->agc,mem_cons->afu,nodup_append->aeK,flatMap_cons->aeb,mem_append_right->agd,cons_append->aeH,getElem?_append_left->ael,mem_flatMap->afd,flatMap_append->agJ,map_cons->ad0,length_set->aeX,mem_cons_of_mem->aeR,mem_filter->agL,mem_cons_self->aeQ
open Nat renaming le_refl->aed
open Go.Result renaming andThen_ok->adU
open Go.Sem renaming run_bind->adT,run_pure->adS
section
namespace Go.aA
open Go Go.RowKit
open Go.ChangeMaps (setBlock)
theorem uZ{c0 c c':Cx}{i:Nat}(hh:∀ x,c.heap[i]?=some x->c'.heap[i]?=some x)(ho:∀ x,c.heap[i]?=some x->c'.own i=c.own i){bx:af}(h:yM c0 c i bx):yM c0 c' i bx:=by
 cases bx with
 |cells cs =>
  rcases h with⟨cs',h1,h2,h3⟩|h1
  ·exact .inl ⟨cs',hh _ h1,(ho _ h1).trans h2,h3⟩
  ·exact .inr (hh _ h1)
 |arr g sz l =>
  rcases h with⟨g',l',h1,h2⟩|h1
  ·refine .inl ⟨g',l',hh _ h1,?_⟩;rcases h2 with h2|⟨h2,h3,h4⟩
   ·exact .inl h2
   ·exact .inr ⟨h2,h3,(ho _ h1).trans h4⟩
  ·exact .inr (hh _ h1)
 |map es =>
  rcases h with⟨ee,h1,h2⟩|h1
  ·exact .inl ⟨ee,hh _ h1,(ho _ h1).trans h2⟩
  ·exact .inr (hh _ h1)
 |gone=>exact hh _ h
 |hole=>obtain⟨b,h⟩:=h;exact⟨b,hh _ h⟩
section
variable {G:List (Nat × DV)} {c:Cx} {bx:af} {blk cap:Nat}
def Cx.cL(c:Cx)(bx:af)(blk cap:Nat):Cx:=⟨fun i=>if i=c.heap.length then some (blk,cap)else c.own i,c.heap++[bx],fun b=>c.aE b/\b≠blk,c.w⟩
theorem Tl(ho:aM G c)(hb:c.aE blk)(b:Nat):(c.cL bx blk cap).bad b↔c.bad b:=by
 constructor
 ·rintro(h|⟨i,n,h⟩)
  ·exact .inl h.1
  ·simp only[Cx.cL]at h;split at h
   ·cases h;exact .inl hb
   ·exact .inr ⟨i,n,h⟩
 ·rintro(h|⟨i,n,h⟩)
  ·by_cases e:b=blk
   ·subst e;exact .inr ⟨c.heap.length,cap,by simp[Cx.cL]⟩
   ·exact .inl ⟨h,e⟩
  ·refine .inr ⟨i,n,?_⟩;have:=(ho.bB i b n h).2;simp only[Cx.cL];rw[if_neg (by omega)];exact h
theorem Lx(ho:aM G c)(hb:c.aE blk)(b:Nat)(_:b<c.w.heap.size)(hn:¬ c.bad b):¬ (c.cL bx blk cap).bad b/\(c.cL bx blk cap).w.heap[b]?=c.w.heap[b]? := ⟨fun h=>hn ((Tl ho hb b).1 h),rfl⟩
theorem Ly{i:Nat}{b:af}(hi:c.heap[i]?=some b):(c.cL bx blk cap).heap[i]?=c.heap[i]? := ael (aX hi)
theorem Gj{i:Nat}{b:af}(hi:c.heap[i]?=some b):(c.cL bx blk cap).own i=c.own i:=by
 have:=aX hi;simp only[Cx.cL];rw[if_neg (by omega)]
theorem va(ho:aM G c)(hb:c.aE blk){x:AV}{v:Value}(hv:VR c x v):VR (c.cL bx blk cap) x v:=sj (Lx ho hb) (fun _ _ hi=>ml hi (Ly hi) (Gj hi)) hv
theorem Cw(ho:aM G c)(hb:c.aE blk){x:DV}{v:Value}(hv:VD c.bad c.w x v):VD (c.cL bx blk cap).bad (c.cL bx blk cap).w x v:=hv.mono (Lx ho hb)
theorem aM.cL(ho:aM G c)(hb:c.aE blk)(iY:ka (c.cL bx blk cap) c.heap.length bx):aM G (c.cL bx blk cap) where
 bS:=fun b h=>ho.bS b h.1
 bB:=fun i b n hi=>by
  have hl:(c.cL bx blk cap).heap.length=c.heap.length+1:=by simp[Cx.cL]
  simp only[Cx.cL]at hi;split at hi
  ·cases hi;exact⟨ho.bS _ hb,by omega⟩
  ·have:=ho.bB i b n hi;exact⟨this.1,by omega⟩
 inj:=fun i j b n m hi hj=>by
  simp only[Cx.cL]at hi hj;split at hi<;>split at hj
  ·omega
  ·cases hi;exact absurd hb (ho.sep j _ m hj)
  ·cases hj;exact absurd hb (ho.sep i _ n hi)
  ·exact ho.inj i j b n m hi hj
 sep:=fun i b n hi h=>by
  simp only[Cx.cL]at hi;split at hi
  ·cases hi;exact h.2 rfl
  ·exact ho.sep i b n hi h.1
 box:=fun i b hx=>by
  rcases Nat.lt_trichotomy i c.heap.length with hi|rfl|hi
  ·have eh:c.heap[i]?=some b:=by
    have:(c.cL bx blk cap).heap[i]?=c.heap[i]? := ael hi
    rwa [this]at hx
   exact(ho.box i b eh).gen (fun _ _=>va ho hb) (fun _ _=>Cw ho hb) (Gj eh) (fun _ _ _=>rfl)
  ·have:b=bx:=by simp[Cx.cL]at hx;exact hx.symm
   subst this;exact iY
  ·rw[List.getElem?_eq_none (by simp[Cx.cL];omega)]at hx;cases hx
 fS:=fun g e hg=>va ho hb (ho.fS g e hg)
theorem dc.cL{c0:Cx}(hr:dc c0 c)(hb:c0.w.heap.size<=blk):dc c0 (c.cL bx blk cap) where
 lim:=hr.lim
 mj:=hr.mj
 aE:=fun b h=>⟨hr.aE b h,fun e=>by subst e;have:=hr.lim _ h;omega⟩
 nb:=fun b h=>hr.nb b h.1
 os:=hr.os
 tape:=hr.tape
 output:=hr.output
 size:=hr.size
 keep:=hr.keep
 dB:=fun i b n hi ah=>by
  simp only[Cx.cL]at hi;split at hi
  ·cases hi;omega
  ·exact hr.dB i b n hi ah
 boxes:=fun i bx hi=>uZ (fun x hx=>(Ly hx).trans hx) (fun x hx=>Gj hx) (hr.boxes i bx hi)
theorem gH.cL{lim:Nat}{rows:List bo}(h:gH lim c rows)(ho:aM G c)(hb:c.aE blk)(hn:blk ∉ rows.flatMap bo.cm):gH lim (c.cL bx blk cap) rows :=
 ⟨fun r hr=>(h.each r hr).gen (fun b LA=>⟨⟨(h.each r hr).aE b LA,fun e=>hn (afd.2 ⟨r,hr,e ▸ LA⟩)⟩,rfl⟩) (fun _ _=>Cw ho hb) (fun _ _=>va ho hb),h.nodup⟩
def Cx.cQ(c:Cx)(b blk:Nat):Cx:=⟨fun i=>if i=b then none else c.own i,c.heap.set b .gone,fun x=>c.aE x\/x=blk,c.w⟩
variable {b:Nat}
theorem xH{i:Nat}{p:Nat × Nat}(hi:(c.cQ b blk).own i=some p):i≠b/\c.own i=some p:=by
 simp only[Cx.cQ]at hi;split at hi
 ·cases hi
 ·rename_i q;exact⟨q,hi⟩
theorem Tm(hb:c.own b=some (blk,cap))(x:Nat):(c.cQ b blk).bad x↔c.bad x:=by
 constructor
 ·rintro((h|h)|⟨i,n,h⟩)
  ·exact .inl h
  ·subst h;exact .inr ⟨b,cap,hb⟩
  ·exact .inr ⟨i,n,(xH h).2⟩
 ·rintro(h|⟨i,n,h⟩)
  ·exact .inl (.inl h)
  ·by_cases e:i=b
   ·subst e;rw[hb]at h;cases h;exact .inl (.inr rfl)
   ·exact .inr ⟨i,n,by simp only[Cx.cQ,if_neg e];exact h⟩
theorem LB(hb:c.own b=some (blk,cap))(x:Nat)(_:x<c.w.heap.size)(hn:¬ c.bad x):¬ (c.cQ b blk).bad x/\(c.cQ b blk).w.heap[x]?=c.w.heap[x]? := ⟨fun h=>hn ((Tm hb x).1 h),rfl⟩
theorem Tn{i:Nat}{y:af}(hi:c.heap[i]?=some y):tY c (c.cQ b blk) i y:=by
 by_cases e:i=b
 ·subst e;have hg:(c.cQ i blk).heap[i]?=some .gone:=aei (aX hi);cases y with
  |cells cs=>exact .inr hg
  |arr g sz l=>exact .inr hg
  |map es=>exact .inr hg
  |gone=>exact hg
  |hole=>exact⟨_,hg⟩
 ·exact ml hi (aej (Ne.symm e)) (by simp only[Cx.cQ,if_neg e])
theorem rf(hb:c.own b=some (blk,cap)){x:AV}{v:Value}(hv:VR c x v):VR (c.cQ b blk) x v:=sj (LB hb) (fun _ _=>Tn) hv
theorem vb(hb:c.own b=some (blk,cap)){x:DV}{v:Value}(hv:VD c.bad c.w x v):VD (c.cQ b blk).bad (c.cQ b blk).w x v:=hv.mono (LB hb)
theorem aM.cQ(ho:aM G c)(hb:c.own b=some (blk,cap)):aM G (c.cQ b blk) where
 bS:=fun x h=>h.elim (ho.bS x) fun e=>by subst e;exact(ho.bB b _ cap hb).1
 bB:=fun i x n hi=>by
  have:=ho.bB i x n (xH hi).2;refine⟨this.1,?_⟩;show i<(c.heap.set b .gone).length;rw[aeX];exact this.2
 inj:=fun i j x n m hi hj=>ho.inj i j x n m (xH hi).2 (xH hj).2
 sep:=fun i x n hi h=>by
  obtain⟨h1,h2⟩:=xH hi;rcases h with h|h
  ·exact ho.sep i x n h2 h
  ·subst h;exact h1 (ho.inj i b x n cap h2 hb)
 box:=fun i y hx=>by
  by_cases e:i=b
  ·subst e;have ah:i<c.heap.length:=(ho.bB i _ cap hb).2;have:(c.cQ i blk).heap[i]?=some .gone:=aei ah;rw[this]at hx;cases hx;show(c.cQ i blk).own i=none;simp[Cx.cQ]
  ·have eh:c.heap[i]?=some y:=by
    have:(c.cQ b blk).heap[i]?=c.heap[i]? := aej (Ne.symm e)
    rwa [this]at hx
   exact(ho.box i y eh).gen (fun _ _=>rf hb) (fun _ _=>vb hb) (by simp only[Cx.cQ,if_neg e]) (fun _ _ _=>rfl)
 fS:=fun g e hg=>rf hb (ho.fS g e hg)
theorem Cy{c0:Cx}(hr:dc c0 c)(hb:c.own b=some (blk,cap))(hn:c0.heap.length<=b):c0.w.heap.size<=blk:=by
 rcases Nat.lt_or_ge blk c0.w.heap.size with h|h
 ·obtain⟨m,hm⟩:=hr.dB b blk cap hb h;have:=hr.mj b _ hm;omega
 ·exact h
theorem dc.cQ{c0:Cx}(hr:dc c0 c)(hb:c.own b=some (blk,cap))(hn:c0.heap.length<=b):dc c0 (c.cQ b blk) where
 lim:=hr.lim
 mj:=hr.mj
 aE:=fun x h => .inl (hr.aE x h)
 nb:=fun x h=>h.elim (hr.nb x) fun e => .inr (by subst e;exact Cy hr hb hn)
 os:=hr.os
 tape:=hr.tape
 output:=hr.output
 size:=hr.size
 keep:=hr.keep
 dB:=fun i x n hi ah=>hr.dB i x n (xH hi).2 ah
 boxes:=fun i bx hi=>by
  have bF:i≠b:=fun e=>by have:=aX hi;omega
  exact uZ (fun x hx=>(aej (Ne.symm bF)).trans hx) (fun x hx=>by simp only[Cx.cQ,if_neg bF]) (hr.boxes i bx hi)
theorem gH.cQ{lim:Nat}{rows:List bo}(h:gH lim c rows)(hb:c.own b=some (blk,cap)):gH lim (c.cQ b blk) rows :=
 ⟨fun r hr=>(h.each r hr).gen (fun x hx=>⟨.inl ((h.each r hr).aE x hx),rfl⟩) (fun _ _=>vb hb) (fun _ _=>rf hb),h.nodup⟩
theorem Cz{lim:Nat}{rows:List bo}(h:gH lim c rows)(ho:aM G c)(hb:c.own b=some (blk,cap)):blk ∉ rows.flatMap bo.cm:=fun hm=>by
 obtain⟨r,hr,hx⟩:=afd.1 hm;exact ho.sep b blk cap hb ((h.each r hr).aE blk hx)
theorem To{α:Type}{a b c:List α}(h:(a++b++c).Nodup):(a++c).Nodup/\∀ x∈b,x ∉ a++c:=by
 have hp:(a++b++c).Perm (b++(a++c)):=by
  rw[afb,<- afb b a c];refine(List.Perm.trans ?_ (List.Perm.append_right c List.perm_append_comm));rw[afb]
 have h2:=(hp.nodup_iff).1 h;rw[aeK]at h2;exact⟨h2.2.1,fun x hx eh=>h2.2.2 x hx x eh rfl⟩
theorem gH.vc{lim:Nat}{g1 g2:List bo}{g:bo}(h:gH lim c (g1++g::g2)):gH lim c (g1++g2)/\ja lim c g/\∀ x∈g.cm,x ∉ (g1++g2).flatMap bo.cm:=by
 have hn:=h.nodup;rw[agJ,aeb,<- afb]at hn;obtain⟨h1,h2⟩:=To hn;rw[<- agJ]at h1 h2;refine⟨⟨fun r hr=>h.each r ?_,h1⟩,h.each g (by simp),h2⟩;rcases aeI.1 hr with hr|hr
 ·exact agc _ hr
 ·exact agd _ (aeR _ hr)
end
theorem cT.vc{lim:Nat}{c:Cx}{g1 g2 L:List bo}{g:bo}(h:cT lim c (g1++g::g2) L):cT lim c (g1++g2) L/\ja lim c g/\∀ x∈g.cm,x ∉ ((g1++g2)++L).flatMap bo.cm:=by
 have h1:=h.all;rw[afb,aeH]at h1;obtain⟨k1,k2,k3⟩:=h1.vc;rw[<- afb]at k1 k3;refine⟨⟨k1,fun x hx=>h.flat x ?_⟩,k2,k3⟩;rcases aeI.1 hx with hx|hx
 ·exact agc _ hx
 ·exact agd _ (aeR _ hx)
theorem CA{c:Cx}{s:List AV}{t:Array Value}(hv:VS c s t){d:Nat}{x:AV}(hx:∀ v,t[d]?=some v->VR c x v):VS c (s.set d x) t:=by
 refine⟨by simpa using hv.1,fun i y u hy hu=>?_⟩;by_cases hd:d=i
 ·subst hd;have hl:d<s.length:=by have:=aX hy;simpa using this
  rw[aei hl]at hy;cases hy;exact hx u hu
 ·rw[aej hd]at hy;exact hv.2 i y u hy hu
section
variable {E:Env} {aj:FuncId} {R:cF} {td:List aT} {s:List AV} {h:List af} {lits:List Nat}
theorem J.borrow(d:Nat){bA:Row}{n:Nat}{g1 g2:List bo}(p9:R.rows=g1 ++ .row bA::g2)(hd:s[d]?=some (.d (.raw (.slice (some ⟨bA.blk,0,none⟩) n bA.cap))))(hn:n=bA.l.length)
  (H:J E aj ⟨R.n,R.Q,g1++g2,R.fx⟩ lits td (s.set d (.own h.length 0)) (h++[.arr 0 bA.ts bA.l])):J E aj R lits td s h:=by
 replace H:=H.to;refine .of ?_;unfold AW at H ⊢;intro c0 c t eD h0 h1 h2 h3 hr br h4 h5 cs;subst h2;rw[p9]at br;obtain⟨r1,r2,r3⟩:=br.vc;have r2:mn c0.w.heap.size c bA:=r2;have z6:bA.blk ∉ ((g1++g2)++R.fx.loops).flatMap bo.cm:=r3 _ (by simp[bo.cm]);have dG:(c.cL (.arr 0 bA.ts bA.l) bA.blk bA.cap).heap[c.heap.length]?=some (.arr 0 bA.ts bA.l):=by simp[Cx.cL]
 have bH:(c.cL (.arr 0 bA.ts bA.l) bA.blk bA.cap).own c.heap.length=some (bA.blk,bA.cap):=by simp[Cx.cL]
 have aP:aM E.G (c.cL (.arr 0 bA.ts bA.l) bA.blk bA.cap):=h3.cL r2.aE (by
  obtain⟨q1,q2,q3,q4,vs,q5,q6,q7,q8,q9⟩:=r2;refine⟨q3,q4,.inr ⟨bA.blk,bA.cap,vs,bH,q5,q6,q7,q8,fun i j e x he hx=>?_⟩⟩;obtain⟨v,k1,k2,k3⟩:=q9 i j e x he hx
  exact⟨v,k1,k2,Cw h3 q1 k3⟩)
 have eT:VS (c.cL (.arr 0 bA.ts bA.l) bA.blk bA.cap) s t:=⟨h4.1,fun i x v hx hv=>va h3 r2.aE (h4.2 i x v hx hv)⟩
 have:=H c0 (c.cL (.arr 0 bA.ts bA.l) bA.blk bA.cap) t eD h0 h1 rfl aP (hr.cL r2.new) ⟨r1.all.cL h3 r2.aE z6,r1.flat⟩ (CA eT fun v hv=>by
  have eK:=h4.2 d _ v hd hv;cases eK with
  |d _ _ hq =>
   cases hq;subst hn
   exact .own _ 0 bA.ts bA.l bA.blk bA.cap dG bH) (od (fun _ _=>va h3 r2.aE) h5) cs
 exact this
theorem J.cQ(d b:Nat){g:Nat}{ts:Nat × Nat}{l:List DV}(hb:h[b]?=some (.arr g ts l))(Gk:R.n<=b)(hd:s[d]?=some (.own b g))
  (H0:l=[]->J E aj R lits td (s.set d (.d (.raw (.slice none 0 0)))) (h.set b .gone))
  (H:∀ blk cap,J E aj ⟨R.n,R.Q,.row ⟨blk,cap,ts,l⟩::R.rows,R.fx⟩ lits td (s.set d (.d (.raw (.slice (some ⟨blk,0,none⟩) l.length cap)))) (h.set b .gone)):J E aj R lits td s h:=by
 refine .of ?_;unfold AW;intro c0 c t eD h0 h1 h2 h3 hr br h4 h5 cs;subst h2;obtain⟨q0,q1,q2⟩:=h3.box b _ hb;rcases q2 with⟨q2,q3⟩|⟨blk,cap,vs,q2,q3,q4,q5,q6,q7⟩
 ·subst q3;have H:=(H0 rfl).to
  let c':Cx:={ c with own:=fun i=>if i=b then none else c.own i,heap:=c.heap.set b .gone }
  have fh:c'.heap[b]?=some .gone:=aei (aX hb);have bH:∀ i,c'.own i=c.own i:=fun i=>by
   simp only[c'];split
   ·rename_i e;subst e;exact q2.symm
   ·rfl
  have oR:∀ x,c'.bad x↔c.bad x:=fun x=>by
   constructor
   ·rintro(h|⟨i,n,h⟩)
    ·exact .inl h
    ·exact .inr ⟨i,n,(bH i) ▸ h⟩
   ·rintro(h|⟨i,n,h⟩)
    ·exact .inl h
    ·exact .inr ⟨i,n,(bH i).trans h⟩
  have bg:Step c c':=⟨rfl,h3.bS,rfl,rfl,rfl,aed _,fun _ _ _=>rfl,fun i x n hi _=>⟨n,(bH i) ▸ hi⟩,fun i bx hi=>by
   by_cases e:i=b
   ·subst e;rw[hb]at hi;cases hi;exact .inr fh
   ·exact ml hi (aej (Ne.symm e)) (bH i)⟩
  have aP:aM E.G c':=h3.next bg (fun i x n hi=>by
    have:=h3.bB i x n ((bH i) ▸ hi);refine⟨this.1,?_⟩;show i<(c.heap.set b .gone).length;rw[aeX];exact this.2) (fun i j x n m hi hj=>h3.inj i j x n m ((bH i) ▸ hi) ((bH j) ▸ hj)) (fun i bx hi=>by
   by_cases e:i=b
   ·subst e;rw[fh]at hi;cases hi;right;show c'.own i=none;simp[c']
   ·have:c'.heap[i]?=c.heap[i]? := aej (Ne.symm e);rw[this]at hi
    exact .inl ⟨hi,bH i,fun _ _ _=>rfl⟩)
  unfold AW at H;refine H c0 c' t eD h0 h1 rfl aP (hr.step bg) (br.step h3 bg) (CA (bg.vs h4) fun v hv=>?_) (bg.cr h5) cs;have eK:=h4.2 d _ v hd hv;rcases kW hb eK with⟨blk,cap,r1,rfl⟩|⟨-,rfl,-⟩
  ·rw[q2]at r1;cases r1
  ·exact .d _ _ (.raw _ rfl)
 ·have H:=(H blk cap).to;unfold AW at H;have dF:=Cy hr q2 (by omega);have aP:=h3.cQ q2;refine H c0 (c.cQ b blk) t eD h0 h1 rfl aP (hr.cQ q2 (by omega)) ⟨⟨fun r o8=>?_,?_⟩,fun g hg=>(afu.1 hg).elim (fun e=>by subst e;trivial) (br.flat g)⟩ (CA ⟨h4.1,fun i x v hx hv=>rf q2 (h4.2 i x v hx hv)⟩ fun v hv=>?_) (od (fun _ _=>rf q2) h5) cs
  ·rcases afu.1 o8 with rfl|o8
   ·show mn c0.w.heap.size (c.cQ b blk) ⟨blk,cap,ts,l⟩
    exact⟨Or.inr rfl,dF,q0,q1,vs,q3,q4,q5,q6,fun i j e x he hx=>by
     obtain⟨v,k1,k2,k3⟩:=q7 i j e x he hx
     exact⟨v,k1,k2,vb q2 k3⟩⟩
   ·exact(br.all.cQ q2).each r o8
  ·rw[aeH,aeb];refine aeK.2 ⟨by simp[bo.cm],br.all.nodup,fun x hx y hy e=>?_⟩;simp[bo.cm]at hx;subst hx;subst e;exact Cz br.all h3 q2 hy
  ·have eK:=h4.2 d _ v hd hv;rcases kW hb eK with⟨iX,gZ,r1,rfl⟩|⟨rfl,rfl,r1⟩
   ·rw[q2]at r1;cases r1;exact .d _ _ (.raw _ rfl)
   ·rw[q2]at r1;cases r1
end
end Go.aA
end
section
namespace Go.aA
open Go Go.RowKit
def Cx.cU(c:Cx)(o:Obj):Cx:=⟨c.own,c.heap,fun b=>c.aE b\/b=c.w.heap.size,c.w.alloc o⟩
section
variable {G:List (Nat × DV)} {c:Cx} {o:Obj}
theorem LC(b:Nat)(hb:b<c.w.heap.size)(hn:¬ c.bad b):¬ (c.cU o).bad b/\(c.cU o).w.heap[b]?=c.w.heap[b]? := by
 refine⟨?_,Below.heap_alloc c.w o b hb⟩;rintro((h|h)|⟨i,n,h⟩)
 ·exact hn (.inl h)
 ·omega
 ·exact hn (.inr ⟨i,n,h⟩)
theorem ve{x:AV}{v:Value}(hv:VR c x v):VR (c.cU o) x v:=sj LC (fun _ _ hi=>ml hi rfl rfl) hv
theorem CB{x:DV}{v:Value}(hv:VD c.bad c.w x v):VD (c.cU o).bad (c.cU o).w x v:=hv.mono LC
theorem aM.cU(ho:aM G c):aM G (c.cU o) where
 bS:=fun b hb=>by
  have hs:(c.cU o).w.heap.size=c.w.heap.size+1:=by simp[Cx.cU]
  rcases hb with hb|hb
  ·have:=ho.bS b hb;omega
  ·omega
 bB:=fun i b n hi=>by
  have hs:(c.cU o).w.heap.size=c.w.heap.size+1:=by simp[Cx.cU]
  have:=ho.bB i b n hi;exact⟨by omega,this.2⟩
 inj:=ho.inj
 sep:=fun i b n hi hb=>hb.elim (ho.sep i b n hi) (fun e=>by have:=(ho.bB i b n hi).1;omega)
 box:=fun i bx hx=>(ho.box i bx hx).gen (fun _ _=>ve) (fun _ _=>CB) rfl (fun b n hn=>Below.heap_alloc c.w o b (ho.bB i b n hn).1)
 fS:=fun g e hg=>ve (ho.fS g e hg)
end
open Go.ChangeMaps (setBlock)
section
variable {G:List (Nat × DV)} {c:Cx} {r:Nat} {w':World}
structure Touch(c:Cx)(r:Nat)(w':World):Prop where
 aE:c.aE r
 os:w'.os=c.w.os
 tape:w'.tape=c.w.tape
 output:w'.output=c.w.output
 size:w'.heap.size=c.w.heap.size
 other:∀ b,b≠r->w'.heap[b]?=c.w.heap[b]?
theorem Touch.yz(h:Touch c r w')(b:Nat)(_:b<c.w.heap.size)(hn:¬ c.bad b):¬ (c.eB w').bad b/\(c.eB w').w.heap[b]?=c.w.heap[b]? :=
 ⟨hn,h.other b (fun e=>by subst e;exact hn (.inl h.aE))⟩
theorem Touch.vr(h:Touch c r w'){x:AV}{v:Value}(hv:VR c x v):VR (c.eB w') x v:=sj h.yz (fun _ _ hi=>ml hi rfl rfl) hv
theorem Touch.vd(h:Touch c r w'){x:DV}{v:Value}(hv:VD c.bad c.w x v):VD (c.eB w').bad (c.eB w').w x v:=hv.mono h.yz
theorem Touch.aP(h:Touch c r w')(ho:aM G c):aM G (c.eB w') where
 bS:=fun b hb=>by show b<w'.heap.size;rw[h.size];exact ho.bS b hb
 bB:=fun i b n hi=>by show b<w'.heap.size/\_;rw[h.size];exact ho.bB i b n hi
 inj:=ho.inj
 sep:=ho.sep
 box:=fun i bx hi=>(ho.box i bx hi).gen (fun _ _=>h.vr) (fun _ _=>h.vd) rfl (fun b n hn=>h.other b (fun e=>by subst e;exact ho.sep i _ n hn h.aE))
 fS:=fun g e hg=>h.vr (ho.fS g e hg)
theorem Touch.rel(h:Touch c r w'){c0:Cx}(hr:dc c0 c)(hl:c0.w.heap.size<=r):dc c0 (c.eB w') where
 lim:=hr.lim
 mj:=hr.mj
 aE:=hr.aE
 nb:=hr.nb
 os:=h.os.trans hr.os
 tape:=h.tape.trans hr.tape
 output:=h.output.trans hr.output
 size:=by show _<=w'.heap.size;rw[h.size];exact hr.size
 keep:=fun b hb hn=>(h.other b (by omega)).trans (hr.keep b hb hn)
 dB:=hr.dB
 boxes:=fun i bx hi=>uZ (fun _ hx=>hx) (fun _ _=>rfl) (hr.boxes i bx hi)
theorem Touch.rows(h:Touch c r w'){lim:Nat}{rows:List bo}(hr:gH lim c rows)(hn:r ∉ rows.flatMap bo.cm):gH lim (c.eB w') rows :=
 ⟨fun g hg=>(hr.each g hg).gen (fun b hb=>⟨(hr.each g hg).aE b hb,h.other b (fun e=>hn (afd.2 ⟨g,hg,e ▸ hb⟩))⟩) (fun _ _=>h.vd) (fun _ _=>h.vr),hr.nodup⟩
variable {o:Obj}
theorem dc.cU{c0:Cx}(hr:dc c0 c):dc c0 (c.cU o) where
 lim:=hr.lim
 mj:=hr.mj
 aE:=fun b h => .inl (hr.aE b h)
 nb:=fun b h=>h.elim (hr.nb b) fun e => .inr (by rw[e];exact hr.size)
 os:=hr.os
 tape:=hr.tape
 output:=hr.output
 size:=by have:=hr.size;show _<=(c.w.alloc o).heap.size;simp;omega
 keep:=fun b hb hn=>by
  show(c.w.alloc o).heap[b]?=_;rw[Below.heap_alloc c.w o b (by have:=hr.size;omega)];exact hr.keep b hb hn
 dB:=hr.dB
 boxes:=fun i bx hi=>uZ (fun _ hx=>hx) (fun _ _=>rfl) (hr.boxes i bx hi)
theorem gH.cU{lim:Nat}{rows:List bo}(hr:gH lim c rows)(ho:aM G c):gH lim (c.cU o) rows :=
 ⟨fun g hg=>(hr.each g hg).gen (fun b hb=>⟨.inl ((hr.each g hg).aE b hb),Below.heap_alloc c.w o b (ho.bS _ ((hr.each g hg).aE b hb))⟩) (fun _ _=>CB) (fun _ _=>ve),hr.nodup⟩
end
theorem Gl{en:Array MapEntry}{j:Nat}(h:j<en.size):((en[j]?).map (·.born)).getD 0=en[j].born:=by simp[h]
theorem born_inj{en:Array MapEntry}(hn:(en.toList.map (·.born)).Nodup){i j:Nat}(hi:i<en.size)(hj:j<en.size)(h:en[i].born=en[j].born):i=j:=by
 have h1:(en.toList.map (·.born))[i]?=some en[i].born:=by simp[hi]
 have h2:(en.toList.map (·.born))[j]?=some en[i].born:=by simp[hj,h]
 exact Kl hn h1 h2
theorem LD{en:Array MapEntry}(hn:(en.toList.map (·.born)).Nodup){seen:List Nat}(ah:∀ j∈seen,j<en.size){j:Nat}(hj:j<en.size) :
  en[j]∈(leftOf en ((seen.map fun j=>((en[j]?).map (·.born)).getD 0).toArray)).toList↔j ∉ seen:=by
 simp only[leftOf,agK,agL,List.contains_toArray,Bool.not_eq_true',List.contains_eq_mem,decide_eq_false_iff_not,List.mem_map,not_exists,not_and];constructor
 ·rintro⟨-,h⟩ hm;exact h j hm (Gl hj)
 ·intro h;refine⟨by simp,fun k hk e=>?_⟩;rw[Gl (ah k hk)]at e;exact h (born_inj hn (ah k hk) hj e ▸ hk)
section
variable {E:Env} {aj:FuncId} {R:cF} {s:List AV} {h:List af} {lits:List Nat} {ops:Array Oper} {o:Oper} {l:List Oper} {k:List aT}
theorem J.range(hE:E.OK){t kt e b:Nat}{m:Operand}{es:List (DV × DV)}{ti:bu}(hg:o.guard=none)(cn:o.op=.range t m)(bX:E.T[t]?=some ti)(hk:ti.k=.map kt e)(hm:bh E.G s m (.map b))(hb:h[b]?=some (.map es))(Gk:R.n<=b)
  (H:∀ i:Iter,i.seen=[]->i.es=es->i.since<=i.ck->J E aj ⟨R.n,R.Q,.iter i::R.rows,R.fx⟩ lits (.bw ops l::k) (b8 s o.dst (.d (.raw (.pointer (some ⟨i.r,0,none⟩))))) (h.set b .gone)):J E aj R lits (.bw ops (o::l)::k) s h:=by
 refine .of ?_;unfold AW;intro c0 c t' eD h0 h1 h2 h3 hr br h4 h5 cs;subst h2;obtain⟨i,hi,eo,aP⟩:=nf (h1 _ (aeQ ..));obtain⟨mz,d,g1,g2,g3,-⟩:=cC (hE.types t ti bX);have hd:d=.map kt e:=by rw[hk]at g3;cases d<;>first|(cases g3;rfl)|cases g3
 subst hd;have Tp:=hm c ⟨t',marks R.fx.aN⟩ h3 h4;obtain⟨blk,cap,en,ck,q1,q2,q3,qe,q4⟩:=w8 h3 hb Tp;have dm:=h3.cQ q2;have vf:=hr.cQ q2 (by omega);have xI:(c.cQ b blk).w=c.w:=rfl
 let it:Obj := .mapIter (some blk) ck #[] ck
 have fL:aM E.G ((c.cQ b blk).cU it):=dm.cU;have Gm:dc c0 ((c.cQ b blk).cU it):=vf.cU;have hblk:blk<c.w.heap.size:=(h3.bB b blk cap q2).1
 let gi:Iter:=⟨blk,c.w.heap.size,en,ck,ck,[],es⟩
 have Gn:mo c0.w.heap.size ((c.cQ b blk).cU it) gi:=by
  refine⟨.inl (.inr rfl),.inr rfl,hr.size,?_,⟨ck,aed _,fun _=>rfl,?_⟩,qe.born,qe,fun j kk x mm h1 h2=>?_,fun j hj=>by simp[gi]at hj⟩
  ·show(c.w.alloc it).heap[blk]?=_;rw[Below.heap_alloc c.w it blk hblk];exact q3
  ·show(c.w.alloc it).heap[c.w.heap.size]?=_;exact heap_alloc_new _ _
  ·have:=q4.2 j kk x mm h1 (by simpa using h2);exact⟨CB (vb q2 this.1),CB (vb q2 this.2)⟩
 have p9:cT c0.w.heap.size ((c.cQ b blk).cU it) (.iter gi::R.rows) R.fx.loops:=by
  have hold:=(br.all.cQ (b:=b) (blk:=blk) q2).cU (o:=it) dm;refine⟨⟨fun g hg=>?_,?_⟩,fun g hg=>(afu.1 hg).elim (fun e=>by subst e;trivial) (br.flat g)⟩
  ·rcases afu.1 hg with rfl|hg
   ·exact Gn
   ·exact hold.each g hg
  ·rw[aeH,aeb];refine aeK.2 ⟨by simp[bo.cm,gi];omega,br.all.nodup,fun x hx y hy e=>?_⟩;subst e;simp[bo.cm,gi]at hx;rcases hx with rfl|rfl
   ·exact Cz br.all h3 q2 hy
   ·obtain⟨g,hg,hx⟩:=afd.1 hy;have:=h3.bS _ ((br.all.each g hg).aE _ hx);omega
 have cK:(execOp (⟨t',marks R.fx.aN⟩:Act).eval o).run E.P c.w=.ok (.value (.pointer (some ⟨c.w.heap.size,0,none⟩))) (c.w.alloc it):=by
  simp only[execOp,cn,q1,Instr.range,newObj,adT,run_underlying g2,adU,qO q3,adS,Sem.run];rfl
 have eT:VS ((c.cQ b blk).cU it) (b8 s o.dst (.d (.raw (.pointer (some ⟨c.w.heap.size,0,none⟩))))) ((⟨t',marks R.fx.aN⟩:Act).put o.dst (.pointer (some ⟨c.w.heap.size,0,none⟩))).tmps :=
  VS.b8 (a:=⟨t',marks R.fx.aN⟩) ⟨h4.1,fun i x v hx hv=>ve (rf q2 (h4.2 i x v hx hv))⟩ o.dst (.d _ _ (.raw _ rfl))
 have H:=(H gi rfl rfl (aed _)).to;unfold AW at H;obtain⟨c2,fr,rr,u,e1,e2,e3,e4,e5,e6⟩:=H c0 _ _ eD h0 (gP aP (ek h1)) rfl fL Gm p9 eT (od (fun _ _ hv=>ve (rf q2 hv)) h5) cs;refine⟨c2,fr,rr,u,e1,e2,e3,e4,.head ?_ e5,e6⟩;simp only[ca.bK,ad0,eo];rw[wQ hi (gb hg c t' h4) (.inl cK),put_defers];rfl
theorem J.next{x:Operand}{it:Iter}{g1 g2:List bo}(hg:o.guard=none)(cn:o.op=.next x false)(tf:it.since<=it.ck)(p9:R.rows=g1 ++ .iter it::g2)(hx:bh E.G s x (.d (.raw (.pointer (some ⟨it.r,0,none⟩)))))
  (H0:(∀ j,j<it.es.length->j∈it.seen)->J E aj R lits (.bw ops l::k) (b8 s o.dst (.d (.aF [.bool false]))) h)
  (H1:∀ j kk y,it.es[j]?=some (kk,y)->j ∉ it.seen->J E aj ⟨R.n,R.Q,g1 ++ .iter { it with seen:=it.seen++[j] }::g2,R.fx⟩ lits (.bw ops l::k) (b8 s o.dst (.d (.aF [.bool true,kk,y]))) h):J E aj R lits (.bw ops (o::l)::k) s h:=by
 refine .of ?_;unfold AW;intro c0 c t' eD h0 h1 h2 h3 hr br h4 h5 cs;subst h2;obtain⟨i,hi,eo,aP⟩:=nf (h1 _ (aeQ ..));have cI:(⟨t',marks R.fx.aN⟩:Act).eval x=.pointer (some ⟨it.r,0,none⟩):=by
  have:=hx c ⟨t',marks R.fx.aN⟩ h3 h4;generalize (⟨t',marks R.fx.aN⟩:Act).eval x=u at this;cases this with
  |d _ _ hq=>cases hq;rfl
 have CC:=br;rw[p9]at CC;obtain⟨r1,r2,r3⟩:=CC.vc;have r2:mo c0.w.heap.size c it:=r2;obtain⟨z0,z1,-,z2⟩:=r2.iter;have bR:it.en.size=it.es.length:=r2.cB.size;rcases run_next_at (P:=E.P) c.w o.type it.r it.bm it.since z0 _ it.en it.ck z2 r2.map r2.old z1 with⟨n1,n2⟩|⟨cB,n1,w1,n2,n3⟩
 ·have H:=(H0 fun j hj=>by
   apply Classical.byContradiction;intro hm;have kg:j<it.en.size:=by omega
   have:=(LD r2.cB.nodup r2.lt kg).2 hm;have hl:(leftOf it.en ((it.seen.map fun j=>((it.en[j]?).map (·.born)).getD 0).toArray)).toList.length=0:=by simpa using n1
   rw[List.eq_nil_of_length_eq_zero hl]at this
   cases this).to
  unfold AW at H;have cK:(execOp (⟨t',marks R.fx.aN⟩:Act).eval o).run E.P c.w=.ok (.value (.tuple #[.bool false])) c.w:=by
   simp only[execOp,cn,cI,adT,n2,adU,adS]
  have eT:VS c (b8 s o.dst (.d (.aF [.bool false]))) ((⟨t',marks R.fx.aN⟩:Act).put o.dst (.tuple #[.bool false])).tmps :=
   VS.b8 (a:=⟨t',marks R.fx.aN⟩) h4 o.dst (.d _ _ (.aF _ _ rfl fun j y v hy hv=>by
    match j with
    |0=>simp at hy hv;subst hy;subst hv;exact .bool _
    |j+1=>simp at hy))
  obtain⟨c2,fr,rr,u,e1,e2,e3,e4,e5,e6⟩:=H c0 c _ eD h0 (gP aP (ek h1)) rfl h3 hr br eT h5 cs;refine⟨c2,fr,rr,u,e1,e2,e3,e4,.head ?_ e5,e6⟩;simp only[ca.bK,ad0,eo];rw[wQ hi (gb hg c t' h4) (.inl cK),put_defers];rfl
 ·have vg:cB∈it.en.toList:=by
   simp only[leftOf,agK,agL]at n1;exact n1.1
  obtain⟨j,hj,rfl⟩:=List.getElem_of_mem vg;have kg:j<it.en.size:=by simpa using hj
  have gg:it.en.toList[j]=it.en[j]:=by simp
  rw[gg]at n1 n3;have lb:=(LD r2.cB.nodup r2.lt kg).1 n1;obtain⟨⟨kk,y⟩,LF⟩:∃ p,it.es[j]?=some p:=⟨it.es[j]'(by omega),by rw[List.getElem?_eq_getElem]⟩;have H:=(H1 j kk y LF lb).to;unfold AW at H;have sP:=h3.bS _ r2.yN;have xI:w1.os=c.w.os/\w1.tape=c.w.tape/\w1.output=c.w.output/\w1.heap=c.w.heap:=by rcases n2 with rfl|rfl<;>exact⟨rfl,rfl,rfl,rfl⟩
  obtain⟨a1,a2,a3,a4⟩:=xI;generalize uk:setBlock w1 it.r (.mapIter (some it.bm) it.since (((it.seen.map fun j=>((it.en[j]?).map (·.born)).getD 0).toArray).push it.en[j].born) it.ck)=w' at n3;have qa:Touch c it.r w':=by
   subst uk;refine⟨r2.yN,a1,a2,a3,by simp[setBlock,a4],fun b hb=>?_⟩;simp only[setBlock,a4];rw[Array.getElem?_setIfInBounds_ne (Ne.symm hb)]
  have Tq:it.r ∉ ((g1++g2)++R.fx.loops).flatMap bo.cm:=r3 _ (by simp[bo.cm]);have c8:it.bm≠it.r:=by
   have:=CC.all.nodup;rw[afb,aeH,agJ,aeK]at this;have h6:=this.2.1;rw[aeb,aeK]at h6;have h7:=h6.1;simp[bo.cm]at h7;exact h7
  have Gn:mo c0.w.heap.size (c.eB w') { it with seen:=it.seen++[j] }:=by
   refine⟨r2.EC,r2.yN,r2.Jz,(qa.other _ c8).trans r2.map,⟨it.ck,?_,fun _=>rfl,?_⟩,r2.old,r2.cB,fun p kk x mm h1 h2=>?_,fun p hp=>?_⟩
   ·exact tf
   ·show w'.heap[it.r]?=_;subst uk;simp only[setBlock,a4];rw[Array.getElem?_setIfInBounds_self_of_lt sP];simp[Gl kg]
   ·have:=r2.val p kk x mm h1 h2;exact⟨qa.vd this.1,qa.vd this.2⟩
   ·rcases aeI.1 hp with hp|hp
    ·exact r2.lt p hp
    ·simp at hp;subst hp;exact kg
  have Tr:cT c0.w.heap.size (c.eB w') (g1 ++ .iter { it with seen:=it.seen++[j] }::g2) R.fx.loops:=by
   have hold:=qa.rows r1.all Tq;refine⟨⟨fun g hg=>?_,?_⟩,fun g hg=>?_⟩
   ·rcases aeI.1 hg with hg|hg
    ·rcases aeI.1 hg with hg|hg
     ·exact hold.each g (agc _ (agc _ hg))
     ·rcases afu.1 hg with rfl|hg
      ·exact Gn
      ·exact hold.each g (agc _ (agd _ hg))
    ·exact hold.each g (agd _ hg)
   ·have:=CC.all.nodup;rw[afb,aeH,agJ,aeb]at this ⊢;exact this
   ·rcases aeI.1 hg with hg|hg
    ·exact r1.flat g (agc _ hg)
    ·rcases afu.1 hg with rfl|hg
     ·trivial
     ·exact r1.flat g (agd _ hg)
  have bG:=r2.val j kk y it.en[j] LF (by simp[kg]);have cK:(execOp (⟨t',marks R.fx.aN⟩:Act).eval o).run E.P c.w=.ok (.value (.tuple #[.bool true,it.en[j].key,it.en[j].val])) w':=by
   simp only[execOp,cn,cI,adT,n3,adU,adS]
  have eT:VS (c.eB w') (b8 s o.dst (.d (.aF [.bool true,kk,y]))) ((⟨t',marks R.fx.aN⟩:Act).put o.dst (.tuple #[.bool true,it.en[j].key,it.en[j].val])).tmps :=
   VS.b8 (a:=⟨t',marks R.fx.aN⟩) ⟨h4.1,fun i x v hx hv=>qa.vr (h4.2 i x v hx hv)⟩ o.dst (.d _ _ (.aF _ _ rfl fun p z v hz hv=>by
    match p with
    |0=>simp at hz hv;subst hz;subst hv;exact .bool _
    |1=>simp at hz hv;subst hz;subst hv;exact qa.vd bG.1
    |2=>simp at hz hv;subst hz;subst hv;exact qa.vd bG.2
    |p+3=>simp at hz))
  obtain⟨c2,fr,rr,u,e1,e2,e3,e4,e5,e6⟩:=H c0 (c.eB w') _ eD h0 (gP aP (ek h1)) rfl (qa.aP h3) (qa.rel hr r2.Jz) Tr eT (od (fun _ _=>qa.vr) h5) cs;refine⟨c2,fr,rr,u,e1,e2,e3,e4,.head ?_ e5,e6⟩;simp only[ca.bK,ad0,eo];rw[wQ hi (gb hg c t' h4) (.inl cK),put_defers];rfl
end
end Go.aA
end
section
namespace Go.aA
open Go Go.RowKit
section
variable {E:Env} {aj:FuncId} {R:cF} {td:List aT} {s:List AV} {h:List af}
theorem J.o9{lits:List Nat}(b off:Nat)(ts:Nat × Nat)(jb:0<ts.2){cs:List AV}(hb:h[b]?=some (.cells cs))(hd:cs[off]?=some (.d .aI))
  (H:J E aj R lits td s (h.set b (.cells (cs.set off (.own h.length 0)))++[.arr 0 ts []])):J E aj R lits td s h:=by
 replace H:=H.to;refine .of (.kU (fun c t eD h1 h2 h3 h4 h5=>?_) H);subst h2;have eS:=aX hb
 let c':Cx:={ c with heap:=c.heap.set b (.cells (cs.set off (.own c.heap.length 0)))++[.arr 0 ts []] }
 have bI:c.own c.heap.length=none:=by
  cases ho:c.own c.heap.length with
  |none=>rfl
  |some p=>have:=(h3.bB _ p.1 p.2 ho).2;omega
 have dF:c'.heap[c.heap.length]?=some (.arr 0 ts []):=by show(c.heap.set b _++_)[_]?=_;rw[List.getElem?_append_right (by simp)];simp
 have LG:c'.heap[b]?=some (.cells (cs.set off (.own c.heap.length 0))):=by
  show(c.heap.set b _++_)[b]?=_;rw[ael (by simp;omega),aei eS]
 have rh:∀ i,i≠b->i<c.heap.length->c'.heap[i]?=c.heap[i]? := fun i hi hl=>by
  show(c.heap.set b _++_)[i]?=_;rw[ael (by simp;omega),aej (Ne.symm hi)]
 have bg:Step c c':=⟨rfl,h3.bS,rfl,rfl,rfl,aed _,fun _ _ _=>rfl,fun i x n hi _=>⟨n,hi⟩,fun i bx hi=>by
  by_cases bF:i=b
  ·subst bF;rw[hb]at hi;cases hi;exact .inl ⟨_,LG,rfl,by simp⟩
  ·exact ml hi (rh i bF (aX hi)) rfl⟩
 have aP:aM E.G c':=h3.next bg (fun i x n hi=>by
   have:=h3.bB i x n hi;refine⟨this.1,?_⟩;show i<(c.heap.set b _++_).length;simp;omega) h3.inj (fun i bx hi=>by
  by_cases ga:i=c.heap.length
  ·subst ga;rw[dF]at hi;cases hi;exact .inr ⟨jb,fun i e he=>by simp at he,.inl ⟨bI,rfl⟩⟩
  ·have ah:i<c.heap.length:=by
    have h1:=aX hi;have h2:c'.heap.length=c.heap.length+1:=by show(c.heap.set b _++_).length=_;simp
    omega
   by_cases bF:i=b
   ·subst bF;rw[LG]at hi;cases hi;right;obtain⟨blk,cap,vs,ty,g1,g2,g3,g4⟩:=h3.box i _ hb;refine⟨blk,cap,vs,ty,g1,g2,by simpa using g3,fun j x v hx hv=>?_⟩;by_cases hj:j=off
    ·subst hj;rw[aei (aX hd)]at hx;cases hx;have:=g4 j _ v hd hv;cases this with
     |d _ _ hq=>cases hq;exact .iH _ _ ts dF bI
    ·rw[aej (Ne.symm hj)]at hx;exact bg.vr (g4 j x v hx hv)
   ·rw[rh i bF ah]at hi
    exact .inl ⟨hi,rfl,fun _ _ _=>rfl⟩)
 exact⟨c',t,eD,h1,rfl,aP,bg.vs h4,bg.cr h5,bg,fun _ => .refl _ _⟩
end
end Go.aA
end
