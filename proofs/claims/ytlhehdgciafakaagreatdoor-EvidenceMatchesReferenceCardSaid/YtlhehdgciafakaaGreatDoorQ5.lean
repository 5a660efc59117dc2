/- Lemmas of mine. Conditions: as stated. -/
import Derived.Test.YtlhehdgciafakaaGreatDoorQ3
import Derived.Maps.RangeRun
set_option linter.unusedVariables false
set_option linter.unusedSimpArgs false
open Array renaming toList_filter->akh
open List renaming getElem?_set_ne->ahR,append_assoc->aiK,getElem?_set_self->ahQ,mem_append->aif,mem_append_left->ajL,mem_cons->ai3,nodup_append->aii,flatMap_cons->ahJ,mem_append_right->ajM,cons_append->aie,getElem?_append_left->ahT,mem_flatMap->aiM,flatMap_append->akg,map_cons->ahx,length_set->aiv,mem_cons_of_mem->aip,mem_filter->aki,mem_cons_self->aio
open Nat renaming le_refl->ahL
open Go.Result renaming andThen_ok->ahr
open Go.Sem renaming run_bind->ahq,run_pure->ahp
section
namespace Go.az
open Go Go.RowKit
open Go.ChangeMaps (setBlock)
theorem wX{c0 c c':Cx}{i:Nat}(hh:∀ x,c.heap[i]?=some x->c'.heap[i]?=some x)(ho:∀ x,c.heap[i]?=some x->c'.own i=c.own i){bx:ae}(h:Ay c0 c i bx):Ay c0 c' i bx:=by
 cases bx with
 |cells cs =>
  rcases h with⟨cs',h1,h2,h3⟩|h1
  ·exact .inl ⟨cs',hh _ h1,(ho _ h1).trans h2,h3⟩
  ·exact .inr (hh _ h1)
 |arr g sz l =>
  rcases h with⟨g',l',h1,h2⟩|h1
  ·refine .inl ⟨g',l',hh _ h1,?_⟩;rcases h2 with h2|⟨h2,h3,h4⟩
   ·exact .inl h2
   ·exact .inr ⟨h2,h3,(ho _ h1).trans h4⟩
  ·exact .inr (hh _ h1)
 |map es =>
  rcases h with⟨ev,h1,h2⟩|h1
  ·exact .inl ⟨ev,hh _ h1,(ho _ h1).trans h2⟩
  ·exact .inr (hh _ h1)
 |gone=>exact hh _ h
 |hole=>obtain⟨b,h⟩:=h;exact⟨b,hh _ h⟩
section
variable {G:List (Nat × DV)} {c:Cx} {bx:ae} {blk cap:Nat}
def Cx.dc(c:Cx)(bx:ae)(blk cap:Nat):Cx:=⟨fun i=>if i=c.heap.length then some (blk,cap)else c.own i,c.heap++[bx],fun b=>c.aD b/\b≠blk,c.w⟩
theorem Wk(ho:aO G c)(hb:c.aD blk)(b:Nat):(c.dc bx blk cap).bad b↔c.bad b:=by
 constructor
 ·rintro(h|⟨i,n,h⟩)
  ·exact .inl h.1
  ·simp only[Cx.dc]at h;split at h
   ·cases h;exact .inl hb
   ·exact .inr ⟨i,n,h⟩
 ·rintro(h|⟨i,n,h⟩)
  ·by_cases e:b=blk
   ·subst e;exact .inr ⟨c.heap.length,cap,by simp[Cx.dc]⟩
   ·exact .inl ⟨h,e⟩
  ·refine .inr ⟨i,n,?_⟩;have:=(ho.bD i b n h).2;simp only[Cx.dc];rw[if_neg oM];exact h
theorem NU(ho:aO G c)(hb:c.aD blk)(b:Nat)(_:b<c.w.heap.size)(hn:¬ c.bad b):¬ (c.dc bx blk cap).bad b/\(c.dc bx blk cap).w.heap[b]?=c.w.heap[b]? := ⟨fun h=>hn ((Wk ho hb b).1 h),rfl⟩
theorem NV{i:Nat}{b:ae}(hi:c.heap[i]?=some b):(c.dc bx blk cap).heap[i]?=c.heap[i]? := ahT (aW hi)
theorem Io{i:Nat}{b:ae}(hi:c.heap[i]?=some b):(c.dc bx blk cap).own i=c.own i:=by
 have:=aW hi;simp only[Cx.dc];rw[if_neg oM]
theorem wY(ho:aO G c)(hb:c.aD blk){x:AV}{v:Value}(hv:VR c x v):VR (c.dc bx blk cap) x v:=um (NU ho hb) (fun _ _ hi=>nB hi (NV hi) (Io hi)) hv
theorem D2(ho:aO G c)(hb:c.aD blk){x:DV}{v:Value}(hv:VD c.bad c.w x v):VD (c.dc bx blk cap).bad (c.dc bx blk cap).w x v:=hv.mono (NU ho hb)
theorem aO.dc(ho:aO G c)(hb:c.aD blk)(kb:lp (c.dc bx blk cap) c.heap.length bx):aO G (c.dc bx blk cap) where
 bV:=fun b h=>ho.bV b h.1
 bD:=fun i b n hi=>by
  have hl:(c.dc bx blk cap).heap.length=c.heap.length+1:=by simp[Cx.dc]
  simp only[Cx.dc]at hi;split at hi
  ·cases hi;exact⟨ho.bV _ hb,by omega⟩
  ·have:=ho.bD i b n hi;exact⟨this.1,by omega⟩
 inj:=fun i j b n m hi hj=>by
  simp only[Cx.dc]at hi hj;split at hi<;>split at hj
  ·omega
  ·cases hi;exact absurd hb (ho.sep j _ m hj)
  ·cases hj;exact absurd hb (ho.sep i _ n hi)
  ·exact ho.inj i j b n m hi hj
 sep:=fun i b n hi h=>by
  simp only[Cx.dc]at hi;split at hi
  ·cases hi;exact h.2 rfl
  ·exact ho.sep i b n hi h.1
 box:=fun i b hx=>by
  rcases Nat.lt_trichotomy i c.heap.length with hi|rfl|hi
  ·have dY:c.heap[i]?=some b:=by
    have:(c.dc bx blk cap).heap[i]?=c.heap[i]? := ahT hi
    rwa [this]at hx
   exact(ho.box i b dY).gen (fun _ _=>wY ho hb) (fun _ _=>D2 ho hb) (Io dY) (fun _ _ _=>rfl)
  ·have:b=bx:=by simp[Cx.dc]at hx;exact hx.symm
   subst this;exact kb
  ·rw[List.getElem?_eq_none (by simp[Cx.dc];omega)]at hx;cases hx
 gI:=fun g e hg=>wY ho hb (ho.gI g e hg)
theorem dy.dc{c0:Cx}(hr:dy c0 c)(hb:c0.w.heap.size<=blk):dy c0 (c.dc bx blk cap) where
 lim:=hr.lim
 nz:=hr.nz
 aD:=fun b h=>⟨hr.aD b h,fun e=>by subst e;have:=hr.lim _ h;omega⟩
 oz:=fun b h=>hr.oz b h.1
 os:=hr.os
 tape:=hr.tape
 output:=hr.output
 size:=hr.size
 keep:=hr.keep
 eh:=fun i b n hi ai=>by
  simp only[Cx.dc]at hi;split at hi
  ·cases hi;omega
  ·exact hr.eh i b n hi ai
 boxes:=fun i bx hi=>wX (fun x hx=>(NV hx).trans hx) (fun x hx=>Io hx) (hr.boxes i bx hi)
theorem iD.dc{lim:Nat}{rows:List br}(h:iD lim c rows)(ho:aO G c)(hb:c.aD blk)(hn:blk ∉ rows.flatMap br.cy):iD lim (c.dc bx blk cap) rows :=
 ⟨fun r hr=>(h.each r hr).gen (fun b NW=>⟨⟨(h.each r hr).aD b NW,fun e=>hn (aiM.2 ⟨r,hr,e ▸ NW⟩)⟩,rfl⟩) (fun _ _=>D2 ho hb) (fun _ _=>wY ho hb),h.nodup⟩
def Cx.dj(c:Cx)(b blk:Nat):Cx:=⟨fun i=>if i=b then none else c.own i,c.heap.set b .gone,fun x=>c.aD x\/x=blk,c.w⟩
variable {b:Nat}
theorem zg{i:Nat}{p:Nat × Nat}(hi:(c.dj b blk).own i=some p):i≠b/\c.own i=some p:=by
 simp only[Cx.dj]at hi;split at hi
 ·cases hi
 ·rename_i q;exact⟨q,hi⟩
theorem Wl(hb:c.own b=some (blk,cap))(x:Nat):(c.dj b blk).bad x↔c.bad x:=by
 constructor
 ·rintro((h|h)|⟨i,n,h⟩)
  ·exact .inl h
  ·subst h;exact .inr ⟨b,cap,hb⟩
  ·exact .inr ⟨i,n,(zg h).2⟩
 ·rintro(h|⟨i,n,h⟩)
  ·exact .inl (.inl h)
  ·by_cases e:i=b
   ·subst e;rw[hb]at h;cases h;exact .inl (.inr rfl)
   ·exact .inr ⟨i,n,by simp only[Cx.dj,if_neg e];exact h⟩
theorem NX(hb:c.own b=some (blk,cap))(x:Nat)(_:x<c.w.heap.size)(hn:¬ c.bad x):¬ (c.dj b blk).bad x/\(c.dj b blk).w.heap[x]?=c.w.heap[x]? := ⟨fun h=>hn ((Wl hb x).1 h),rfl⟩
theorem Wm{i:Nat}{y:ae}(hi:c.heap[i]?=some y):vR c (c.dj b blk) i y:=by
 by_cases e:i=b
 ·subst e;have hg:(c.dj i blk).heap[i]?=some .gone:=ahQ (aW hi);cases y with
  |cells cs=>exact .inr hg
  |arr g sz l=>exact .inr hg
  |map es=>exact .inr hg
  |gone=>exact hg
  |hole=>exact⟨_,hg⟩
 ·exact nB hi (ahR (Ne.symm e)) (by simp only[Cx.dj,if_neg e])
theorem tn(hb:c.own b=some (blk,cap)){x:AV}{v:Value}(hv:VR c x v):VR (c.dj b blk) x v:=um (NX hb) (fun _ _=>Wm) hv
theorem wZ(hb:c.own b=some (blk,cap)){x:DV}{v:Value}(hv:VD c.bad c.w x v):VD (c.dj b blk).bad (c.dj b blk).w x v:=hv.mono (NX hb)
theorem aO.dj(ho:aO G c)(hb:c.own b=some (blk,cap)):aO G (c.dj b blk) where
 bV:=fun x h=>h.elim (ho.bV x) fun e=>by subst e;exact(ho.bD b _ cap hb).1
 bD:=fun i x n hi=>by
  have:=ho.bD i x n (zg hi).2;refine⟨this.1,?_⟩;show i<(c.heap.set b .gone).length;rw[aiv];exact this.2
 inj:=fun i j x n m hi hj=>ho.inj i j x n m (zg hi).2 (zg hj).2
 sep:=fun i x n hi h=>by
  obtain⟨h1,h2⟩:=zg hi;rcases h with h|h
  ·exact ho.sep i x n h2 h
  ·subst h;exact h1 (ho.inj i b x n cap h2 hb)
 box:=fun i y hx=>by
  by_cases e:i=b
  ·subst e;have ai:i<c.heap.length:=(ho.bD i _ cap hb).2;have:(c.dj i blk).heap[i]?=some .gone:=ahQ ai;rw[this]at hx;cases hx;show(c.dj i blk).own i=none;simp[Cx.dj]
  ·have dY:c.heap[i]?=some y:=by
    have:(c.dj b blk).heap[i]?=c.heap[i]? := ahR (Ne.symm e)
    rwa [this]at hx
   exact(ho.box i y dY).gen (fun _ _=>tn hb) (fun _ _=>wZ hb) (by simp only[Cx.dj,if_neg e]) (fun _ _ _=>rfl)
 gI:=fun g e hg=>tn hb (ho.gI g e hg)
theorem D3{c0:Cx}(hr:dy c0 c)(hb:c.own b=some (blk,cap))(hn:c0.heap.length<=b):c0.w.heap.size<=blk:=by
 rcases Nat.lt_or_ge blk c0.w.heap.size with h|h
 ·obtain⟨m,hm⟩:=hr.eh b blk cap hb h;have:=hr.nz b _ hm;omega
 ·exact h
theorem dy.dj{c0:Cx}(hr:dy c0 c)(hb:c.own b=some (blk,cap))(hn:c0.heap.length<=b):dy c0 (c.dj b blk) where
 lim:=hr.lim
 nz:=hr.nz
 aD:=fun x h => .inl (hr.aD x h)
 oz:=fun x h=>h.elim (hr.oz x) fun e => .inr (by subst e;exact D3 hr hb hn)
 os:=hr.os
 tape:=hr.tape
 output:=hr.output
 size:=hr.size
 keep:=hr.keep
 eh:=fun i x n hi ai=>hr.eh i x n (zg hi).2 ai
 boxes:=fun i bx hi=>by
  have bL:i≠b:=fun e=>by have:=aW hi;omega
  exact wX (fun x hx=>(ahR (Ne.symm bL)).trans hx) (fun x hx=>by simp only[Cx.dj,if_neg bL]) (hr.boxes i bx hi)
theorem iD.dj{lim:Nat}{rows:List br}(h:iD lim c rows)(hb:c.own b=some (blk,cap)):iD lim (c.dj b blk) rows :=
 ⟨fun r hr=>(h.each r hr).gen (fun x hx=>⟨.inl ((h.each r hr).aD x hx),rfl⟩) (fun _ _=>wZ hb) (fun _ _=>tn hb),h.nodup⟩
theorem D4{lim:Nat}{rows:List br}(h:iD lim c rows)(ho:aO G c)(hb:c.own b=some (blk,cap)):blk ∉ rows.flatMap br.cy:=fun hm=>by
 obtain⟨r,hr,hx⟩:=aiM.1 hm;exact ho.sep b blk cap hb ((h.each r hr).aD blk hx)
theorem Wn{α:Type}{a b c:List α}(h:(a++b++c).Nodup):(a++c).Nodup/\∀ x∈b,x ∉ a++c:=by
 have hp:(a++b++c).Perm (b++(a++c)):=by
  rw[aiK,<- aiK b a c];refine(List.Perm.trans ?_ (List.Perm.append_right c List.perm_append_comm));rw[aiK]
 have h2:=(hp.nodup_iff).1 h;rw[aii]at h2;exact⟨h2.2.1,fun x hx dY=>h2.2.2 x hx x dY rfl⟩
theorem iD.w7{lim:Nat}{g1 g2:List br}{g:br}(h:iD lim c (g1++g::g2)):iD lim c (g1++g2)/\kf lim c g/\∀ x∈g.cy,x ∉ (g1++g2).flatMap br.cy:=by
 have hn:=h.nodup;rw[akg,ahJ,<- aiK]at hn;obtain⟨h1,h2⟩:=Wn hn;rw[<- akg]at h1 h2;refine⟨⟨fun r hr=>h.each r ?_,h1⟩,h.each g sP,h2⟩;rcases aif.1 hr with hr|hr
 ·exact ajL _ hr
 ·exact ajM _ (aip _ hr)
end
theorem dp.w7{lim:Nat}{c:Cx}{g1 g2 L:List br}{g:br}(h:dp lim c (g1++g::g2) L):dp lim c (g1++g2) L/\kf lim c g/\∀ x∈g.cy,x ∉ ((g1++g2)++L).flatMap br.cy:=by
 have h1:=h.all;rw[aiK,aie]at h1;obtain⟨k1,k2,k3⟩:=h1.w7;rw[<- aiK]at k1 k3;refine⟨⟨k1,fun x hx=>h.flat x ?_⟩,k2,k3⟩;rcases aif.1 hx with hx|hx
 ·exact ajL _ hx
 ·exact ajM _ (aip _ hx)
theorem D5{c:Cx}{s:List AV}{t:Array Value}(hv:VS c s t){d:Nat}{x:AV}(hx:∀ v,t[d]?=some v->VR c x v):VS c (s.set d x) t:=by
 refine⟨zD hv.1,fun i y u hy hu=>?_⟩;by_cases hd:d=i
 ·subst hd;have hl:d<s.length:=by have:=aW hy;simpa using this
  rw[ahQ hl]at hy;cases hy;exact hx u hu
 ·rw[ahR hd]at hy;exact hv.2 i y u hy hu
section
variable {E:Env} {aj:FuncId} {R:cT} {td:List aY} {s:List AV} {h:List ae} {lits:List Nat}
theorem I.borrow(d:Nat){bG:Row}{n:Nat}{g1 g2:List br}(rL:R.rows=g1 ++ .row bG::g2)(hd:s[d]?=some (.d (.raw (.slice (some ⟨bG.blk,0,none⟩) n bG.cap))))(hn:n=bG.l.length)
  (H:I E aj ⟨R.n,R.Q,g1++g2,R.fx⟩ lits td (s.set d (.own h.length 0)) (h++[.arr 0 bG.ts bG.l])):I E aj R lits td s h:=by
 replace H:=H.to;refine .of ?_;unfold AW at H ⊢;intro c0 c t fj h0 h1 h2 h3 hr bz h4 h5 cs;subst h2;rw[rL]at bz;obtain⟨r1,r2,r3⟩:=bz.w7;have r2:nC c0.w.heap.size c bG:=r2;have BG:bG.blk ∉ ((g1++g2)++R.fx.loops).flatMap br.cy:=r3 _ (by simp[br.cy]);have cZ:(c.dc (.arr 0 bG.ts bG.l) bG.blk bG.cap).heap[c.heap.length]?=some (.arr 0 bG.ts bG.l):=by simp[Cx.dc]
 have bN:(c.dc (.arr 0 bG.ts bG.l) bG.blk bG.cap).own c.heap.length=some (bG.blk,bG.cap):=by simp[Cx.dc]
 have aV:aO E.G (c.dc (.arr 0 bG.ts bG.l) bG.blk bG.cap):=h3.dc r2.aD (by
  obtain⟨q1,q2,q3,q4,vs,q5,q6,q7,q8,q9⟩:=r2;refine⟨q3,q4,.inr ⟨bG.blk,bG.cap,vs,bN,q5,q6,q7,q8,fun i j e x he hx=>?_⟩⟩;obtain⟨v,k1,k2,k3⟩:=q9 i j e x he hx
  exact⟨v,k1,k2,D2 h3 q1 k3⟩)
 have fw:VS (c.dc (.arr 0 bG.ts bG.l) bG.blk bG.cap) s t:=⟨h4.1,fun i x v hx hv=>wY h3 r2.aD (h4.2 i x v hx hv)⟩
 have:=H c0 (c.dc (.arr 0 bG.ts bG.l) bG.blk bG.cap) t fj h0 h1 rfl aV (hr.dc r2.new) ⟨r1.all.dc h3 r2.aD BG,r1.flat⟩ (D5 fw fun v hv=>by
  have fu:=h4.2 d _ v hd hv;cases fu with
  |d _ _ hq =>
   cases hq;subst hn
   exact .own _ 0 bG.ts bG.l bG.blk bG.cap cZ bN) (px (fun _ _=>wY h3 r2.aD) h5) cs
 exact this
theorem I.dj(d b:Nat){g:Nat}{ts:Nat × Nat}{l:List DV}(hb:h[b]?=some (.arr g ts l))(Ip:R.n<=b)(hd:s[d]?=some (.own b g))
  (H0:l=[]->I E aj R lits td (s.set d (.d (.raw (.slice none 0 0)))) (h.set b .gone))
  (H:∀ blk cap,I E aj ⟨R.n,R.Q,.row ⟨blk,cap,ts,l⟩::R.rows,R.fx⟩ lits td (s.set d (.d (.raw (.slice (some ⟨blk,0,none⟩) l.length cap)))) (h.set b .gone)):I E aj R lits td s h:=by
 refine .of ?_;unfold AW;intro c0 c t fj h0 h1 h2 h3 hr bz h4 h5 cs;subst h2;obtain⟨q0,q1,q2⟩:=h3.box b _ hb;rcases q2 with⟨q2,q3⟩|⟨blk,cap,vs,q2,q3,q4,q5,q6,q7⟩
 ·subst q3;have H:=(H0 rfl).to
  let c':Cx:={ c with own:=fun i=>if i=b then none else c.own i,heap:=c.heap.set b .gone }
  have fT:c'.heap[b]?=some .gone:=ahQ (aW hb);have bN:∀ i,c'.own i=c.own i:=fun i=>by
   simp only[c'];split
   ·rename_i e;subst e;exact q2.symm
   ·rfl
  have qf:∀ x,c'.bad x↔c.bad x:=fun x=>by
   constructor
   ·rintro(h|⟨i,n,h⟩)
    ·exact .inl h
    ·exact .inr ⟨i,n,(bN i) ▸ h⟩
   ·rintro(h|⟨i,n,h⟩)
    ·exact .inl h
    ·exact .inr ⟨i,n,(bN i).trans h⟩
  have bc:Step c c':=⟨rfl,h3.bV,rfl,rfl,rfl,ahL _,fun _ _ _=>rfl,fun i x n hi _=>⟨n,(bN i) ▸ hi⟩,fun i bx hi=>by
   by_cases e:i=b
   ·subst e;rw[hb]at hi;cases hi;exact .inr fT
   ·exact nB hi (ahR (Ne.symm e)) (bN i)⟩
  have aV:aO E.G c':=h3.next bc (fun i x n hi=>by
    have:=h3.bD i x n ((bN i) ▸ hi);refine⟨this.1,?_⟩;show i<(c.heap.set b .gone).length;rw[aiv];exact this.2) (fun i j x n m hi hj=>h3.inj i j x n m ((bN i) ▸ hi) ((bN j) ▸ hj)) (fun i bx hi=>by
   by_cases e:i=b
   ·subst e;rw[fT]at hi;cases hi;right;show c'.own i=none;simp[c']
   ·have:c'.heap[i]?=c.heap[i]? := ahR (Ne.symm e);rw[this]at hi
    exact .inl ⟨hi,bN i,fun _ _ _=>rfl⟩)
  unfold AW at H;refine H c0 c' t fj h0 h1 rfl aV (hr.step bc) (bz.step h3 bc) (D5 (bc.vs h4) fun v hv=>?_) (bc.cr h5) cs;have fu:=h4.2 d _ v hd hv;rcases lu hb fu with⟨blk,cap,r1,rfl⟩|⟨-,rfl,-⟩
  ·rw[q2]at r1;cases r1
  ·exact .d _ _ (.raw _ rfl)
 ·have H:=(H blk cap).to;unfold AW at H;have eK:=D3 hr q2 oM;have aV:=h3.dj q2;refine H c0 (c.dj b blk) t fj h0 h1 rfl aV (hr.dj q2 oM) ⟨⟨fun r qz=>?_,?_⟩,fun g hg=>(ai3.1 hg).elim (fun e=>by subst e;trivial) (bz.flat g)⟩ (D5 ⟨h4.1,fun i x v hx hv=>tn q2 (h4.2 i x v hx hv)⟩ fun v hv=>?_) (px (fun _ _=>tn q2) h5) cs
  ·rcases ai3.1 qz with rfl|qz
   ·show nC c0.w.heap.size (c.dj b blk) ⟨blk,cap,ts,l⟩
    exact⟨Or.inr rfl,eK,q0,q1,vs,q3,q4,q5,q6,fun i j e x he hx=>by
     obtain⟨v,k1,k2,k3⟩:=q7 i j e x he hx
     exact⟨v,k1,k2,wZ q2 k3⟩⟩
   ·exact(bz.all.dj q2).each r qz
  ·rw[aie,ahJ];refine aii.2 ⟨by simp[br.cy],bz.all.nodup,fun x hx y hy e=>?_⟩;simp[br.cy]at hx;subst hx;subst e;exact D4 bz.all h3 q2 hy
  ·have fu:=h4.2 d _ v hd hv;rcases lu hb fu with⟨jL,iV,r1,rfl⟩|⟨rfl,rfl,r1⟩
   ·rw[q2]at r1;cases r1;exact .d _ _ (.raw _ rfl)
   ·rw[q2]at r1;cases r1
end
end Go.az
end
section
namespace Go.az
open Go Go.RowKit
def Cx.dq(c:Cx)(o:Obj):Cx:=⟨c.own,c.heap,fun b=>c.aD b\/b=c.w.heap.size,c.w.alloc o⟩
section
variable {G:List (Nat × DV)} {c:Cx} {o:Obj}
theorem NY(b:Nat)(hb:b<c.w.heap.size)(hn:¬ c.bad b):¬ (c.dq o).bad b/\(c.dq o).w.heap[b]?=c.w.heap[b]? := by
 refine⟨?_,Below.heap_alloc c.w o b hb⟩;rintro((h|h)|⟨i,n,h⟩)
 ·exact hn (.inl h)
 ·omega
 ·exact hn (.inr ⟨i,n,h⟩)
theorem w9{x:AV}{v:Value}(hv:VR c x v):VR (c.dq o) x v:=um NY (fun _ _ hi=>nB hi rfl rfl) hv
theorem D6{x:DV}{v:Value}(hv:VD c.bad c.w x v):VD (c.dq o).bad (c.dq o).w x v:=hv.mono NY
theorem aO.dq(ho:aO G c):aO G (c.dq o) where
 bV:=fun b hb=>by
  have hs:(c.dq o).w.heap.size=c.w.heap.size+1:=by simp[Cx.dq]
  rcases hb with hb|hb
  ·have:=ho.bV b hb;omega
  ·omega
 bD:=fun i b n hi=>by
  have hs:(c.dq o).w.heap.size=c.w.heap.size+1:=by simp[Cx.dq]
  have:=ho.bD i b n hi;exact⟨by omega,this.2⟩
 inj:=ho.inj
 sep:=fun i b n hi hb=>hb.elim (ho.sep i b n hi) (fun e=>by have:=(ho.bD i b n hi).1;omega)
 box:=fun i bx hx=>(ho.box i bx hx).gen (fun _ _=>w9) (fun _ _=>D6) rfl (fun b n hn=>Below.heap_alloc c.w o b (ho.bD i b n hn).1)
 gI:=fun g e hg=>w9 (ho.gI g e hg)
end
open Go.ChangeMaps (setBlock)
section
variable {G:List (Nat × DV)} {c:Cx} {r:Nat} {w':World}
structure Touch(c:Cx)(r:Nat)(w':World):Prop where
 aD:c.aD r
 os:w'.os=c.w.os
 tape:w'.tape=c.w.tape
 output:w'.output=c.w.output
 size:w'.heap.size=c.w.heap.size
 other:∀ b,b≠r->w'.heap[b]?=c.w.heap[b]?
theorem Touch.Ah(h:Touch c r w')(b:Nat)(_:b<c.w.heap.size)(hn:¬ c.bad b):¬ (c.fe w').bad b/\(c.fe w').w.heap[b]?=c.w.heap[b]? :=
 ⟨hn,h.other b (fun e=>by subst e;exact hn (.inl h.aD))⟩
theorem Touch.vr(h:Touch c r w'){x:AV}{v:Value}(hv:VR c x v):VR (c.fe w') x v:=um h.Ah (fun _ _ hi=>nB hi rfl rfl) hv
theorem Touch.vd(h:Touch c r w'){x:DV}{v:Value}(hv:VD c.bad c.w x v):VD (c.fe w').bad (c.fe w').w x v:=hv.mono h.Ah
theorem Touch.aV(h:Touch c r w')(ho:aO G c):aO G (c.fe w') where
 bV:=fun b hb=>by show b<w'.heap.size;rw[h.size];exact ho.bV b hb
 bD:=fun i b n hi=>by show b<w'.heap.size/\_;rw[h.size];exact ho.bD i b n hi
 inj:=ho.inj
 sep:=ho.sep
 box:=fun i bx hi=>(ho.box i bx hi).gen (fun _ _=>h.vr) (fun _ _=>h.vd) rfl (fun b n hn=>h.other b (fun e=>by subst e;exact ho.sep i _ n hn h.aD))
 gI:=fun g e hg=>h.vr (ho.gI g e hg)
theorem Touch.rel(h:Touch c r w'){c0:Cx}(hr:dy c0 c)(hl:c0.w.heap.size<=r):dy c0 (c.fe w') where
 lim:=hr.lim
 nz:=hr.nz
 aD:=hr.aD
 oz:=hr.oz
 os:=h.os.trans hr.os
 tape:=h.tape.trans hr.tape
 output:=h.output.trans hr.output
 size:=by show _<=w'.heap.size;rw[h.size];exact hr.size
 keep:=fun b hb hn=>(h.other b oM).trans (hr.keep b hb hn)
 eh:=hr.eh
 boxes:=fun i bx hi=>wX (fun _ hx=>hx) (fun _ _=>rfl) (hr.boxes i bx hi)
theorem Touch.rows(h:Touch c r w'){lim:Nat}{rows:List br}(hr:iD lim c rows)(hn:r ∉ rows.flatMap br.cy):iD lim (c.fe w') rows :=
 ⟨fun g hg=>(hr.each g hg).gen (fun b hb=>⟨(hr.each g hg).aD b hb,h.other b (fun e=>hn (aiM.2 ⟨g,hg,e ▸ hb⟩))⟩) (fun _ _=>h.vd) (fun _ _=>h.vr),hr.nodup⟩
variable {o:Obj}
theorem dy.dq{c0:Cx}(hr:dy c0 c):dy c0 (c.dq o) where
 lim:=hr.lim
 nz:=hr.nz
 aD:=fun b h => .inl (hr.aD b h)
 oz:=fun b h=>h.elim (hr.oz b) fun e => .inr (by rw[e];exact hr.size)
 os:=hr.os
 tape:=hr.tape
 output:=hr.output
 size:=by have:=hr.size;show _<=(c.w.alloc o).heap.size;simp;omega
 keep:=fun b hb hn=>by
  show(c.w.alloc o).heap[b]?=_;rw[Below.heap_alloc c.w o b (by have:=hr.size;omega)];exact hr.keep b hb hn
 eh:=hr.eh
 boxes:=fun i bx hi=>wX (fun _ hx=>hx) (fun _ _=>rfl) (hr.boxes i bx hi)
theorem iD.dq{lim:Nat}{rows:List br}(hr:iD lim c rows)(ho:aO G c):iD lim (c.dq o) rows :=
 ⟨fun g hg=>(hr.each g hg).gen (fun b hb=>⟨.inl ((hr.each g hg).aD b hb),Below.heap_alloc c.w o b (ho.bV _ ((hr.each g hg).aD b hb))⟩) (fun _ _=>D6) (fun _ _=>w9),hr.nodup⟩
end
theorem Iq{en:Array MapEntry}{j:Nat}(h:j<en.size):((en[j]?).map (·.born)).getD 0=en[j].born:=by simp[h]
theorem born_inj{en:Array MapEntry}(hn:(en.toList.map (·.born)).Nodup){i j:Nat}(hi:i<en.size)(hj:j<en.size)(h:en[i].born=en[j].born):i=j:=by
 have h1:(en.toList.map (·.born))[i]?=some en[i].born:=by simp[hi]
 have h2:(en.toList.map (·.born))[j]?=some en[i].born:=by simp[hj,h]
 exact ME hn h1 h2
theorem NZ{en:Array MapEntry}(hn:(en.toList.map (·.born)).Nodup){seen:List Nat}(ai:∀ j∈seen,j<en.size){j:Nat}(hj:j<en.size) :
  en[j]∈(leftOf en ((seen.map fun j=>((en[j]?).map (·.born)).getD 0).toArray)).toList↔j ∉ seen:=by
 simp only[leftOf,akh,aki,List.contains_toArray,Bool.not_eq_true',List.contains_eq_mem,decide_eq_false_iff_not,List.mem_map,not_exists,not_and];constructor
 ·rintro⟨-,h⟩ hm;exact h j hm (Iq hj)
 ·intro h;refine⟨by simp,fun k hk e=>?_⟩;rw[Iq (ai k hk)]at e;exact h (born_inj hn (ai k hk) hj e ▸ hk)
section
variable {E:Env} {aj:FuncId} {R:cT} {s:List AV} {h:List ae} {lits:List Nat} {ops:Array Oper} {o:Oper} {l:List Oper} {k:List aY}
theorem I.range(hE:E.OK){t kt e b:Nat}{m:Operand}{es:List (DV × DV)}{ti:bA}(hg:o.guard=none)(cH:o.op=.range t m)(ca:E.T[t]?=some ti)(hk:ti.k=.map kt e)(hm:bk E.G s m (.map b))(hb:h[b]?=some (.map es))(Ip:R.n<=b)
  (H:∀ i:Iter,i.seen=[]->i.es=es->i.since<=i.ck->I E aj ⟨R.n,R.Q,.iter i::R.rows,R.fx⟩ lits (.bF ops l::k) (cg s o.dst (.d (.raw (.pointer (some ⟨i.r,0,none⟩))))) (h.set b .gone)):I E aj R lits (.bF ops (o::l)::k) s h:=by
 refine .of ?_;unfold AW;intro c0 c t' fj h0 h1 h2 h3 hr bz h4 h5 cs;subst h2;obtain⟨i,hi,dG,aV⟩:=oB (h1 _ (aio ..));obtain⟨nJ,d,g1,g2,g3,-⟩:=cK (hE.types t ti ca);have hd:d=.map kt e:=by rw[hk]at g3;cases d<;>first|(cases g3;rfl)|cases g3
 subst hd;have Ir:=hm c ⟨t',marks R.fx.aS⟩ h3 h4;obtain⟨blk,cap,en,ck,q1,q2,q3,qe,q4⟩:=yH h3 hb Ir;have dB:=h3.dj q2;have xb:=hr.dj q2 oM;have zh:(c.dj b blk).w=c.w:=rfl
 let it:Obj := .mapIter (some blk) ck #[] ck
 have fq:aO E.G ((c.dj b blk).dq it):=dB.dq;have Is:dy c0 ((c.dj b blk).dq it):=xb.dq;have hblk:blk<c.w.heap.size:=(h3.bD b blk cap q2).1
 let gi:Iter:=⟨blk,c.w.heap.size,en,ck,ck,[],es⟩
 have It:nD c0.w.heap.size ((c.dj b blk).dq it) gi:=by
  refine⟨.inl (.inr rfl),.inr rfl,hr.size,?_,⟨ck,ahL _,fun _=>rfl,?_⟩,qe.born,qe,fun j kk x mm h1 h2=>?_,fun j hj=>by simp[gi]at hj⟩
  ·show(c.w.alloc it).heap[blk]?=_;rw[Below.heap_alloc c.w it blk hblk];exact q3
  ·show(c.w.alloc it).heap[c.w.heap.size]?=_;exact heap_alloc_new _ _
  ·have:=q4.2 j kk x mm h1 (zD h2);exact⟨D6 (wZ q2 this.1),D6 (wZ q2 this.2)⟩
 have rL:dp c0.w.heap.size ((c.dj b blk).dq it) (.iter gi::R.rows) R.fx.loops:=by
  have hold:=(bz.all.dj (b:=b) (blk:=blk) q2).dq (o:=it) dB;refine⟨⟨fun g hg=>?_,?_⟩,fun g hg=>(ai3.1 hg).elim (fun e=>by subst e;trivial) (bz.flat g)⟩
  ·rcases ai3.1 hg with rfl|hg
   ·exact It
   ·exact hold.each g hg
  ·rw[aie,ahJ];refine aii.2 ⟨by simp[br.cy,gi];omega,bz.all.nodup,fun x hx y hy e=>?_⟩;subst e;simp[br.cy,gi]at hx;rcases hx with rfl|rfl
   ·exact D4 bz.all h3 q2 hy
   ·obtain⟨g,hg,hx⟩:=aiM.1 hy;have:=h3.bV _ ((bz.all.each g hg).aD _ hx);omega
 have cL:(execOp (⟨t',marks R.fx.aS⟩:Act).eval o).run E.P c.w=.ok (.value (.pointer (some ⟨c.w.heap.size,0,none⟩))) (c.w.alloc it):=by
  simp only[execOp,cH,q1,Instr.range,newObj,ahq,run_underlying g2,ahr,sW q3,ahp,Sem.run];rfl
 have fw:VS ((c.dj b blk).dq it) (cg s o.dst (.d (.raw (.pointer (some ⟨c.w.heap.size,0,none⟩))))) ((⟨t',marks R.fx.aS⟩:Act).put o.dst (.pointer (some ⟨c.w.heap.size,0,none⟩))).tmps :=
  VS.cg (a:=⟨t',marks R.fx.aS⟩) ⟨h4.1,fun i x v hx hv=>w9 (tn q2 (h4.2 i x v hx hv))⟩ o.dst (.d _ _ (.raw _ rfl))
 have H:=(H gi rfl rfl (ahL _)).to;unfold AW at H;obtain⟨c2,fr,rr,u,e1,e2,e3,e4,e5,e6⟩:=H c0 _ _ fj h0 (iM aV (eV h1)) rfl fq Is rL fw (px (fun _ _ hv=>w9 (tn q2 hv)) h5) cs;refine⟨c2,fr,rr,u,e1,e2,e3,e4,.head ?_ e5,e6⟩;simp only[cn.bO,ahx,dG];rw[yx hi (iF hg c t' h4) (.inl cL),put_defers];rfl
theorem I.next{x:Operand}{it:Iter}{g1 g2:List br}(hg:o.guard=none)(cH:o.op=.next x false)(vc:it.since<=it.ck)(rL:R.rows=g1 ++ .iter it::g2)(hx:bk E.G s x (.d (.raw (.pointer (some ⟨it.r,0,none⟩)))))
  (H0:(∀ j,j<it.es.length->j∈it.seen)->I E aj R lits (.bF ops l::k) (cg s o.dst (.d (.aG [.bool false]))) h)
  (H1:∀ j kk y,it.es[j]?=some (kk,y)->j ∉ it.seen->I E aj ⟨R.n,R.Q,g1 ++ .iter { it with seen:=it.seen++[j] }::g2,R.fx⟩ lits (.bF ops l::k) (cg s o.dst (.d (.aG [.bool true,kk,y]))) h):I E aj R lits (.bF ops (o::l)::k) s h:=by
 refine .of ?_;unfold AW;intro c0 c t' fj h0 h1 h2 h3 hr bz h4 h5 cs;subst h2;obtain⟨i,hi,dG,aV⟩:=oB (h1 _ (aio ..));have cV:(⟨t',marks R.fx.aS⟩:Act).eval x=.pointer (some ⟨it.r,0,none⟩):=by
  have:=hx c ⟨t',marks R.fx.aS⟩ h3 h4;generalize (⟨t',marks R.fx.aS⟩:Act).eval x=u at this;cases this with
  |d _ _ hq=>cases hq;rfl
 have D7:=bz;rw[rL]at D7;obtain⟨r1,r2,r3⟩:=D7.w7;have r2:nD c0.w.heap.size c it:=r2;obtain⟨z0,z1,-,z2⟩:=r2.iter;have bP:it.en.size=it.es.length:=r2.bM.size;rcases run_next_at (P:=E.P) c.w o.type it.r it.bm it.since z0 _ it.en it.ck z2 r2.map r2.old z1 with⟨n1,n2⟩|⟨bM,n1,w1,n2,n3⟩
 ·have H:=(H0 fun j hj=>by
   apply Classical.byContradiction;intro hm;have lv:j<it.en.size:=by omega
   have:=(NZ r2.bM.nodup r2.lt lv).2 hm;have hl:(leftOf it.en ((it.seen.map fun j=>((it.en[j]?).map (·.born)).getD 0).toArray)).toList.length=0:=zD n1
   rw[List.eq_nil_of_length_eq_zero hl]at this
   cases this).to
  unfold AW at H;have cL:(execOp (⟨t',marks R.fx.aS⟩:Act).eval o).run E.P c.w=.ok (.value (.tuple #[.bool false])) c.w:=by
   simp only[execOp,cH,cV,ahq,n2,ahr,ahp]
  have fw:VS c (cg s o.dst (.d (.aG [.bool false]))) ((⟨t',marks R.fx.aS⟩:Act).put o.dst (.tuple #[.bool false])).tmps :=
   VS.cg (a:=⟨t',marks R.fx.aS⟩) h4 o.dst (.d _ _ (.aG _ _ rfl fun j y v hy hv=>by
    match j with
    |0=>simp at hy hv;subst hy;subst hv;exact .bool _
    |j+1=>simp at hy))
  obtain⟨c2,fr,rr,u,e1,e2,e3,e4,e5,e6⟩:=H c0 c _ fj h0 (iM aV (eV h1)) rfl h3 hr bz fw h5 cs;refine⟨c2,fr,rr,u,e1,e2,e3,e4,.head ?_ e5,e6⟩;simp only[cn.bO,ahx,dG];rw[yx hi (iF hg c t' h4) (.inl cL),put_defers];rfl
 ·have iq:bM∈it.en.toList:=by
   simp only[leftOf,akh,aki]at n1;exact n1.1
  obtain⟨j,hj,rfl⟩:=List.getElem_of_mem iq;have lv:j<it.en.size:=zD hj
  have ib:it.en.toList[j]=it.en[j]:=by simp
  rw[ib]at n1 n3;have iY:=(NZ r2.bM.nodup r2.lt lv).1 n1;obtain⟨⟨kk,y⟩,N0⟩:∃ p,it.es[j]?=some p:=⟨it.es[j]' oM,by rw[List.getElem?_eq_getElem]⟩;have H:=(H1 j kk y N0 iY).to;unfold AW at H;have uK:=h3.bV _ r2.Az;have zh:w1.os=c.w.os/\w1.tape=c.w.tape/\w1.output=c.w.output/\w1.heap=c.w.heap:=by rcases n2 with rfl|rfl<;>exact⟨rfl,rfl,rfl,rfl⟩
  obtain⟨a1,a2,a3,a4⟩:=zh;generalize wg:setBlock w1 it.r (.mapIter (some it.bm) it.since (((it.seen.map fun j=>((it.en[j]?).map (·.born)).getD 0).toArray).push it.en[j].born) it.ck)=w' at n3;have rM:Touch c it.r w':=by
   subst wg;refine⟨r2.Az,a1,a2,a3,by simp[setBlock,a4],fun b hb=>?_⟩;simp only[setBlock,a4];rw[Array.getElem?_setIfInBounds_ne (Ne.symm hb)]
  have Wo:it.r ∉ ((g1++g2)++R.fx.loops).flatMap br.cy:=r3 _ (by simp[br.cy]);have cW:it.bm≠it.r:=by
   have:=D7.all.nodup;rw[aiK,aie,akg,aii]at this;have h6:=this.2.1;rw[ahJ,aii]at h6;have h7:=h6.1;simp[br.cy]at h7;exact h7
  have It:nD c0.w.heap.size (c.fe w') { it with seen:=it.seen++[j] }:=by
   refine⟨r2.GC,r2.Az,r2.LQ,(rM.other _ cW).trans r2.map,⟨it.ck,?_,fun _=>rfl,?_⟩,r2.old,r2.bM,fun p kk x mm h1 h2=>?_,fun p hp=>?_⟩
   ·exact vc
   ·show w'.heap[it.r]?=_;subst wg;simp only[setBlock,a4];rw[Array.getElem?_setIfInBounds_self_of_lt uK];simp[Iq lv]
   ·have:=r2.val p kk x mm h1 h2;exact⟨rM.vd this.1,rM.vd this.2⟩
   ·rcases aif.1 hp with hp|hp
    ·exact r2.lt p hp
    ·simp at hp;subst hp;exact lv
  have Wp:dp c0.w.heap.size (c.fe w') (g1 ++ .iter { it with seen:=it.seen++[j] }::g2) R.fx.loops:=by
   have hold:=rM.rows r1.all Wo;refine⟨⟨fun g hg=>?_,?_⟩,fun g hg=>?_⟩
   ·rcases aif.1 hg with hg|hg
    ·rcases aif.1 hg with hg|hg
     ·exact hold.each g (ajL _ (ajL _ hg))
     ·rcases ai3.1 hg with rfl|hg
      ·exact It
      ·exact hold.each g (ajL _ (ajM _ hg))
    ·exact hold.each g (ajM _ hg)
   ·have:=D7.all.nodup;rw[aiK,aie,akg,ahJ]at this ⊢;exact this
   ·rcases aif.1 hg with hg|hg
    ·exact r1.flat g (ajL _ hg)
    ·rcases ai3.1 hg with rfl|hg
     ·trivial
     ·exact r1.flat g (ajM _ hg)
  have bJ:=r2.val j kk y it.en[j] N0 (by simp[lv]);have cL:(execOp (⟨t',marks R.fx.aS⟩:Act).eval o).run E.P c.w=.ok (.value (.tuple #[.bool true,it.en[j].key,it.en[j].val])) w':=by
   simp only[execOp,cH,cV,ahq,n3,ahr,ahp]
  have fw:VS (c.fe w') (cg s o.dst (.d (.aG [.bool true,kk,y]))) ((⟨t',marks R.fx.aS⟩:Act).put o.dst (.tuple #[.bool true,it.en[j].key,it.en[j].val])).tmps :=
   VS.cg (a:=⟨t',marks R.fx.aS⟩) ⟨h4.1,fun i x v hx hv=>rM.vr (h4.2 i x v hx hv)⟩ o.dst (.d _ _ (.aG _ _ rfl fun p z v hz hv=>by
    match p with
    |0=>simp at hz hv;subst hz;subst hv;exact .bool _
    |1=>simp at hz hv;subst hz;subst hv;exact rM.vd bJ.1
    |2=>simp at hz hv;subst hz;subst hv;exact rM.vd bJ.2
    |p+3=>simp at hz))
  obtain⟨c2,fr,rr,u,e1,e2,e3,e4,e5,e6⟩:=H c0 (c.fe w') _ fj h0 (iM aV (eV h1)) rfl (rM.aV h3) (rM.rel hr r2.LQ) Wp fw (px (fun _ _=>rM.vr) h5) cs;refine⟨c2,fr,rr,u,e1,e2,e3,e4,.head ?_ e5,e6⟩;simp only[cn.bO,ahx,dG];rw[yx hi (iF hg c t' h4) (.inl cL),put_defers];rfl
end
end Go.az
end
section
namespace Go.az
open Go Go.RowKit
section
variable {E:Env} {aj:FuncId} {R:cT} {td:List aY} {s:List AV} {h:List ae}
theorem I.qA{lits:List Nat}(b off:Nat)(ts:Nat × Nat)(kh:0<ts.2){cs:List AV}(hb:h[b]?=some (.cells cs))(hd:cs[off]?=some (.d .aF))
  (H:I E aj R lits td s (h.set b (.cells (cs.set off (.own h.length 0)))++[.arr 0 ts []])):I E aj R lits td s h:=by
 replace H:=H.to;refine .of (.mb (fun c t fj h1 h2 h3 h4 h5=>?_) H);subst h2;have fE:=aW hb
 let c':Cx:={ c with heap:=c.heap.set b (.cells (cs.set off (.own c.heap.length 0)))++[.arr 0 ts []] }
 have bI:c.own c.heap.length=none:=by
  cases ho:c.own c.heap.length with
  |none=>rfl
  |some p=>have:=(h3.bD _ p.1 p.2 ho).2;omega
 have eK:c'.heap[c.heap.length]?=some (.arr 0 ts []):=by show(c.heap.set b _++_)[_]?=_;rw[List.getElem?_append_right sP];simp
 have N1:c'.heap[b]?=some (.cells (cs.set off (.own c.heap.length 0))):=by
  show(c.heap.set b _++_)[b]?=_;rw[ahT (by simp;omega),ahQ fE]
 have tp:∀ i,i≠b->i<c.heap.length->c'.heap[i]?=c.heap[i]? := fun i hi hl=>by
  show(c.heap.set b _++_)[i]?=_;rw[ahT (by simp;omega),ahR (Ne.symm hi)]
 have bc:Step c c':=⟨rfl,h3.bV,rfl,rfl,rfl,ahL _,fun _ _ _=>rfl,fun i x n hi _=>⟨n,hi⟩,fun i bx hi=>by
  by_cases bL:i=b
  ·subst bL;rw[hb]at hi;cases hi;exact .inl ⟨_,N1,rfl,by simp⟩
  ·exact nB hi (tp i bL (aW hi)) rfl⟩
 have aV:aO E.G c':=h3.next bc (fun i x n hi=>by
   have:=h3.bD i x n hi;refine⟨this.1,?_⟩;show i<(c.heap.set b _++_).length;simp;omega) h3.inj (fun i bx hi=>by
  by_cases hY:i=c.heap.length
  ·subst hY;rw[eK]at hi;cases hi;exact .inr ⟨kh,fun i e he=>by simp at he,.inl ⟨bI,rfl⟩⟩
  ·have ai:i<c.heap.length:=by
    have h1:=aW hi;have h2:c'.heap.length=c.heap.length+1:=by show(c.heap.set b _++_).length=_;simp
    omega
   by_cases bL:i=b
   ·subst bL;rw[N1]at hi;cases hi;right;obtain⟨blk,cap,vs,ty,g1,g2,g3,g4⟩:=h3.box i _ hb;refine⟨blk,cap,vs,ty,g1,g2,zD g3,fun j x v hx hv=>?_⟩;by_cases hj:j=off
    ·subst hj;rw[ahQ (aW hd)]at hx;cases hx;have:=g4 j _ v hd hv;cases this with
     |d _ _ hq=>cases hq;exact .jJ _ _ ts eK bI
    ·rw[ahR (Ne.symm hj)]at hx;exact bc.vr (g4 j x v hx hv)
   ·rw[tp i bL ai]at hi
    exact .inl ⟨hi,rfl,fun _ _ _=>rfl⟩)
 exact⟨c',t,fj,h1,rfl,aV,bc.vs h4,bc.cr h5,bc,fun _ => .refl _ _⟩
end
end Go.az
end
