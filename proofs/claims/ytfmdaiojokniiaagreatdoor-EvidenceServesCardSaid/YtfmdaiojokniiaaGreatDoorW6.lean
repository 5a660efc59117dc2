/- Several texts of mine, one behind the other. Conditions: as each says. -/
import Derived.Test.YtfmdaiojokniiaaGreatDoorW3
import Derived.Maps.RangeRun
set_option linter.unusedVariables false
set_option linter.unusedSimpArgs false
section
namespace Go.aw
open Go Go.RowKit
open Go.ChangeMaps (setBlock)
theorem tI {c0 c c':Cx} {i:Nat} (hh:∀ x,c.heap[i]? = some x→c'.heap[i]? = some x) (ho:∀ x,c.heap[i]? = some x→c'.own i=c.own i) {bx:ab} (h:uO c0 c i bx):uO c0 c' i bx:=by
 cases bx with
 |cells cs =>
  rcases h with ⟨cs',h1,h2,h3⟩ | h1
  ·exact .inl ⟨cs',hh _ h1,(ho _ h1).trans h2,h3⟩
  ·exact .inr (hh _ h1)
 |arr g sz l =>
  rcases h with ⟨g',l',h1,h2⟩ | h1
  ·refine .inl ⟨g',l',hh _ h1,?_⟩;rcases h2 with h2 | ⟨h2,h3,h4⟩
   ·exact .inl h2
   ·exact .inr ⟨h2,h3,(ho _ h1).trans h4⟩
  ·exact .inr (hh _ h1)
 |map es =>
  rcases h with ⟨cX,h1,h2⟩ | h1
  ·exact .inl ⟨cX,hh _ h1,(ho _ h1).trans h2⟩
  ·exact .inr (hh _ h1)
 |gone=>exact hh _ h
 |hole=>obtain ⟨b,h⟩:=h; exact ⟨b,hh _ h⟩
section
variable {G:List (Nat × DV)} {c:Cx} {bx:ab} {blk cap:Nat}
def Cx.cU (c:Cx) (bx:ab) (blk cap:Nat):Cx:=⟨fun i=>if i=c.heap.length then some (blk,cap) else c.own i,c.heap++[bx],fun b=>c.ax b∧b≠blk,c.w⟩
theorem NN (ho:aC G c) (hb:c.ax blk) (b:Nat):(c.cU bx blk cap).bad b↔c.bad b:=by
 constructor
 ·rintro (h | ⟨i,n,h⟩)
  ·exact .inl h.1
  ·simp only [Cx.cU] at h;split at h
   ·cases h; exact .inl hb
   ·exact .inr ⟨i,n,h⟩
 ·rintro (h | ⟨i,n,h⟩)
  ·by_cases e:b=blk
   ·subst e; exact .inr ⟨c.heap.length,cap,by simp [Cx.cU]⟩
   ·exact .inl ⟨h,e⟩
  ·refine .inr ⟨i,n,?_⟩;have:=(ho.bk i b n h).2;simp only [Cx.cU];rw [if_neg (by omega)];exact h
theorem GP (ho:aC G c) (hb:c.ax blk) (b:Nat) (_:b<c.w.heap.size) (hn:¬ c.bad b):¬ (c.cU bx blk cap).bad b∧(c.cU bx blk cap).w.heap[b]? = c.w.heap[b]? := ⟨fun h=>hn ((NN ho hb b).1 h),rfl⟩
theorem GQ {i:Nat} {b:ab} (hi:c.heap[i]? = some b):(c.cU bx blk cap).heap[i]? = c.heap[i]? := List.getElem?_append_left (aP hi)
theorem Ce {i:Nat} {b:ab} (hi:c.heap[i]? = some b):(c.cU bx blk cap).own i=c.own i:=by
 have:=aP hi;simp only [Cx.cU];rw [if_neg (by omega)]
theorem wk (ho:aC G c) (hb:c.ax blk) {x:AV} {v:Value} (hv:VR c x v):VR (c.cU bx blk cap) x v:=ql (GP ho hb) (fun _ _ hi=>kq hi (GQ hi) (Ce hi)) hv
theorem Cf (ho:aC G c) (hb:c.ax blk) {x:DV} {v:Value} (hv:VD c.bad c.w x v):VD (c.cU bx blk cap).bad (c.cU bx blk cap).w x v:=hv.mono (GP ho hb)
theorem aC.cU (ho:aC G c) (hb:c.ax blk) (gg:ia (c.cU bx blk cap) c.heap.length bx):aC G (c.cU bx blk cap) where
 bG:=fun b h=>ho.bG b h.1
 bk:=fun i b n hi=>by
  have hl:(c.cU bx blk cap).heap.length=c.heap.length+1:=by simp [Cx.cU]
  simp only [Cx.cU] at hi;split at hi
  ·cases hi; exact ⟨ho.bG _ hb,by omega⟩
  ·have:=ho.bk i b n hi; exact ⟨this.1,by omega⟩
 inj:=fun i j b n m hi hj=>by
  simp only [Cx.cU] at hi hj;split at hi <;> split at hj
  ·omega
  ·cases hi; exact absurd hb (ho.sep j _ m hj)
  ·cases hj; exact absurd hb (ho.sep i _ n hi)
  ·exact ho.inj i j b n m hi hj
 sep:=fun i b n hi h=>by
  simp only [Cx.cU] at hi;split at hi
  ·cases hi; exact h.2 rfl
  ·exact ho.sep i b n hi h.1
 box:=fun i b hx=>by
  rcases Nat.lt_trichotomy i c.heap.length with hi | rfl | hi
  ·have eK:c.heap[i]? = some b:=by
    have:(c.cU bx blk cap).heap[i]? = c.heap[i]? := List.getElem?_append_left hi
    rwa [this] at hx
   exact (ho.box i b eK).gen (fun _ _=>wk ho hb) (fun _ _=>Cf ho hb) (Ce eK) (fun _ _ _=>rfl)
  ·have:b=bx:=by simp [Cx.cU] at hx; exact hx.symm
   subst this;exact gg
  ·rw [List.getElem?_eq_none (by simp [Cx.cU]; omega)] at hx;cases hx
 eJ:=fun g e hg=>wk ho hb (ho.eJ g e hg)
theorem dY.cU {c0:Cx} (hr:dY c0 c) (hb:c0.w.heap.size≤blk):dY c0 (c.cU bx blk cap) where
 lim:=hr.lim
 lq:=hr.lq
 ax:=fun b h=>⟨hr.ax b h,fun e=>by subst e; have:=hr.lim _ h; omega⟩
 l4:=fun b h=>hr.l4 b h.1
 os:=hr.os
 tape:=hr.tape
 output:=hr.output
 size:=hr.size
 keep:=hr.keep
 da:=fun i b n hi ah=>by
  simp only [Cx.cU] at hi;split at hi
  ·cases hi; omega
  ·exact hr.da i b n hi ah
 boxes:=fun i bx hi=>tI (fun x hx=>(GQ hx).trans hx) (fun x hx=>Ce hx) (hr.boxes i bx hi)
theorem ff.cU {lim:Nat} {rows:List bc} (h:ff lim c rows) (ho:aC G c) (hb:c.ax blk) (hn:blk ∉ rows.flatMap bc.ca):ff lim (c.cU bx blk cap) rows :=
 ⟨fun r hr=>(h.each r hr).gen (fun b GR=>⟨⟨(h.each r hr).ax b GR,fun e=>hn (List.mem_flatMap.2 ⟨r,hr,e ▸ GR⟩)⟩,rfl⟩) (fun _ _=>Cf ho hb) (fun _ _=>wk ho hb),h.nodup⟩
def Cx.cO (c:Cx) (b blk:Nat):Cx:=⟨fun i=>if i=b then none else c.own i,c.heap.set b .gone,fun x=>c.ax x∨x=blk,c.w⟩
variable {b:Nat}
theorem tJ {i:Nat} {p:Nat × Nat} (hi:(c.cO b blk).own i=some p):i≠b∧c.own i=some p:=by
 simp only [Cx.cO] at hi;split at hi
 ·cases hi
 ·rename_i q; exact ⟨q,hi⟩
theorem NO (hb:c.own b=some (blk,cap)) (x:Nat):(c.cO b blk).bad x↔c.bad x:=by
 constructor
 ·rintro ((h | h) | ⟨i,n,h⟩)
  ·exact .inl h
  ·subst h; exact .inr ⟨b,cap,hb⟩
  ·exact .inr ⟨i,n,(tJ h).2⟩
 ·rintro (h | ⟨i,n,h⟩)
  ·exact .inl (.inl h)
  ·by_cases e:i=b
   ·subst e; rw [hb] at h; cases h; exact .inl (.inr rfl)
   ·exact .inr ⟨i,n,by simp only [Cx.cO,if_neg e]; exact h⟩
theorem GS (hb:c.own b=some (blk,cap)) (x:Nat) (_:x<c.w.heap.size) (hn:¬ c.bad x):¬ (c.cO b blk).bad x∧(c.cO b blk).w.heap[x]? = c.w.heap[x]? := ⟨fun h=>hn ((NO hb x).1 h),rfl⟩
theorem NP {i:Nat} {y:ab} (hi:c.heap[i]? = some y):sk c (c.cO b blk) i y:=by
 by_cases e:i=b
 ·subst e;have hg:(c.cO i blk).heap[i]? = some .gone:=List.getElem?_set_self (aP hi);cases y with
  |cells cs=>exact .inr hg
  |arr g sz l=>exact .inr hg
  |map es=>exact .inr hg
  |gone=>exact hg
  |hole=>exact ⟨_,hg⟩
 ·exact kq hi (List.getElem?_set_ne (Ne.symm e)) (by simp only [Cx.cO,if_neg e])
theorem rA (hb:c.own b=some (blk,cap)) {x:AV} {v:Value} (hv:VR c x v):VR (c.cO b blk) x v:=ql (GS hb) (fun _ _=>NP) hv
theorem wm (hb:c.own b=some (blk,cap)) {x:DV} {v:Value} (hv:VD c.bad c.w x v):VD (c.cO b blk).bad (c.cO b blk).w x v:=hv.mono (GS hb)
theorem aC.cO (ho:aC G c) (hb:c.own b=some (blk,cap)):aC G (c.cO b blk) where
 bG:=fun x h=>h.elim (ho.bG x) fun e=>by subst e; exact (ho.bk b _ cap hb).1
 bk:=fun i x n hi=>by
  have:=ho.bk i x n (tJ hi).2;refine ⟨this.1,?_⟩;show i<(c.heap.set b .gone).length;rw [List.length_set]; exact this.2
 inj:=fun i j x n m hi hj=>ho.inj i j x n m (tJ hi).2 (tJ hj).2
 sep:=fun i x n hi h=>by
  obtain ⟨h1,h2⟩:=tJ hi;rcases h with h | h
  ·exact ho.sep i x n h2 h
  ·subst h; exact h1 (ho.inj i b x n cap h2 hb)
 box:=fun i y hx=>by
  by_cases e:i=b
  ·subst e;have ah:i<c.heap.length:=(ho.bk i _ cap hb).2;have:(c.cO i blk).heap[i]? = some .gone:=List.getElem?_set_self ah;rw [this] at hx;cases hx;show (c.cO i blk).own i=none;simp [Cx.cO]
  ·have eK:c.heap[i]? = some y:=by
    have:(c.cO b blk).heap[i]? = c.heap[i]? := List.getElem?_set_ne (Ne.symm e)
    rwa [this] at hx
   exact (ho.box i y eK).gen (fun _ _=>rA hb) (fun _ _=>wm hb) (by simp only [Cx.cO,if_neg e]) (fun _ _ _=>rfl)
 eJ:=fun g e hg=>rA hb (ho.eJ g e hg)
theorem GU {c0:Cx} (hr:dY c0 c) (hb:c.own b=some (blk,cap)) (hn:c0.heap.length≤b):c0.w.heap.size≤blk:=by
 rcases Nat.lt_or_ge blk c0.w.heap.size with h | h
 ·obtain ⟨m,hm⟩:=hr.da b blk cap hb h;have:=hr.lq b _ hm;omega
 ·exact h
theorem dY.cO {c0:Cx} (hr:dY c0 c) (hb:c.own b=some (blk,cap)) (hn:c0.heap.length≤b):dY c0 (c.cO b blk) where
 lim:=hr.lim
 lq:=hr.lq
 ax:=fun x h => .inl (hr.ax x h)
 l4:=fun x h=>h.elim (hr.l4 x) fun e => .inr (by subst e; exact GU hr hb hn)
 os:=hr.os
 tape:=hr.tape
 output:=hr.output
 size:=hr.size
 keep:=hr.keep
 da:=fun i x n hi ah=>hr.da i x n (tJ hi).2 ah
 boxes:=fun i bx hi=>by
  have bq:i≠b:=fun e=>by have:=aP hi; omega
  exact tI (fun x hx=>(List.getElem?_set_ne (Ne.symm bq)).trans hx) (fun x hx=>by simp only [Cx.cO,if_neg bq]) (hr.boxes i bx hi)
theorem ff.cO {lim:Nat} {rows:List bc} (h:ff lim c rows) (hb:c.own b=some (blk,cap)):ff lim (c.cO b blk) rows :=
 ⟨fun r hr=>(h.each r hr).gen (fun x hx=>⟨.inl ((h.each r hr).ax x hx),rfl⟩) (fun _ _=>wm hb) (fun _ _=>rA hb),h.nodup⟩
theorem GV {lim:Nat} {rows:List bc} (h:ff lim c rows) (ho:aC G c) (hb:c.own b=some (blk,cap)):blk ∉ rows.flatMap bc.ca:=fun hm=>by
 obtain ⟨r,hr,hx⟩:=List.mem_flatMap.1 hm;exact ho.sep b blk cap hb ((h.each r hr).ax blk hx)
theorem NQ {α:Type} {a b c:List α} (h:(a++b++c).Nodup):(a++c).Nodup∧∀ x∈b,x ∉ a++c:=by
 have hp:(a++b++c).Perm (b++(a++c)):=by
  rw [List.append_assoc,← List.append_assoc b a c];refine (List.Perm.trans ?_ (List.Perm.append_right c List.perm_append_comm));rw [List.append_assoc]
 have h2:=(hp.nodup_iff).1 h;rw [List.nodup_append] at h2;exact ⟨h2.2.1,fun x hx eK=>h2.2.2 x hx x eK rfl⟩
theorem ff.tK {lim:Nat} {g1 g2:List bc} {g:bc} (h:ff lim c (g1++g::g2)):ff lim c (g1++g2)∧gn lim c g∧∀ x∈g.ca,x ∉ (g1++g2).flatMap bc.ca:=by
 have hn:=h.nodup;rw [List.flatMap_append,List.flatMap_cons,← List.append_assoc] at hn;obtain ⟨h1,h2⟩:=NQ hn;rw [← List.flatMap_append] at h1 h2;refine ⟨⟨fun r hr=>h.each r ?_,h1⟩,h.each g (by simp),h2⟩;rcases List.mem_append.1 hr with hr | hr
 ·exact List.mem_append_left _ hr
 ·exact List.mem_append_right _ (List.mem_cons_of_mem _ hr)
end
theorem dw.tK {lim:Nat} {c:Cx} {g1 g2 L:List bc} {g:bc} (h:dw lim c (g1++g::g2) L):dw lim c (g1++g2) L∧gn lim c g∧∀ x∈g.ca,x ∉ ((g1++g2)++L).flatMap bc.ca:=by
 have h1:=h.all;rw [List.append_assoc,List.cons_append] at h1;obtain ⟨k1,k2,k3⟩:=h1.tK;rw [← List.append_assoc] at k1 k3;refine ⟨⟨k1,fun x hx=>h.flat x ?_⟩,k2,k3⟩;rcases List.mem_append.1 hx with hx | hx
 ·exact List.mem_append_left _ hx
 ·exact List.mem_append_right _ (List.mem_cons_of_mem _ hx)
theorem Cg {c:Cx} {s:List AV} {t:Array Value} (hv:VS c s t) {d:Nat} {x:AV} (hx:∀ v,t[d]? = some v→VR c x v):VS c (s.set d x) t:=by
 refine ⟨by simpa using hv.1,fun i y u hy hu=>?_⟩;by_cases hd:d=i
 ·subst hd;have hl:d<s.length:=by have:=aP hy; simpa using this
  rw [List.getElem?_set_self hl] at hy;cases hy;exact hx u hu
 ·rw [List.getElem?_set_ne hd] at hy;exact hv.2 i y u hy hu
section
variable {E:Env} {af:FuncId} {R:cu} {td:List aH} {s:List AV} {h:List ab} {lits:List Nat}
theorem I.borrow (d:Nat) {cK:Row} {n:Nat} {g1 g2:List bc} (rB:R.rows=g1 ++ .row cK::g2) (hd:s[d]? = some (.d (.raw (.slice (some ⟨cK.blk,0,none⟩) n cK.cap)))) (hn:n=cK.l.length)
  (H:I E af ⟨R.n,R.Q,g1++g2,R.fx⟩ lits td (s.set d (.own h.length 0)) (h++[.arr 0 cK.ts cK.l])):I E af R lits td s h:=by
 replace H:=H.to;refine .of ?_;unfold AW at H ⊢;intro c0 c t dD h0 h1 h2 h3 hr bE h4 h5 cs;subst h2;rw [rB] at bE;obtain ⟨r1,r2,r3⟩:=bE.tK;have r2:mT c0.w.heap.size c cK:=r2;have Ch:cK.blk ∉ ((g1++g2)++R.fx.loops).flatMap bc.ca:=r3 _ (by simp [bc.ca]);have mf:(c.cU (.arr 0 cK.ts cK.l) cK.blk cK.cap).heap[c.heap.length]? = some (.arr 0 cK.ts cK.l):=by simp [Cx.cU]
 have bz:(c.cU (.arr 0 cK.ts cK.l) cK.blk cK.cap).own c.heap.length=some (cK.blk,cK.cap):=by simp [Cx.cU]
 have aJ:aC E.G (c.cU (.arr 0 cK.ts cK.l) cK.blk cK.cap):=h3.cU r2.ax (by
  obtain ⟨q1,q2,q3,q4,vs,q5,q6,q7,q8,q9⟩:=r2;refine ⟨q3,q4,.inr ⟨cK.blk,cK.cap,vs,bz,q5,q6,q7,q8,fun i j e x he hx=>?_⟩⟩;obtain ⟨v,k1,k2,k3⟩:=q9 i j e x he hx
  exact ⟨v,k1,k2,Cf h3 q1 k3⟩)
 have eu:VS (c.cU (.arr 0 cK.ts cK.l) cK.blk cK.cap) s t:=⟨h4.1,fun i x v hx hv=>wk h3 r2.ax (h4.2 i x v hx hv)⟩
 have:=H c0 (c.cU (.arr 0 cK.ts cK.l) cK.blk cK.cap) t dD h0 h1 rfl aJ (hr.cU r2.new) ⟨r1.all.cU h3 r2.ax Ch,r1.flat⟩ (Cg eu fun v hv=>by
  have eA:=h4.2 d _ v hd hv;cases eA with
  |d _ _ hq =>
   cases hq;subst hn
   exact .own _ 0 cK.ts cK.l cK.blk cK.cap mf bz) (mS (fun _ _=>wk h3 r2.ax) h5) cs
 exact this
theorem I.cO (d b:Nat) {g:Nat} {ts:Nat × Nat} {l:List DV} (hb:h[b]? = some (.arr g ts l)) (Ci:R.n≤b) (hd:s[d]? = some (.own b g))
  (H0:l=[]→I E af R lits td (s.set d (.d (.raw (.slice none 0 0)))) (h.set b .gone))
  (H:∀ blk cap,I E af ⟨R.n,R.Q,.row ⟨blk,cap,ts,l⟩::R.rows,R.fx⟩ lits td (s.set d (.d (.raw (.slice (some ⟨blk,0,none⟩) l.length cap)))) (h.set b .gone)):I E af R lits td s h:=by
 refine .of ?_;unfold AW;intro c0 c t dD h0 h1 h2 h3 hr bE h4 h5 cs;subst h2;obtain ⟨q0,q1,q2⟩:=h3.box b _ hb;rcases q2 with ⟨q2,q3⟩ | ⟨blk,cap,vs,q2,q3,q4,q5,q6,q7⟩
 ·subst q3;have H:=(H0 rfl).to
  let c':Cx:={ c with own:=fun i=>if i=b then none else c.own i,heap:=c.heap.set b .gone }
  have ea:c'.heap[b]? = some .gone:=List.getElem?_set_self (aP hb);have bz:∀ i,c'.own i=c.own i:=fun i=>by
   simp only [c'];split
   ·rename_i e; subst e; exact q2.symm
   ·rfl
  have nP:∀ x,c'.bad x↔c.bad x:=fun x=>by
   constructor
   ·rintro (h | ⟨i,n,h⟩)
    ·exact .inl h
    ·exact .inr ⟨i,n,(bz i) ▸ h⟩
   ·rintro (h | ⟨i,n,h⟩)
    ·exact .inl h
    ·exact .inr ⟨i,n,(bz i).trans h⟩
  have aV:Step c c':=⟨rfl,h3.bG,rfl,rfl,rfl,Nat.le_refl _,fun _ _ _=>rfl,fun i x n hi _=>⟨n,(bz i) ▸ hi⟩,fun i bx hi=>by
   by_cases e:i=b
   ·subst e;rw [hb] at hi;cases hi;exact .inr ea
   ·exact kq hi (List.getElem?_set_ne (Ne.symm e)) (bz i)⟩
  have aJ:aC E.G c':=h3.next aV (fun i x n hi=>by
    have:=h3.bk i x n ((bz i) ▸ hi);refine ⟨this.1,?_⟩;show i<(c.heap.set b .gone).length;rw [List.length_set]; exact this.2) (fun i j x n m hi hj=>h3.inj i j x n m ((bz i) ▸ hi) ((bz j) ▸ hj)) (fun i bx hi=>by
   by_cases e:i=b
   ·subst e;rw [ea] at hi;cases hi;right;show c'.own i=none;simp [c']
   ·have:c'.heap[i]? = c.heap[i]? := List.getElem?_set_ne (Ne.symm e);rw [this] at hi
    exact .inl ⟨hi,bz i,fun _ _ _=>rfl⟩)
  unfold AW at H;refine H c0 c' t dD h0 h1 rfl aJ (hr.step aV) (bE.step h3 aV) (Cg (aV.vs h4) fun v hv=>?_) (aV.cr h5) cs;have eA:=h4.2 d _ v hd hv;rcases kz hb eA with ⟨blk,cap,r1,rfl⟩ | ⟨-,rfl,-⟩
  ·rw [q2] at r1; cases r1
  ·exact .d _ _ (.raw _ rfl)
 ·have H:=(H blk cap).to;unfold AW at H;have gu:=GU hr q2 (by omega);have aJ:=h3.cO q2;refine H c0 (c.cO b blk) t dD h0 h1 rfl aJ (hr.cO q2 (by omega)) ⟨⟨fun r Cj=>?_,?_⟩,fun g hg=>(List.mem_cons.1 hg).elim (fun e=>by subst e; trivial) (bE.flat g)⟩ (Cg ⟨h4.1,fun i x v hx hv=>rA q2 (h4.2 i x v hx hv)⟩ fun v hv=>?_) (mS (fun _ _=>rA q2) h5) cs
  ·rcases List.mem_cons.1 Cj with rfl | Cj
   ·show mT c0.w.heap.size (c.cO b blk) ⟨blk,cap,ts,l⟩
    exact ⟨Or.inr rfl,gu,q0,q1,vs,q3,q4,q5,q6,fun i j e x he hx=>by
     obtain ⟨v,k1,k2,k3⟩:=q7 i j e x he hx
     exact ⟨v,k1,k2,wm q2 k3⟩⟩
   ·exact (bE.all.cO q2).each r Cj
  ·rw [List.cons_append,List.flatMap_cons];refine List.nodup_append.2 ⟨by simp [bc.ca],bE.all.nodup,fun x hx y hy e=>?_⟩;simp [bc.ca] at hx;subst hx; subst e;exact GV bE.all h3 q2 hy
  ·have eA:=h4.2 d _ v hd hv;rcases kz hb eA with ⟨ib,gR,r1,rfl⟩ | ⟨rfl,rfl,r1⟩
   ·rw [q2] at r1; cases r1;exact .d _ _ (.raw _ rfl)
   ·rw [q2] at r1; cases r1
end
end Go.aw
end
section
namespace Go.aw
open Go Go.RowKit
def Cx.cw (c:Cx) (o:Obj):Cx:=⟨c.own,c.heap,fun b=>c.ax b∨b=c.w.heap.size,c.w.alloc o⟩
section
variable {G:List (Nat × DV)} {c:Cx} {o:Obj}
theorem GW (b:Nat) (hb:b<c.w.heap.size) (hn:¬ c.bad b):¬ (c.cw o).bad b∧(c.cw o).w.heap[b]? = c.w.heap[b]? := by
 refine ⟨?_,Below.heap_alloc c.w o b hb⟩;rintro ((h | h) | ⟨i,n,h⟩)
 ·exact hn (.inl h)
 ·omega
 ·exact hn (.inr ⟨i,n,h⟩)
theorem rC {x:AV} {v:Value} (hv:VR c x v):VR (c.cw o) x v:=ql GW (fun _ _ hi=>kq hi rfl rfl) hv
theorem yM {x:DV} {v:Value} (hv:VD c.bad c.w x v):VD (c.cw o).bad (c.cw o).w x v:=hv.mono GW
theorem aC.cw (ho:aC G c):aC G (c.cw o) where
 bG:=fun b hb=>by
  have hs:(c.cw o).w.heap.size=c.w.heap.size+1:=by simp [Cx.cw]
  rcases hb with hb | hb
  ·have:=ho.bG b hb; omega
  ·omega
 bk:=fun i b n hi=>by
  have hs:(c.cw o).w.heap.size=c.w.heap.size+1:=by simp [Cx.cw]
  have:=ho.bk i b n hi;exact ⟨by omega,this.2⟩
 inj:=ho.inj
 sep:=fun i b n hi hb=>hb.elim (ho.sep i b n hi) (fun e=>by have:=(ho.bk i b n hi).1; omega)
 box:=fun i bx hx=>(ho.box i bx hx).gen (fun _ _=>rC) (fun _ _=>yM) rfl (fun b n hn=>Below.heap_alloc c.w o b (ho.bk i b n hn).1)
 eJ:=fun g e hg=>rC (ho.eJ g e hg)
end
open Go.ChangeMaps (setBlock)
section
variable {G:List (Nat × DV)} {c:Cx} {r:Nat} {w':World}
structure Touch (c:Cx) (r:Nat) (w':World):Prop where
 ax:c.ax r
 os:w'.os=c.w.os
 tape:w'.tape=c.w.tape
 output:w'.output=c.w.output
 size:w'.heap.size=c.w.heap.size
 other:∀ b,b≠r→w'.heap[b]? = c.w.heap[b]?
theorem Touch.uz (h:Touch c r w') (b:Nat) (_:b<c.w.heap.size) (hn:¬ c.bad b):¬ (c.dL w').bad b∧(c.dL w').w.heap[b]? = c.w.heap[b]? :=
 ⟨hn,h.other b (fun e=>by subst e; exact hn (.inl h.ax))⟩
theorem Touch.vr (h:Touch c r w') {x:AV} {v:Value} (hv:VR c x v):VR (c.dL w') x v:=ql h.uz (fun _ _ hi=>kq hi rfl rfl) hv
theorem Touch.vd (h:Touch c r w') {x:DV} {v:Value} (hv:VD c.bad c.w x v):VD (c.dL w').bad (c.dL w').w x v:=hv.mono h.uz
theorem Touch.aJ (h:Touch c r w') (ho:aC G c):aC G (c.dL w') where
 bG:=fun b hb=>by show b<w'.heap.size; rw [h.size]; exact ho.bG b hb
 bk:=fun i b n hi=>by show b<w'.heap.size∧_; rw [h.size]; exact ho.bk i b n hi
 inj:=ho.inj
 sep:=ho.sep
 box:=fun i bx hi=>(ho.box i bx hi).gen (fun _ _=>h.vr) (fun _ _=>h.vd) rfl (fun b n hn=>h.other b (fun e=>by subst e; exact ho.sep i _ n hn h.ax))
 eJ:=fun g e hg=>h.vr (ho.eJ g e hg)
theorem Touch.rel (h:Touch c r w') {c0:Cx} (hr:dY c0 c) (hl:c0.w.heap.size≤r):dY c0 (c.dL w') where
 lim:=hr.lim
 lq:=hr.lq
 ax:=hr.ax
 l4:=hr.l4
 os:=h.os.trans hr.os
 tape:=h.tape.trans hr.tape
 output:=h.output.trans hr.output
 size:=by show _≤w'.heap.size; rw [h.size]; exact hr.size
 keep:=fun b hb hn=>(h.other b (by omega)).trans (hr.keep b hb hn)
 da:=hr.da
 boxes:=fun i bx hi=>tI (fun _ hx=>hx) (fun _ _=>rfl) (hr.boxes i bx hi)
theorem Touch.rows (h:Touch c r w') {lim:Nat} {rows:List bc} (hr:ff lim c rows) (hn:r ∉ rows.flatMap bc.ca):ff lim (c.dL w') rows :=
 ⟨fun g hg=>(hr.each g hg).gen (fun b hb=>⟨(hr.each g hg).ax b hb,h.other b (fun e=>hn (List.mem_flatMap.2 ⟨g,hg,e ▸ hb⟩))⟩) (fun _ _=>h.vd) (fun _ _=>h.vr),hr.nodup⟩
variable {o:Obj}
theorem dY.cw {c0:Cx} (hr:dY c0 c):dY c0 (c.cw o) where
 lim:=hr.lim
 lq:=hr.lq
 ax:=fun b h => .inl (hr.ax b h)
 l4:=fun b h=>h.elim (hr.l4 b) fun e => .inr (by rw [e]; exact hr.size)
 os:=hr.os
 tape:=hr.tape
 output:=hr.output
 size:=by have:=hr.size; show _≤(c.w.alloc o).heap.size; simp; omega
 keep:=fun b hb hn=>by
  show (c.w.alloc o).heap[b]? = _;rw [Below.heap_alloc c.w o b (by have:=hr.size; omega)];exact hr.keep b hb hn
 da:=hr.da
 boxes:=fun i bx hi=>tI (fun _ hx=>hx) (fun _ _=>rfl) (hr.boxes i bx hi)
theorem ff.cw {lim:Nat} {rows:List bc} (hr:ff lim c rows) (ho:aC G c):ff lim (c.cw o) rows :=
 ⟨fun g hg=>(hr.each g hg).gen (fun b hb=>⟨.inl ((hr.each g hg).ax b hb),Below.heap_alloc c.w o b (ho.bG _ ((hr.each g hg).ax b hb))⟩) (fun _ _=>yM) (fun _ _=>rC),hr.nodup⟩
end
theorem Ck {en:Array MapEntry} {j:Nat} (h:j<en.size):((en[j]?).map (·.born)).getD 0=en[j].born:=by simp [h]
theorem born_inj {en:Array MapEntry} (hn:(en.toList.map (·.born)).Nodup) {i j:Nat} (hi:i<en.size) (hj:j<en.size) (h:en[i].born=en[j].born):i=j:=by
 have h1:(en.toList.map (·.born))[i]? = some en[i].born:=by simp [hi]
 have h2:(en.toList.map (·.born))[j]? = some en[i].born:=by simp [hj,h]
 exact Fw hn h1 h2
theorem GX {en:Array MapEntry} (hn:(en.toList.map (·.born)).Nodup) {seen:List Nat} (ah:∀ j∈seen,j<en.size) {j:Nat} (hj:j<en.size) :
  en[j]∈(leftOf en ((seen.map fun j=>((en[j]?).map (·.born)).getD 0).toArray)).toList↔j ∉ seen:=by
 simp only [leftOf,Array.toList_filter,List.mem_filter,List.contains_toArray,Bool.not_eq_true',List.contains_eq_mem,decide_eq_false_iff_not,List.mem_map,not_exists,not_and];constructor
 ·rintro ⟨-,h⟩ hm;exact h j hm (Ck hj)
 ·intro h;refine ⟨by simp,fun k hk e=>?_⟩;rw [Ck (ah k hk)] at e;exact h (born_inj hn (ah k hk) hj e ▸ hk)
section
variable {E:Env} {af:FuncId} {R:cu} {s:List AV} {h:List ab} {lits:List Nat} {ops:Array Oper} {o:Oper} {l:List Oper} {k:List aH}
theorem I.range (hE:E.OK) {t kt e b:Nat} {m:Operand} {es:List (DV × DV)} {ti:bh} (hg:o.guard=none) (bZ:o.op = .range t m) (bJ:E.T[t]? = some ti) (hk:ti.k = .map kt e) (hm:aQ E.G s m (.map b)) (hb:h[b]? = some (.map es)) (Ci:R.n≤b)
  (H:∀ i:Iter,i.seen=[]→i.es=es→i.since≤i.ck→I E af ⟨R.n,R.Q,.iter i::R.rows,R.fx⟩ lits (.a8 ops l::k) (bX s o.dst (.d (.raw (.pointer (some ⟨i.r,0,none⟩))))) (h.set b .gone)):I E af R lits (.a8 ops (o::l)::k) s h:=by
 refine .of ?_;unfold AW;intro c0 c t' dD h0 h1 h2 h3 hr bE h4 h5 cs;subst h2;obtain ⟨i,hi,eB,aJ⟩:=ku (h1 _ (List.mem_cons_self ..));obtain ⟨kB,d,g1,g2,g3,-⟩:=cg (hE.types t ti bJ);have hd:d = .map kt e:=by rw [hk] at g3; cases d <;> first | (cases g3; rfl) | cases g3
 subst hd;have Cl:=hm c ⟨t',marks R.fx.aA⟩ h3 h4;obtain ⟨blk,cap,en,ck,q1,q2,q3,qe,q4⟩:=sW h3 hb Cl;have dx:=h3.cO q2;have NR:=hr.cO q2 (by omega);have yN:(c.cO b blk).w=c.w:=rfl
 let it:Obj := .mapIter (some blk) ck #[] ck
 have wo:aC E.G ((c.cO b blk).cw it):=dx.cw;have Cm:dY c0 ((c.cO b blk).cw it):=NR.cw;have hblk:blk<c.w.heap.size:=(h3.bk b blk cap q2).1
 let gi:Iter:=⟨blk,c.w.heap.size,en,ck,ck,[],es⟩
 have Cn:jS c0.w.heap.size ((c.cO b blk).cw it) gi:=by
  refine ⟨.inl (.inr rfl),.inr rfl,hr.size,?_,⟨ck,Nat.le_refl _,fun _=>rfl,?_⟩,qe.born,qe,fun j kk x mm h1 h2=>?_,fun j hj=>by simp [gi] at hj⟩
  ·show (c.w.alloc it).heap[blk]? = _;rw [Below.heap_alloc c.w it blk hblk]; exact q3
  ·show (c.w.alloc it).heap[c.w.heap.size]? = _;exact heap_alloc_new _ _
  ·have:=q4.2 j kk x mm h1 (by simpa using h2);exact ⟨yM (wm q2 this.1),yM (wm q2 this.2)⟩
 have rB:dw c0.w.heap.size ((c.cO b blk).cw it) (.iter gi::R.rows) R.fx.loops:=by
  have hold:=(bE.all.cO (b:=b) (blk:=blk) q2).cw (o:=it) dx;refine ⟨⟨fun g hg=>?_,?_⟩,fun g hg=>(List.mem_cons.1 hg).elim (fun e=>by subst e; trivial) (bE.flat g)⟩
  ·rcases List.mem_cons.1 hg with rfl | hg
   ·exact Cn
   ·exact hold.each g hg
  ·rw [List.cons_append,List.flatMap_cons];refine List.nodup_append.2 ⟨by simp [bc.ca,gi]; omega,bE.all.nodup,fun x hx y hy e=>?_⟩;subst e;simp [bc.ca,gi] at hx;rcases hx with rfl | rfl
   ·exact GV bE.all h3 q2 hy
   ·obtain ⟨g,hg,hx⟩:=List.mem_flatMap.1 hy;have:=h3.bG _ ((bE.all.each g hg).ax _ hx);omega
 have cn:(execOp (⟨t',marks R.fx.aA⟩:Act).eval o).run E.P c.w = .ok (.value (.pointer (some ⟨c.w.heap.size,0,none⟩))) (c.w.alloc it):=by
  simp only [execOp,bZ,q1,Instr.range,newObj,Sem.run_bind,run_underlying g2,Result.andThen_ok,oc q3,Sem.run_pure,Sem.run];rfl
 have eu:VS ((c.cO b blk).cw it) (bX s o.dst (.d (.raw (.pointer (some ⟨c.w.heap.size,0,none⟩))))) ((⟨t',marks R.fx.aA⟩:Act).put o.dst (.pointer (some ⟨c.w.heap.size,0,none⟩))).tmps :=
  VS.bX (a:=⟨t',marks R.fx.aA⟩) ⟨h4.1,fun i x v hx hv=>rC (rA q2 (h4.2 i x v hx hv))⟩ o.dst (.d _ _ (.raw _ rfl))
 have H:=(H gi rfl rfl (Nat.le_refl _)).to;unfold AW at H;obtain ⟨c2,fr,rr,u,e1,e2,e3,e4,e5,e6⟩:=H c0 _ _ dD h0 (fm aJ (dE h1)) rfl wo Cm rB eu (mS (fun _ _ hv=>rC (rA q2 hv)) h5) cs;refine ⟨c2,fr,rr,u,e1,e2,e3,e4,.head ?_ e5,e6⟩;simp only [bP.bA,List.map_cons,eB];rw [sJ hi (fA hg c t' h4) (.inl cn),put_defers];rfl
theorem I.next {x:Operand} {it:Iter} {g1 g2:List bc} (hg:o.guard=none) (bZ:o.op = .next x false) (pO:it.since≤it.ck) (rB:R.rows=g1 ++ .iter it::g2) (hx:aQ E.G s x (.d (.raw (.pointer (some ⟨it.r,0,none⟩)))))
  (H0:(∀ j,j<it.es.length→j∈it.seen)→I E af R lits (.a8 ops l::k) (bX s o.dst (.d (.az [.bool false]))) h)
  (H1:∀ j kk y,it.es[j]? = some (kk,y)→j ∉ it.seen→I E af ⟨R.n,R.Q,g1 ++ .iter { it with seen:=it.seen++[j] }::g2,R.fx⟩ lits (.a8 ops l::k) (bX s o.dst (.d (.az [.bool true,kk,y]))) h):I E af R lits (.a8 ops (o::l)::k) s h:=by
 refine .of ?_;unfold AW;intro c0 c t' dD h0 h1 h2 h3 hr bE h4 h5 cs;subst h2;obtain ⟨i,hi,eB,aJ⟩:=ku (h1 _ (List.mem_cons_self ..));have cC:(⟨t',marks R.fx.aA⟩:Act).eval x = .pointer (some ⟨it.r,0,none⟩):=by
  have:=hx c ⟨t',marks R.fx.aA⟩ h3 h4;generalize (⟨t',marks R.fx.aA⟩:Act).eval x=u at this;cases this with
  |d _ _ hq=>cases hq; rfl
 have yO:=bE;rw [rB] at yO;obtain ⟨r1,r2,r3⟩:=yO.tK;have r2:jS c0.w.heap.size c it:=r2;obtain ⟨z0,z1,-,z2⟩:=r2.iter;have bK:it.en.size=it.es.length:=r2.dv.size;rcases run_next_at (P:=E.P) c.w o.type it.r it.bm it.since z0 _ it.en it.ck z2 r2.map r2.old z1 with ⟨n1,n2⟩ | ⟨dv,n1,w1,n2,n3⟩
 ·have H:=(H0 fun j hj=>by
   apply Classical.byContradiction;intro hm;have ik:j<it.en.size:=by omega
   have:=(GX r2.dv.nodup r2.lt ik).2 hm;have hl:(leftOf it.en ((it.seen.map fun j=>((it.en[j]?).map (·.born)).getD 0).toArray)).toList.length=0:=by simpa using n1
   rw [List.eq_nil_of_length_eq_zero hl] at this
   cases this).to
  unfold AW at H;have cn:(execOp (⟨t',marks R.fx.aA⟩:Act).eval o).run E.P c.w = .ok (.value (.tuple #[.bool false])) c.w:=by
   simp only [execOp,bZ,cC,Sem.run_bind,n2,Result.andThen_ok,Sem.run_pure]
  have eu:VS c (bX s o.dst (.d (.az [.bool false]))) ((⟨t',marks R.fx.aA⟩:Act).put o.dst (.tuple #[.bool false])).tmps :=
   VS.bX (a:=⟨t',marks R.fx.aA⟩) h4 o.dst (.d _ _ (.az _ _ rfl fun j y v hy hv=>by
    match j with
    | 0=>simp at hy hv; subst hy; subst hv; exact .bool _
    |j+1=>simp at hy))
  obtain ⟨c2,fr,rr,u,e1,e2,e3,e4,e5,e6⟩:=H c0 c _ dD h0 (fm aJ (dE h1)) rfl h3 hr bE eu h5 cs;refine ⟨c2,fr,rr,u,e1,e2,e3,e4,.head ?_ e5,e6⟩;simp only [bP.bA,List.map_cons,eB];rw [sJ hi (fA hg c t' h4) (.inl cn),put_defers];rfl
 ·have iX:dv∈it.en.toList:=by
   simp only [leftOf,Array.toList_filter,List.mem_filter] at n1;exact n1.1
  obtain ⟨j,hj,rfl⟩:=List.getElem_of_mem iX;have ik:j<it.en.size:=by simpa using hj
  have eN:it.en.toList[j]=it.en[j]:=by simp
  rw [eN] at n1 n3;have iS:=(GX r2.dv.nodup r2.lt ik).1 n1;obtain ⟨⟨kk,y⟩,GY⟩:∃ p,it.es[j]? = some p:=⟨it.es[j]'(by omega),by rw [List.getElem?_eq_getElem]⟩;have H:=(H1 j kk y GY iS).to;unfold AW at H;have py:=h3.bG _ r2.uP;have yN:w1.os=c.w.os∧w1.tape=c.w.tape∧w1.output=c.w.output∧w1.heap=c.w.heap:=by rcases n2 with rfl | rfl <;> exact ⟨rfl,rfl,rfl,rfl⟩
  obtain ⟨a1,a2,a3,a4⟩:=yN;generalize qC:setBlock w1 it.r (.mapIter (some it.bm) it.since (((it.seen.map fun j=>((it.en[j]?).map (·.born)).getD 0).toArray).push it.en[j].born) it.ck)=w' at n3;have nn:Touch c it.r w':=by
   subst qC;refine ⟨r2.uP,a1,a2,a3,by simp [setBlock,a4],fun b hb=>?_⟩;simp only [setBlock,a4];rw [Array.getElem?_setIfInBounds_ne (Ne.symm hb)]
  have NS:it.r ∉ ((g1++g2)++R.fx.loops).flatMap bc.ca:=r3 _ (by simp [bc.ca]);have eS:it.bm≠it.r:=by
   have:=yO.all.nodup;rw [List.append_assoc,List.cons_append,List.flatMap_append,List.nodup_append] at this;have h6:=this.2.1;rw [List.flatMap_cons,List.nodup_append] at h6;have h7:=h6.1;simp [bc.ca] at h7;exact h7
  have Cn:jS c0.w.heap.size (c.dL w') { it with seen:=it.seen++[j] }:=by
   refine ⟨r2.AE,r2.uP,r2.EG,(nn.other _ eS).trans r2.map,⟨it.ck,?_,fun _=>rfl,?_⟩,r2.old,r2.dv,fun p kk x mm h1 h2=>?_,fun p hp=>?_⟩
   ·exact pO
   ·show w'.heap[it.r]? = _;subst qC;simp only [setBlock,a4];rw [Array.getElem?_setIfInBounds_self_of_lt py];simp [Ck ik]
   ·have:=r2.val p kk x mm h1 h2;exact ⟨nn.vd this.1,nn.vd this.2⟩
   ·rcases List.mem_append.1 hp with hp | hp
    ·exact r2.lt p hp
    ·simp at hp; subst hp; exact ik
  have NT:dw c0.w.heap.size (c.dL w') (g1 ++ .iter { it with seen:=it.seen++[j] }::g2) R.fx.loops:=by
   have hold:=nn.rows r1.all NS;refine ⟨⟨fun g hg=>?_,?_⟩,fun g hg=>?_⟩
   ·rcases List.mem_append.1 hg with hg | hg
    ·rcases List.mem_append.1 hg with hg | hg
     ·exact hold.each g (List.mem_append_left _ (List.mem_append_left _ hg))
     ·rcases List.mem_cons.1 hg with rfl | hg
      ·exact Cn
      ·exact hold.each g (List.mem_append_left _ (List.mem_append_right _ hg))
    ·exact hold.each g (List.mem_append_right _ hg)
   ·have:=yO.all.nodup;rw [List.append_assoc,List.cons_append,List.flatMap_append,List.flatMap_cons] at this ⊢;exact this
   ·rcases List.mem_append.1 hg with hg | hg
    ·exact r1.flat g (List.mem_append_left _ hg)
    ·rcases List.mem_cons.1 hg with rfl | hg
     ·trivial
     ·exact r1.flat g (List.mem_append_right _ hg)
  have bH:=r2.val j kk y it.en[j] GY (by simp [ik]);have cn:(execOp (⟨t',marks R.fx.aA⟩:Act).eval o).run E.P c.w = .ok (.value (.tuple #[.bool true,it.en[j].key,it.en[j].val])) w':=by
   simp only [execOp,bZ,cC,Sem.run_bind,n3,Result.andThen_ok,Sem.run_pure]
  have eu:VS (c.dL w') (bX s o.dst (.d (.az [.bool true,kk,y]))) ((⟨t',marks R.fx.aA⟩:Act).put o.dst (.tuple #[.bool true,it.en[j].key,it.en[j].val])).tmps :=
   VS.bX (a:=⟨t',marks R.fx.aA⟩) ⟨h4.1,fun i x v hx hv=>nn.vr (h4.2 i x v hx hv)⟩ o.dst (.d _ _ (.az _ _ rfl fun p z v hz hv=>by
    match p with
    | 0=>simp at hz hv; subst hz; subst hv; exact .bool _
    | 1=>simp at hz hv; subst hz; subst hv; exact nn.vd bH.1
    | 2=>simp at hz hv; subst hz; subst hv; exact nn.vd bH.2
    |p+3=>simp at hz))
  obtain ⟨c2,fr,rr,u,e1,e2,e3,e4,e5,e6⟩:=H c0 (c.dL w') _ dD h0 (fm aJ (dE h1)) rfl (nn.aJ h3) (nn.rel hr r2.EG) NT eu (mS (fun _ _=>nn.vr) h5) cs;refine ⟨c2,fr,rr,u,e1,e2,e3,e4,.head ?_ e5,e6⟩;simp only [bP.bA,List.map_cons,eB];rw [sJ hi (fA hg c t' h4) (.inl cn),put_defers];rfl
end
end Go.aw
end
section
namespace Go.aw
open Go Go.RowKit
section
variable {E:Env} {af:FuncId} {R:cu} {td:List aH} {s:List AV} {h:List ab}
theorem I.np {lits:List Nat} (b off:Nat) (ts:Nat × Nat) (gr:0<ts.2) {cs:List AV} (hb:h[b]? = some (.cells cs)) (hd:cs[off]? = some (.d .aD))
  (H:I E af R lits td s (h.set b (.cells (cs.set off (.own h.length 0)))++[.arr 0 ts []])):I E af R lits td s h:=by
 replace H:=H.to;refine .of (.iQ (fun c t dD h1 h2 h3 h4 h5=>?_) H);subst h2;have eo:=aP hb
 let c':Cx:={ c with heap:=c.heap.set b (.cells (cs.set off (.own c.heap.length 0)))++[.arr 0 ts []] }
 have cj:c.own c.heap.length=none:=by
  cases ho:c.own c.heap.length with
  |none=>rfl
  |some p=>have:=(h3.bk _ p.1 p.2 ho).2; omega
 have gu:c'.heap[c.heap.length]? = some (.arr 0 ts []):=by show (c.heap.set b _++_)[_]? = _; rw [List.getElem?_append_right (by simp)]; simp
 have GZ:c'.heap[b]? = some (.cells (cs.set off (.own c.heap.length 0))):=by
  show (c.heap.set b _++_)[b]? = _;rw [List.getElem?_append_left (by simp; omega),List.getElem?_set_self eo]
 have wq:∀ i,i≠b→i<c.heap.length→c'.heap[i]? = c.heap[i]? := fun i hi hl=>by
  show (c.heap.set b _++_)[i]? = _;rw [List.getElem?_append_left (by simp; omega),List.getElem?_set_ne (Ne.symm hi)]
 have aV:Step c c':=⟨rfl,h3.bG,rfl,rfl,rfl,Nat.le_refl _,fun _ _ _=>rfl,fun i x n hi _=>⟨n,hi⟩,fun i bx hi=>by
  by_cases bq:i=b
  ·subst bq;rw [hb] at hi;cases hi;exact .inl ⟨_,GZ,rfl,by simp⟩
  ·exact kq hi (wq i bq (aP hi)) rfl⟩
 have aJ:aC E.G c':=h3.next aV (fun i x n hi=>by
   have:=h3.bk i x n hi;refine ⟨this.1,?_⟩;show i<(c.heap.set b _++_).length;simp; omega) h3.inj (fun i bx hi=>by
  by_cases fy:i=c.heap.length
  ·subst fy;rw [gu] at hi;cases hi;exact .inr ⟨gr,fun i e he=>by simp at he,.inl ⟨cj,rfl⟩⟩
  ·have ah:i<c.heap.length:=by
    have h1:=aP hi;have h2:c'.heap.length=c.heap.length+1:=by show (c.heap.set b _++_).length=_; simp
    omega
   by_cases bq:i=b
   ·subst bq;rw [GZ] at hi;cases hi;right;obtain ⟨blk,cap,vs,ty,g1,g2,g3,g4⟩:=h3.box i _ hb;refine ⟨blk,cap,vs,ty,g1,g2,by simpa using g3,fun j x v hx hv=>?_⟩;by_cases hj:j=off
    ·subst hj;rw [List.getElem?_set_self (aP hd)] at hx;cases hx;have:=g4 j _ v hd hv;cases this with
     |d _ _ hq=>cases hq; exact .fU _ _ ts gu cj
    ·rw [List.getElem?_set_ne (Ne.symm hj)] at hx;exact aV.vr (g4 j x v hx hv)
   ·rw [wq i bq ah] at hi
    exact .inl ⟨hi,rfl,fun _ _ _=>rfl⟩)
 exact ⟨c',t,dD,h1,rfl,aJ,aV.vs h4,aV.cr h5,aV,fun _ => .refl _ _⟩
end
end Go.aw
end
