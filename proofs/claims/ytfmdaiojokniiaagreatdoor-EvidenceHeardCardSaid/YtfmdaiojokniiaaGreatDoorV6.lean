/- Several texts of mine, one behind the other. Conditions: as each says. -/
import Derived.Test.YtfmdaiojokniiaaGreatDoorV3
import Derived.Maps.RangeRun
set_option linter.unusedVariables false
set_option linter.unusedSimpArgs false
section
namespace Go.aw
open Go Go.RowKit
open Go.ChangeMaps (setBlock)
theorem uF {c0 c c':Cx} {i:Nat} (hh:∀ x,c.heap[i]? = some x→c'.heap[i]? = some x) (ho:∀ x,c.heap[i]? = some x→c'.own i=c.own i) {bx:ae} (h:vR c0 c i bx):vR c0 c' i bx:=by
 cases bx with
 |cells cs =>
  rcases h with ⟨cs',h1,h2,h3⟩ | h1
  ·exact .inl ⟨cs',hh _ h1,(ho _ h1).trans h2,h3⟩
  ·exact .inr (hh _ h1)
 |arr g sz l =>
  rcases h with ⟨g',l',h1,h2⟩ | h1
  ·refine .inl ⟨g',l',hh _ h1,?_⟩;rcases h2 with h2 | ⟨h2,h3,h4⟩
   ·exact .inl h2
   ·exact .inr ⟨h2,h3,(ho _ h1).trans h4⟩
  ·exact .inr (hh _ h1)
 |map es =>
  rcases h with ⟨db,h1,h2⟩ | h1
  ·exact .inl ⟨db,hh _ h1,(ho _ h1).trans h2⟩
  ·exact .inr (hh _ h1)
 |gone=>exact hh _ h
 |hole=>obtain ⟨b,h⟩:=h; exact ⟨b,hh _ h⟩
section
variable {G:List (Nat × DV)} {c:Cx} {bx:ae} {blk cap:Nat}
def Cx.c9 (c:Cx) (bx:ae) (blk cap:Nat):Cx:=⟨fun i=>if i=c.heap.length then some (blk,cap) else c.own i,c.heap++[bx],fun b=>c.ax b∧b≠blk,c.w⟩
theorem O7 (ho:aK G c) (hb:c.ax blk) (b:Nat):(c.c9 bx blk cap).bad b↔c.bad b:=by
 constructor
 ·rintro (h | ⟨i,n,h⟩)
  ·exact .inl h.1
  ·simp only [Cx.c9] at h;split at h
   ·cases h; exact .inl hb
   ·exact .inr ⟨i,n,h⟩
 ·rintro (h | ⟨i,n,h⟩)
  ·by_cases e:b=blk
   ·subst e; exact .inr ⟨c.heap.length,cap,by simp [Cx.c9]⟩
   ·exact .inl ⟨h,e⟩
  ·refine .inr ⟨i,n,?_⟩;have:=(ho.br i b n h).2;simp only [Cx.c9];rw [if_neg (by omega)];exact h
theorem HQ (ho:aK G c) (hb:c.ax blk) (b:Nat) (_:b<c.w.heap.size) (hn:¬ c.bad b):¬ (c.c9 bx blk cap).bad b∧(c.c9 bx blk cap).w.heap[b]? = c.w.heap[b]? := ⟨fun h=>hn ((O7 ho hb b).1 h),rfl⟩
theorem HR {i:Nat} {b:ae} (hi:c.heap[i]? = some b):(c.c9 bx blk cap).heap[i]? = c.heap[i]? := List.getElem?_append_left (aR hi)
theorem C8 {i:Nat} {b:ae} (hi:c.heap[i]? = some b):(c.c9 bx blk cap).own i=c.own i:=by
 have:=aR hi;simp only [Cx.c9];rw [if_neg (by omega)]
theorem xm (ho:aK G c) (hb:c.ax blk) {x:AV} {v:Value} (hv:VR c x v):VR (c.c9 bx blk cap) x v:=rm (HQ ho hb) (fun _ _ hi=>lb hi (HR hi) (C8 hi)) hv
theorem C9 (ho:aK G c) (hb:c.ax blk) {x:DV} {v:Value} (hv:VD c.bad c.w x v):VD (c.c9 bx blk cap).bad (c.c9 bx blk cap).w x v:=hv.mono (HQ ho hb)
theorem aK.c9 (ho:aK G c) (hb:c.ax blk) (gN:iJ (c.c9 bx blk cap) c.heap.length bx):aK G (c.c9 bx blk cap) where
 bN:=fun b h=>ho.bN b h.1
 br:=fun i b n hi=>by
  have hl:(c.c9 bx blk cap).heap.length=c.heap.length+1:=by simp [Cx.c9]
  simp only [Cx.c9] at hi;split at hi
  ·cases hi; exact ⟨ho.bN _ hb,by omega⟩
  ·have:=ho.br i b n hi; exact ⟨this.1,by omega⟩
 inj:=fun i j b n m hi hj=>by
  simp only [Cx.c9] at hi hj;split at hi <;> split at hj
  ·omega
  ·cases hi; exact absurd hb (ho.sep j _ m hj)
  ·cases hj; exact absurd hb (ho.sep i _ n hi)
  ·exact ho.inj i j b n m hi hj
 sep:=fun i b n hi h=>by
  simp only [Cx.c9] at hi;split at hi
  ·cases hi; exact h.2 rfl
  ·exact ho.sep i b n hi h.1
 box:=fun i b hx=>by
  rcases Nat.lt_trichotomy i c.heap.length with hi | rfl | hi
  ·have fa:c.heap[i]? = some b:=by
    have:(c.c9 bx blk cap).heap[i]? = c.heap[i]? := List.getElem?_append_left hi
    rwa [this] at hx
   exact (ho.box i b fa).gen (fun _ _=>xm ho hb) (fun _ _=>C9 ho hb) (C8 fa) (fun _ _ _=>rfl)
  ·have:b=bx:=by simp [Cx.c9] at hx; exact hx.symm
   subst this;exact gN
  ·rw [List.getElem?_eq_none (by simp [Cx.c9]; omega)] at hx;cases hx
 eZ:=fun g e hg=>xm ho hb (ho.eZ g e hg)
theorem ec.c9 {c0:Cx} (hr:ec c0 c) (hb:c0.w.heap.size≤blk):ec c0 (c.c9 bx blk cap) where
 lim:=hr.lim
 mg:=hr.mg
 ax:=fun b h=>⟨hr.ax b h,fun e=>by subst e; have:=hr.lim _ h; omega⟩
 mY:=fun b h=>hr.mY b h.1
 os:=hr.os
 tape:=hr.tape
 output:=hr.output
 size:=hr.size
 keep:=hr.keep
 dh:=fun i b n hi aj=>by
  simp only [Cx.c9] at hi;split at hi
  ·cases hi; omega
  ·exact hr.dh i b n hi aj
 boxes:=fun i bx hi=>uF (fun x hx=>(HR hx).trans hx) (fun x hx=>C8 hx) (hr.boxes i bx hi)
theorem fz.c9 {lim:Nat} {rows:List bk} (h:fz lim c rows) (ho:aK G c) (hb:c.ax blk) (hn:blk ∉ rows.flatMap bk.cd):fz lim (c.c9 bx blk cap) rows :=
 ⟨fun r hr=>(h.each r hr).gen (fun b HS=>⟨⟨(h.each r hr).ax b HS,fun e=>hn (List.mem_flatMap.2 ⟨r,hr,e ▸ HS⟩)⟩,rfl⟩) (fun _ _=>C9 ho hb) (fun _ _=>xm ho hb),h.nodup⟩
def Cx.cT (c:Cx) (b blk:Nat):Cx:=⟨fun i=>if i=b then none else c.own i,c.heap.set b .gone,fun x=>c.ax x∨x=blk,c.w⟩
variable {b:Nat}
theorem uG {i:Nat} {p:Nat × Nat} (hi:(c.cT b blk).own i=some p):i≠b∧c.own i=some p:=by
 simp only [Cx.cT] at hi;split at hi
 ·cases hi
 ·rename_i q; exact ⟨q,hi⟩
theorem O8 (hb:c.own b=some (blk,cap)) (x:Nat):(c.cT b blk).bad x↔c.bad x:=by
 constructor
 ·rintro ((h | h) | ⟨i,n,h⟩)
  ·exact .inl h
  ·subst h; exact .inr ⟨b,cap,hb⟩
  ·exact .inr ⟨i,n,(uG h).2⟩
 ·rintro (h | ⟨i,n,h⟩)
  ·exact .inl (.inl h)
  ·by_cases e:i=b
   ·subst e; rw [hb] at h; cases h; exact .inl (.inr rfl)
   ·exact .inr ⟨i,n,by simp only [Cx.cT,if_neg e]; exact h⟩
theorem HT (hb:c.own b=some (blk,cap)) (x:Nat) (_:x<c.w.heap.size) (hn:¬ c.bad x):¬ (c.cT b blk).bad x∧(c.cT b blk).w.heap[x]? = c.w.heap[x]? := ⟨fun h=>hn ((O8 hb x).1 h),rfl⟩
theorem O9 {i:Nat} {y:ae} (hi:c.heap[i]? = some y):tj c (c.cT b blk) i y:=by
 by_cases e:i=b
 ·subst e;have hg:(c.cT i blk).heap[i]? = some .gone:=List.getElem?_set_self (aR hi);cases y with
  |cells cs=>exact .inr hg
  |arr g sz l=>exact .inr hg
  |map es=>exact .inr hg
  |gone=>exact hg
  |hole=>exact ⟨_,hg⟩
 ·exact lb hi (List.getElem?_set_ne (Ne.symm e)) (by simp only [Cx.cT,if_neg e])
theorem sA (hb:c.own b=some (blk,cap)) {x:AV} {v:Value} (hv:VR c x v):VR (c.cT b blk) x v:=rm (HT hb) (fun _ _=>O9) hv
theorem xn (hb:c.own b=some (blk,cap)) {x:DV} {v:Value} (hv:VD c.bad c.w x v):VD (c.cT b blk).bad (c.cT b blk).w x v:=hv.mono (HT hb)
theorem aK.cT (ho:aK G c) (hb:c.own b=some (blk,cap)):aK G (c.cT b blk) where
 bN:=fun x h=>h.elim (ho.bN x) fun e=>by subst e; exact (ho.br b _ cap hb).1
 br:=fun i x n hi=>by
  have:=ho.br i x n (uG hi).2;refine ⟨this.1,?_⟩;show i<(c.heap.set b .gone).length;rw [List.length_set]; exact this.2
 inj:=fun i j x n m hi hj=>ho.inj i j x n m (uG hi).2 (uG hj).2
 sep:=fun i x n hi h=>by
  obtain ⟨h1,h2⟩:=uG hi;rcases h with h | h
  ·exact ho.sep i x n h2 h
  ·subst h; exact h1 (ho.inj i b x n cap h2 hb)
 box:=fun i y hx=>by
  by_cases e:i=b
  ·subst e;have aj:i<c.heap.length:=(ho.br i _ cap hb).2;have:(c.cT i blk).heap[i]? = some .gone:=List.getElem?_set_self aj;rw [this] at hx;cases hx;show (c.cT i blk).own i=none;simp [Cx.cT]
  ·have fa:c.heap[i]? = some y:=by
    have:(c.cT b blk).heap[i]? = c.heap[i]? := List.getElem?_set_ne (Ne.symm e)
    rwa [this] at hx
   exact (ho.box i y fa).gen (fun _ _=>sA hb) (fun _ _=>xn hb) (by simp only [Cx.cT,if_neg e]) (fun _ _ _=>rfl)
 eZ:=fun g e hg=>sA hb (ho.eZ g e hg)
theorem HU {c0:Cx} (hr:ec c0 c) (hb:c.own b=some (blk,cap)) (hn:c0.heap.length≤b):c0.w.heap.size≤blk:=by
 rcases Nat.lt_or_ge blk c0.w.heap.size with h | h
 ·obtain ⟨m,hm⟩:=hr.dh b blk cap hb h;have:=hr.mg b _ hm;omega
 ·exact h
theorem ec.cT {c0:Cx} (hr:ec c0 c) (hb:c.own b=some (blk,cap)) (hn:c0.heap.length≤b):ec c0 (c.cT b blk) where
 lim:=hr.lim
 mg:=hr.mg
 ax:=fun x h => .inl (hr.ax x h)
 mY:=fun x h=>h.elim (hr.mY x) fun e => .inr (by subst e; exact HU hr hb hn)
 os:=hr.os
 tape:=hr.tape
 output:=hr.output
 size:=hr.size
 keep:=hr.keep
 dh:=fun i x n hi aj=>hr.dh i x n (uG hi).2 aj
 boxes:=fun i bx hi=>by
  have bz:i≠b:=fun e=>by have:=aR hi; omega
  exact uF (fun x hx=>(List.getElem?_set_ne (Ne.symm bz)).trans hx) (fun x hx=>by simp only [Cx.cT,if_neg bz]) (hr.boxes i bx hi)
theorem fz.cT {lim:Nat} {rows:List bk} (h:fz lim c rows) (hb:c.own b=some (blk,cap)):fz lim (c.cT b blk) rows :=
 ⟨fun r hr=>(h.each r hr).gen (fun x hx=>⟨.inl ((h.each r hr).ax x hx),rfl⟩) (fun _ _=>xn hb) (fun _ _=>sA hb),h.nodup⟩
theorem HV {lim:Nat} {rows:List bk} (h:fz lim c rows) (ho:aK G c) (hb:c.own b=some (blk,cap)):blk ∉ rows.flatMap bk.cd:=fun hm=>by
 obtain ⟨r,hr,hx⟩:=List.mem_flatMap.1 hm;exact ho.sep b blk cap hb ((h.each r hr).ax blk hx)
theorem O' {α:Type} {a b c:List α} (h:(a++b++c).Nodup):(a++c).Nodup∧∀ x∈b,x ∉ a++c:=by
 have hp:(a++b++c).Perm (b++(a++c)):=by
  rw [List.append_assoc,← List.append_assoc b a c];refine (List.Perm.trans ?_ (List.Perm.append_right c List.perm_append_comm));rw [List.append_assoc]
 have h2:=(hp.nodup_iff).1 h;rw [List.nodup_append] at h2;exact ⟨h2.2.1,fun x hx fa=>h2.2.2 x hx x fa rfl⟩
theorem fz.uH {lim:Nat} {g1 g2:List bk} {g:bk} (h:fz lim c (g1++g::g2)):fz lim c (g1++g2)∧gR lim c g∧∀ x∈g.cd,x ∉ (g1++g2).flatMap bk.cd:=by
 have hn:=h.nodup;rw [List.flatMap_append,List.flatMap_cons,← List.append_assoc] at hn;obtain ⟨h1,h2⟩:=O' hn;rw [← List.flatMap_append] at h1 h2;refine ⟨⟨fun r hr=>h.each r ?_,h1⟩,h.each g (by simp),h2⟩;rcases List.mem_append.1 hr with hr | hr
 ·exact List.mem_append_left _ hr
 ·exact List.mem_append_right _ (List.mem_cons_of_mem _ hr)
end
theorem dz.uH {lim:Nat} {c:Cx} {g1 g2 L:List bk} {g:bk} (h:dz lim c (g1++g::g2) L):dz lim c (g1++g2) L∧gR lim c g∧∀ x∈g.cd,x ∉ ((g1++g2)++L).flatMap bk.cd:=by
 have h1:=h.all;rw [List.append_assoc,List.cons_append] at h1;obtain ⟨k1,k2,k3⟩:=h1.uH;rw [← List.append_assoc] at k1 k3;refine ⟨⟨k1,fun x hx=>h.flat x ?_⟩,k2,k3⟩;rcases List.mem_append.1 hx with hx | hx
 ·exact List.mem_append_left _ hx
 ·exact List.mem_append_right _ (List.mem_cons_of_mem _ hx)
theorem C' {c:Cx} {s:List AV} {t:Array Value} (hv:VS c s t) {d:Nat} {x:AV} (hx:∀ v,t[d]? = some v→VR c x v):VS c (s.set d x) t:=by
 refine ⟨by simpa using hv.1,fun i y u hy hu=>?_⟩;by_cases hd:d=i
 ·subst hd;have hl:d<s.length:=by have:=aR hy; simpa using this
  rw [List.getElem?_set_self hl] at hy;cases hy;exact hx u hu
 ·rw [List.getElem?_set_ne hd] at hy;exact hv.2 i y u hy hu
section
variable {E:Env} {ag:FuncId} {R:cw} {td:List aN} {s:List AV} {h:List ae} {lits:List Nat}
theorem I.borrow (d:Nat) {cO:Row} {n:Nat} {g1 g2:List bk} (sB:R.rows=g1 ++ .row cO::g2) (hd:s[d]? = some (.d (.raw (.slice (some ⟨cO.blk,0,none⟩) n cO.cap)))) (hn:n=cO.l.length)
  (H:I E ag ⟨R.n,R.Q,g1++g2,R.fx⟩ lits td (s.set d (.own h.length 0)) (h++[.arr 0 cO.ts cO.l])):I E ag R lits td s h:=by
 replace H:=H.to;refine .of ?_;unfold AW at H ⊢;intro c0 c t dJ h0 h1 h2 h3 hr bF h4 h5 cs;subst h2;rw [sB] at bF;obtain ⟨r1,r2,r3⟩:=bF.uH;have r2:nV c0.w.heap.size c cO:=r2;have Da:cO.blk ∉ ((g1++g2)++R.fx.loops).flatMap bk.cd:=r3 _ (by simp [bk.cd]);have kD:(c.c9 (.arr 0 cO.ts cO.l) cO.blk cO.cap).heap[c.heap.length]? = some (.arr 0 cO.ts cO.l):=by simp [Cx.c9]
 have bA:(c.c9 (.arr 0 cO.ts cO.l) cO.blk cO.cap).own c.heap.length=some (cO.blk,cO.cap):=by simp [Cx.c9]
 have aO:aK E.G (c.c9 (.arr 0 cO.ts cO.l) cO.blk cO.cap):=h3.c9 r2.ax (by
  obtain ⟨q1,q2,q3,q4,vs,q5,q6,q7,q8,q9⟩:=r2;refine ⟨q3,q4,.inr ⟨cO.blk,cO.cap,vs,bA,q5,q6,q7,q8,fun i j e x he hx=>?_⟩⟩;obtain ⟨v,k1,k2,k3⟩:=q9 i j e x he hx
  exact ⟨v,k1,k2,C9 h3 q1 k3⟩)
 have eF:VS (c.c9 (.arr 0 cO.ts cO.l) cO.blk cO.cap) s t:=⟨h4.1,fun i x v hx hv=>xm h3 r2.ax (h4.2 i x v hx hv)⟩
 have:=H c0 (c.c9 (.arr 0 cO.ts cO.l) cO.blk cO.cap) t dJ h0 h1 rfl aO (hr.c9 r2.new) ⟨r1.all.c9 h3 r2.ax Da,r1.flat⟩ (C' eF fun v hv=>by
  have eL:=h4.2 d _ v hd hv;cases eL with
  |d _ _ hq =>
   cases hq;subst hn
   exact .own _ 0 cO.ts cO.l cO.blk cO.cap kD bA) (nU (fun _ _=>xm h3 r2.ax) h5) cs
 exact this
theorem I.cT (d b:Nat) {g:Nat} {ts:Nat × Nat} {l:List DV} (hb:h[b]? = some (.arr g ts l)) (Db:R.n≤b) (hd:s[d]? = some (.own b g))
  (H0:l=[]→I E ag R lits td (s.set d (.d (.raw (.slice none 0 0)))) (h.set b .gone))
  (H:∀ blk cap,I E ag ⟨R.n,R.Q,.row ⟨blk,cap,ts,l⟩::R.rows,R.fx⟩ lits td (s.set d (.d (.raw (.slice (some ⟨blk,0,none⟩) l.length cap)))) (h.set b .gone)):I E ag R lits td s h:=by
 refine .of ?_;unfold AW;intro c0 c t dJ h0 h1 h2 h3 hr bF h4 h5 cs;subst h2;obtain ⟨q0,q1,q2⟩:=h3.box b _ hb;rcases q2 with ⟨q2,q3⟩ | ⟨blk,cap,vs,q2,q3,q4,q5,q6,q7⟩
 ·subst q3;have H:=(H0 rfl).to
  let c':Cx:={ c with own:=fun i=>if i=b then none else c.own i,heap:=c.heap.set b .gone }
  have ef:c'.heap[b]? = some .gone:=List.getElem?_set_self (aR hb);have bA:∀ i,c'.own i=c.own i:=fun i=>by
   simp only [c'];split
   ·rename_i e; subst e; exact q2.symm
   ·rfl
  have oJ:∀ x,c'.bad x↔c.bad x:=fun x=>by
   constructor
   ·rintro (h | ⟨i,n,h⟩)
    ·exact .inl h
    ·exact .inr ⟨i,n,(bA i) ▸ h⟩
   ·rintro (h | ⟨i,n,h⟩)
    ·exact .inl h
    ·exact .inr ⟨i,n,(bA i).trans h⟩
  have bc:Step c c':=⟨rfl,h3.bN,rfl,rfl,rfl,Nat.le_refl _,fun _ _ _=>rfl,fun i x n hi _=>⟨n,(bA i) ▸ hi⟩,fun i bx hi=>by
   by_cases e:i=b
   ·subst e;rw [hb] at hi;cases hi;exact .inr ef
   ·exact lb hi (List.getElem?_set_ne (Ne.symm e)) (bA i)⟩
  have aO:aK E.G c':=h3.next bc (fun i x n hi=>by
    have:=h3.br i x n ((bA i) ▸ hi);refine ⟨this.1,?_⟩;show i<(c.heap.set b .gone).length;rw [List.length_set]; exact this.2) (fun i j x n m hi hj=>h3.inj i j x n m ((bA i) ▸ hi) ((bA j) ▸ hj)) (fun i bx hi=>by
   by_cases e:i=b
   ·subst e;rw [ef] at hi;cases hi;right;show c'.own i=none;simp [c']
   ·have:c'.heap[i]? = c.heap[i]? := List.getElem?_set_ne (Ne.symm e);rw [this] at hi
    exact .inl ⟨hi,bA i,fun _ _ _=>rfl⟩)
  unfold AW at H;refine H c0 c' t dJ h0 h1 rfl aO (hr.step bc) (bF.step h3 bc) (C' (bc.vs h4) fun v hv=>?_) (bc.cr h5) cs;have eL:=h4.2 d _ v hd hv;rcases ln hb eL with ⟨blk,cap,r1,rfl⟩ | ⟨-,rfl,-⟩
  ·rw [q2] at r1; cases r1
  ·exact .d _ _ (.raw _ rfl)
 ·have H:=(H blk cap).to;unfold AW at H;have gV:=HU hr q2 (by omega);have aO:=h3.cT q2;refine H c0 (c.cT b blk) t dJ h0 h1 rfl aO (hr.cT q2 (by omega)) ⟨⟨fun r Dc=>?_,?_⟩,fun g hg=>(List.mem_cons.1 hg).elim (fun e=>by subst e; trivial) (bF.flat g)⟩ (C' ⟨h4.1,fun i x v hx hv=>sA q2 (h4.2 i x v hx hv)⟩ fun v hv=>?_) (nU (fun _ _=>sA q2) h5) cs
  ·rcases List.mem_cons.1 Dc with rfl | Dc
   ·show nV c0.w.heap.size (c.cT b blk) ⟨blk,cap,ts,l⟩
    exact ⟨Or.inr rfl,gV,q0,q1,vs,q3,q4,q5,q6,fun i j e x he hx=>by
     obtain ⟨v,k1,k2,k3⟩:=q7 i j e x he hx
     exact ⟨v,k1,k2,xn q2 k3⟩⟩
   ·exact (bF.all.cT q2).each r Dc
  ·rw [List.cons_append,List.flatMap_cons];refine List.nodup_append.2 ⟨by simp [bk.cd],bF.all.nodup,fun x hx y hy e=>?_⟩;simp [bk.cd] at hx;subst hx; subst e;exact HV bF.all h3 q2 hy
  ·have eL:=h4.2 d _ v hd hv;rcases ln hb eL with ⟨iK,il,r1,rfl⟩ | ⟨rfl,rfl,r1⟩
   ·rw [q2] at r1; cases r1;exact .d _ _ (.raw _ rfl)
   ·rw [q2] at r1; cases r1
end
end Go.aw
end
section
namespace Go.aw
open Go Go.RowKit
def Cx.cy (c:Cx) (o:Obj):Cx:=⟨c.own,c.heap,fun b=>c.ax b∨b=c.w.heap.size,c.w.alloc o⟩
section
variable {G:List (Nat × DV)} {c:Cx} {o:Obj}
theorem HW (b:Nat) (hb:b<c.w.heap.size) (hn:¬ c.bad b):¬ (c.cy o).bad b∧(c.cy o).w.heap[b]? = c.w.heap[b]? := by
 refine ⟨?_,Below.heap_alloc c.w o b hb⟩;rintro ((h | h) | ⟨i,n,h⟩)
 ·exact hn (.inl h)
 ·omega
 ·exact hn (.inr ⟨i,n,h⟩)
theorem sD {x:AV} {v:Value} (hv:VR c x v):VR (c.cy o) x v:=rm HW (fun _ _ hi=>lb hi rfl rfl) hv
theorem zO {x:DV} {v:Value} (hv:VD c.bad c.w x v):VD (c.cy o).bad (c.cy o).w x v:=hv.mono HW
theorem aK.cy (ho:aK G c):aK G (c.cy o) where
 bN:=fun b hb=>by
  have hs:(c.cy o).w.heap.size=c.w.heap.size+1:=by simp [Cx.cy]
  rcases hb with hb | hb
  ·have:=ho.bN b hb; omega
  ·omega
 br:=fun i b n hi=>by
  have hs:(c.cy o).w.heap.size=c.w.heap.size+1:=by simp [Cx.cy]
  have:=ho.br i b n hi;exact ⟨by omega,this.2⟩
 inj:=ho.inj
 sep:=fun i b n hi hb=>hb.elim (ho.sep i b n hi) (fun e=>by have:=(ho.br i b n hi).1; omega)
 box:=fun i bx hx=>(ho.box i bx hx).gen (fun _ _=>sD) (fun _ _=>zO) rfl (fun b n hn=>Below.heap_alloc c.w o b (ho.br i b n hn).1)
 eZ:=fun g e hg=>sD (ho.eZ g e hg)
end
open Go.ChangeMaps (setBlock)
section
variable {G:List (Nat × DV)} {c:Cx} {r:Nat} {w':World}
structure Touch (c:Cx) (r:Nat) (w':World):Prop where
 ax:c.ax r
 os:w'.os=c.w.os
 tape:w'.tape=c.w.tape
 output:w'.output=c.w.output
 size:w'.heap.size=c.w.heap.size
 other:∀ b,b≠r→w'.heap[b]? = c.w.heap[b]?
theorem Touch.vC (h:Touch c r w') (b:Nat) (_:b<c.w.heap.size) (hn:¬ c.bad b):¬ (c.dP w').bad b∧(c.dP w').w.heap[b]? = c.w.heap[b]? :=
 ⟨hn,h.other b (fun e=>by subst e; exact hn (.inl h.ax))⟩
theorem Touch.vr (h:Touch c r w') {x:AV} {v:Value} (hv:VR c x v):VR (c.dP w') x v:=rm h.vC (fun _ _ hi=>lb hi rfl rfl) hv
theorem Touch.vd (h:Touch c r w') {x:DV} {v:Value} (hv:VD c.bad c.w x v):VD (c.dP w').bad (c.dP w').w x v:=hv.mono h.vC
theorem Touch.aO (h:Touch c r w') (ho:aK G c):aK G (c.dP w') where
 bN:=fun b hb=>by show b<w'.heap.size; rw [h.size]; exact ho.bN b hb
 br:=fun i b n hi=>by show b<w'.heap.size∧_; rw [h.size]; exact ho.br i b n hi
 inj:=ho.inj
 sep:=ho.sep
 box:=fun i bx hi=>(ho.box i bx hi).gen (fun _ _=>h.vr) (fun _ _=>h.vd) rfl (fun b n hn=>h.other b (fun e=>by subst e; exact ho.sep i _ n hn h.ax))
 eZ:=fun g e hg=>h.vr (ho.eZ g e hg)
theorem Touch.rel (h:Touch c r w') {c0:Cx} (hr:ec c0 c) (hl:c0.w.heap.size≤r):ec c0 (c.dP w') where
 lim:=hr.lim
 mg:=hr.mg
 ax:=hr.ax
 mY:=hr.mY
 os:=h.os.trans hr.os
 tape:=h.tape.trans hr.tape
 output:=h.output.trans hr.output
 size:=by show _≤w'.heap.size; rw [h.size]; exact hr.size
 keep:=fun b hb hn=>(h.other b (by omega)).trans (hr.keep b hb hn)
 dh:=hr.dh
 boxes:=fun i bx hi=>uF (fun _ hx=>hx) (fun _ _=>rfl) (hr.boxes i bx hi)
theorem Touch.rows (h:Touch c r w') {lim:Nat} {rows:List bk} (hr:fz lim c rows) (hn:r ∉ rows.flatMap bk.cd):fz lim (c.dP w') rows :=
 ⟨fun g hg=>(hr.each g hg).gen (fun b hb=>⟨(hr.each g hg).ax b hb,h.other b (fun e=>hn (List.mem_flatMap.2 ⟨g,hg,e ▸ hb⟩))⟩) (fun _ _=>h.vd) (fun _ _=>h.vr),hr.nodup⟩
variable {o:Obj}
theorem ec.cy {c0:Cx} (hr:ec c0 c):ec c0 (c.cy o) where
 lim:=hr.lim
 mg:=hr.mg
 ax:=fun b h => .inl (hr.ax b h)
 mY:=fun b h=>h.elim (hr.mY b) fun e => .inr (by rw [e]; exact hr.size)
 os:=hr.os
 tape:=hr.tape
 output:=hr.output
 size:=by have:=hr.size; show _≤(c.w.alloc o).heap.size; simp; omega
 keep:=fun b hb hn=>by
  show (c.w.alloc o).heap[b]? = _;rw [Below.heap_alloc c.w o b (by have:=hr.size; omega)];exact hr.keep b hb hn
 dh:=hr.dh
 boxes:=fun i bx hi=>uF (fun _ hx=>hx) (fun _ _=>rfl) (hr.boxes i bx hi)
theorem fz.cy {lim:Nat} {rows:List bk} (hr:fz lim c rows) (ho:aK G c):fz lim (c.cy o) rows :=
 ⟨fun g hg=>(hr.each g hg).gen (fun b hb=>⟨.inl ((hr.each g hg).ax b hb),Below.heap_alloc c.w o b (ho.bN _ ((hr.each g hg).ax b hb))⟩) (fun _ _=>zO) (fun _ _=>sD),hr.nodup⟩
end
theorem Dd {en:Array MapEntry} {j:Nat} (h:j<en.size):((en[j]?).map (·.born)).getD 0=en[j].born:=by simp [h]
theorem born_inj {en:Array MapEntry} (hn:(en.toList.map (·.born)).Nodup) {i j:Nat} (hi:i<en.size) (hj:j<en.size) (h:en[i].born=en[j].born):i=j:=by
 have h1:(en.toList.map (·.born))[i]? = some en[i].born:=by simp [hi]
 have h2:(en.toList.map (·.born))[j]? = some en[i].born:=by simp [hj,h]
 exact Gz hn h1 h2
theorem HX {en:Array MapEntry} (hn:(en.toList.map (·.born)).Nodup) {seen:List Nat} (aj:∀ j∈seen,j<en.size) {j:Nat} (hj:j<en.size) :
  en[j]∈(leftOf en ((seen.map fun j=>((en[j]?).map (·.born)).getD 0).toArray)).toList↔j ∉ seen:=by
 simp only [leftOf,Array.toList_filter,List.mem_filter,List.contains_toArray,Bool.not_eq_true',List.contains_eq_mem,decide_eq_false_iff_not,List.mem_map,not_exists,not_and];constructor
 ·rintro ⟨-,h⟩ hm;exact h j hm (Dd hj)
 ·intro h;refine ⟨by simp,fun k hk e=>?_⟩;rw [Dd (aj k hk)] at e;exact h (born_inj hn (aj k hk) hj e ▸ hk)
section
variable {E:Env} {ag:FuncId} {R:cw} {s:List AV} {h:List ae} {lits:List Nat} {ops:Array Oper} {o:Oper} {l:List Oper} {k:List aN}
theorem I.range (hE:E.OK) {t kt e b:Nat} {m:Operand} {es:List (DV × DV)} {ti:bp} (hg:o.guard=none) (ca:o.op = .range t m) (bP:E.T[t]? = some ti) (hk:ti.k = .map kt e) (hm:aY E.G s m (.map b)) (hb:h[b]? = some (.map es)) (Db:R.n≤b)
  (H:∀ i:Iter,i.seen=[]→i.es=es→i.since≤i.ck→I E ag ⟨R.n,R.Q,.iter i::R.rows,R.fx⟩ lits (.bq ops l::k) (b9 s o.dst (.d (.raw (.pointer (some ⟨i.r,0,none⟩))))) (h.set b .gone)):I E ag R lits (.bq ops (o::l)::k) s h:=by
 refine .of ?_;unfold AW;intro c0 c t' dJ h0 h1 h2 h3 hr bF h4 h5 cs;subst h2;obtain ⟨i,hi,dA,aO⟩:=lh (h1 _ (List.mem_cons_self ..));obtain ⟨lr,d,g1,g2,g3,-⟩:=cj (hE.types t ti bP);have hd:d = .map kt e:=by rw [hk] at g3; cases d <;> first | (cases g3; rfl) | cases g3
 subst hd;have De:=hm c ⟨t',marks R.fx.aI⟩ h3 h4;obtain ⟨blk,cap,en,ck,q1,q2,q3,qe,q4⟩:=tU h3 hb De;have cR:=h3.cT q2;have Pb:=hr.cT q2 (by omega);have uI:(c.cT b blk).w=c.w:=rfl
 let it:Obj := .mapIter (some blk) ck #[] ck
 have np:aK E.G ((c.cT b blk).cy it):=cR.cy;have Df:ec c0 ((c.cT b blk).cy it):=Pb.cy;have hblk:blk<c.w.heap.size:=(h3.br b blk cap q2).1
 let gi:Iter:=⟨blk,c.w.heap.size,en,ck,ck,[],es⟩
 have Dg:kA c0.w.heap.size ((c.cT b blk).cy it) gi:=by
  refine ⟨.inl (.inr rfl),.inr rfl,hr.size,?_,⟨ck,Nat.le_refl _,fun _=>rfl,?_⟩,qe.born,qe,fun j kk x mm h1 h2=>?_,fun j hj=>by simp [gi] at hj⟩
  ·show (c.w.alloc it).heap[blk]? = _;rw [Below.heap_alloc c.w it blk hblk]; exact q3
  ·show (c.w.alloc it).heap[c.w.heap.size]? = _;exact heap_alloc_new _ _
  ·have:=q4.2 j kk x mm h1 (by simpa using h2);exact ⟨zO (xn q2 this.1),zO (xn q2 this.2)⟩
 have sB:dz c0.w.heap.size ((c.cT b blk).cy it) (.iter gi::R.rows) R.fx.loops:=by
  have hold:=(bF.all.cT (b:=b) (blk:=blk) q2).cy (o:=it) cR;refine ⟨⟨fun g hg=>?_,?_⟩,fun g hg=>(List.mem_cons.1 hg).elim (fun e=>by subst e; trivial) (bF.flat g)⟩
  ·rcases List.mem_cons.1 hg with rfl | hg
   ·exact Dg
   ·exact hold.each g hg
  ·rw [List.cons_append,List.flatMap_cons];refine List.nodup_append.2 ⟨by simp [bk.cd,gi]; omega,bF.all.nodup,fun x hx y hy e=>?_⟩;subst e;simp [bk.cd,gi] at hx;rcases hx with rfl | rfl
   ·exact HV bF.all h3 q2 hy
   ·obtain ⟨g,hg,hx⟩:=List.mem_flatMap.1 hy;have:=h3.bN _ ((bF.all.each g hg).ax _ hx);omega
 have cn:(execOp (⟨t',marks R.fx.aI⟩:Act).eval o).run E.P c.w = .ok (.value (.pointer (some ⟨c.w.heap.size,0,none⟩))) (c.w.alloc it):=by
  simp only [execOp,ca,q1,Instr.range,newObj,Sem.run_bind,run_underlying g2,Result.andThen_ok,oY q3,Sem.run_pure,Sem.run];rfl
 have eF:VS ((c.cT b blk).cy it) (b9 s o.dst (.d (.raw (.pointer (some ⟨c.w.heap.size,0,none⟩))))) ((⟨t',marks R.fx.aI⟩:Act).put o.dst (.pointer (some ⟨c.w.heap.size,0,none⟩))).tmps :=
  VS.b9 (a:=⟨t',marks R.fx.aI⟩) ⟨h4.1,fun i x v hx hv=>sD (sA q2 (h4.2 i x v hx hv))⟩ o.dst (.d _ _ (.raw _ rfl))
 have H:=(H gi rfl rfl (Nat.le_refl _)).to;unfold AW at H;obtain ⟨c2,fr,rr,u,e1,e2,e3,e4,e5,e6⟩:=H c0 _ _ dJ h0 (fD aO (dK h1)) rfl np Df sB eF (nU (fun _ _ hv=>sD (sA q2 hv)) h5) cs;refine ⟨c2,fr,rr,u,e1,e2,e3,e4,.head ?_ e5,e6⟩;simp only [bU.bB,List.map_cons,dA];rw [tI hi (fZ hg c t' h4) (.inl cn),put_defers];rfl
theorem I.next {x:Operand} {it:Iter} {g1 g2:List bk} (hg:o.guard=none) (ca:o.op = .next x false) (qI:it.since≤it.ck) (sB:R.rows=g1 ++ .iter it::g2) (hx:aY E.G s x (.d (.raw (.pointer (some ⟨it.r,0,none⟩)))))
  (H0:(∀ j,j<it.es.length→j∈it.seen)→I E ag R lits (.bq ops l::k) (b9 s o.dst (.d (.aD [.bool false]))) h)
  (H1:∀ j kk y,it.es[j]? = some (kk,y)→j ∉ it.seen→I E ag ⟨R.n,R.Q,g1 ++ .iter { it with seen:=it.seen++[j] }::g2,R.fx⟩ lits (.bq ops l::k) (b9 s o.dst (.d (.aD [.bool true,kk,y]))) h):I E ag R lits (.bq ops (o::l)::k) s h:=by
 refine .of ?_;unfold AW;intro c0 c t' dJ h0 h1 h2 h3 hr bF h4 h5 cs;subst h2;obtain ⟨i,hi,dA,aO⟩:=lh (h1 _ (List.mem_cons_self ..));have cx:(⟨t',marks R.fx.aI⟩:Act).eval x = .pointer (some ⟨it.r,0,none⟩):=by
  have:=hx c ⟨t',marks R.fx.aI⟩ h3 h4;generalize (⟨t',marks R.fx.aI⟩:Act).eval x=u at this;cases this with
  |d _ _ hq=>cases hq; rfl
 have zP:=bF;rw [sB] at zP;obtain ⟨r1,r2,r3⟩:=zP.uH;have r2:kA c0.w.heap.size c it:=r2;obtain ⟨z0,z1,-,z2⟩:=r2.iter;have bQ:it.en.size=it.es.length:=r2.dy.size;rcases run_next_at (P:=E.P) c.w o.type it.r it.bm it.since z0 _ it.en it.ck z2 r2.map r2.old z1 with ⟨n1,n2⟩ | ⟨dy,n1,w1,n2,n3⟩
 ·have H:=(H0 fun j hj=>by
   apply Classical.byContradiction;intro hm;have iO:j<it.en.size:=by omega
   have:=(HX r2.dy.nodup r2.lt iO).2 hm;have hl:(leftOf it.en ((it.seen.map fun j=>((it.en[j]?).map (·.born)).getD 0).toArray)).toList.length=0:=by simpa using n1
   rw [List.eq_nil_of_length_eq_zero hl] at this
   cases this).to
  unfold AW at H;have cn:(execOp (⟨t',marks R.fx.aI⟩:Act).eval o).run E.P c.w = .ok (.value (.tuple #[.bool false])) c.w:=by
   simp only [execOp,ca,cx,Sem.run_bind,n2,Result.andThen_ok,Sem.run_pure]
  have eF:VS c (b9 s o.dst (.d (.aD [.bool false]))) ((⟨t',marks R.fx.aI⟩:Act).put o.dst (.tuple #[.bool false])).tmps :=
   VS.b9 (a:=⟨t',marks R.fx.aI⟩) h4 o.dst (.d _ _ (.aD _ _ rfl fun j y v hy hv=>by
    match j with
    | 0=>simp at hy hv; subst hy; subst hv; exact .bool _
    |j+1=>simp at hy))
  obtain ⟨c2,fr,rr,u,e1,e2,e3,e4,e5,e6⟩:=H c0 c _ dJ h0 (fD aO (dK h1)) rfl h3 hr bF eF h5 cs;refine ⟨c2,fr,rr,u,e1,e2,e3,e4,.head ?_ e5,e6⟩;simp only [bU.bB,List.map_cons,dA];rw [tI hi (fZ hg c t' h4) (.inl cn),put_defers];rfl
 ·have iz:dy∈it.en.toList:=by
   simp only [leftOf,Array.toList_filter,List.mem_filter] at n1;exact n1.1
  obtain ⟨j,hj,rfl⟩:=List.getElem_of_mem iz;have iO:j<it.en.size:=by simpa using hj
  have fc:it.en.toList[j]=it.en[j]:=by simp
  rw [fc] at n1 n3;have jw:=(HX r2.dy.nodup r2.lt iO).1 n1;obtain ⟨⟨kk,y⟩,HY⟩:∃ p,it.es[j]? = some p:=⟨it.es[j]'(by omega),by rw [List.getElem?_eq_getElem]⟩;have H:=(H1 j kk y HY jw).to;unfold AW at H;have qs:=h3.bN _ r2.vS;have uI:w1.os=c.w.os∧w1.tape=c.w.tape∧w1.output=c.w.output∧w1.heap=c.w.heap:=by rcases n2 with rfl | rfl <;> exact ⟨rfl,rfl,rfl,rfl⟩
  obtain ⟨a1,a2,a3,a4⟩:=uI;generalize rE:setBlock w1 it.r (.mapIter (some it.bm) it.since (((it.seen.map fun j=>((it.en[j]?).map (·.born)).getD 0).toArray).push it.en[j].born) it.ck)=w' at n3;have oq:Touch c it.r w':=by
   subst rE;refine ⟨r2.vS,a1,a2,a3,by simp [setBlock,a4],fun b hb=>?_⟩;simp only [setBlock,a4];rw [Array.getElem?_setIfInBounds_ne (Ne.symm hb)]
  have Pc:it.r ∉ ((g1++g2)++R.fx.loops).flatMap bk.cd:=r3 _ (by simp [bk.cd]);have ew:it.bm≠it.r:=by
   have:=zP.all.nodup;rw [List.append_assoc,List.cons_append,List.flatMap_append,List.nodup_append] at this;have h6:=this.2.1;rw [List.flatMap_cons,List.nodup_append] at h6;have h7:=h6.1;simp [bk.cd] at h7;exact h7
  have Dg:kA c0.w.heap.size (c.dP w') { it with seen:=it.seen++[j] }:=by
   refine ⟨r2.BC,r2.vS,r2.FM,(oq.other _ ew).trans r2.map,⟨it.ck,?_,fun _=>rfl,?_⟩,r2.old,r2.dy,fun p kk x mm h1 h2=>?_,fun p hp=>?_⟩
   ·exact qI
   ·show w'.heap[it.r]? = _;subst rE;simp only [setBlock,a4];rw [Array.getElem?_setIfInBounds_self_of_lt qs];simp [Dd iO]
   ·have:=r2.val p kk x mm h1 h2;exact ⟨oq.vd this.1,oq.vd this.2⟩
   ·rcases List.mem_append.1 hp with hp | hp
    ·exact r2.lt p hp
    ·simp at hp; subst hp; exact iO
  have Pd:dz c0.w.heap.size (c.dP w') (g1 ++ .iter { it with seen:=it.seen++[j] }::g2) R.fx.loops:=by
   have hold:=oq.rows r1.all Pc;refine ⟨⟨fun g hg=>?_,?_⟩,fun g hg=>?_⟩
   ·rcases List.mem_append.1 hg with hg | hg
    ·rcases List.mem_append.1 hg with hg | hg
     ·exact hold.each g (List.mem_append_left _ (List.mem_append_left _ hg))
     ·rcases List.mem_cons.1 hg with rfl | hg
      ·exact Dg
      ·exact hold.each g (List.mem_append_left _ (List.mem_append_right _ hg))
    ·exact hold.each g (List.mem_append_right _ hg)
   ·have:=zP.all.nodup;rw [List.append_assoc,List.cons_append,List.flatMap_append,List.flatMap_cons] at this ⊢;exact this
   ·rcases List.mem_append.1 hg with hg | hg
    ·exact r1.flat g (List.mem_append_left _ hg)
    ·rcases List.mem_cons.1 hg with rfl | hg
     ·trivial
     ·exact r1.flat g (List.mem_append_right _ hg)
  have bK:=r2.val j kk y it.en[j] HY (by simp [iO]);have cn:(execOp (⟨t',marks R.fx.aI⟩:Act).eval o).run E.P c.w = .ok (.value (.tuple #[.bool true,it.en[j].key,it.en[j].val])) w':=by
   simp only [execOp,ca,cx,Sem.run_bind,n3,Result.andThen_ok,Sem.run_pure]
  have eF:VS (c.dP w') (b9 s o.dst (.d (.aD [.bool true,kk,y]))) ((⟨t',marks R.fx.aI⟩:Act).put o.dst (.tuple #[.bool true,it.en[j].key,it.en[j].val])).tmps :=
   VS.b9 (a:=⟨t',marks R.fx.aI⟩) ⟨h4.1,fun i x v hx hv=>oq.vr (h4.2 i x v hx hv)⟩ o.dst (.d _ _ (.aD _ _ rfl fun p z v hz hv=>by
    match p with
    | 0=>simp at hz hv; subst hz; subst hv; exact .bool _
    | 1=>simp at hz hv; subst hz; subst hv; exact oq.vd bK.1
    | 2=>simp at hz hv; subst hz; subst hv; exact oq.vd bK.2
    |p+3=>simp at hz))
  obtain ⟨c2,fr,rr,u,e1,e2,e3,e4,e5,e6⟩:=H c0 (c.dP w') _ dJ h0 (fD aO (dK h1)) rfl (oq.aO h3) (oq.rel hr r2.FM) Pd eF (nU (fun _ _=>oq.vr) h5) cs;refine ⟨c2,fr,rr,u,e1,e2,e3,e4,.head ?_ e5,e6⟩;simp only [bU.bB,List.map_cons,dA];rw [tI hi (fZ hg c t' h4) (.inl cn),put_defers];rfl
end
end Go.aw
end
section
namespace Go.aw
open Go Go.RowKit
section
variable {E:Env} {ag:FuncId} {R:cw} {td:List aN} {s:List AV} {h:List ae}
theorem I.mB {lits:List Nat} (b off:Nat) (ts:Nat × Nat) (gU:0<ts.2) {cs:List AV} (hb:h[b]? = some (.cells cs)) (hd:cs[off]? = some (.d .aH))
  (H:I E ag R lits td s (h.set b (.cells (cs.set off (.own h.length 0)))++[.arr 0 ts []])):I E ag R lits td s h:=by
 replace H:=H.to;refine .of (.js (fun c t dJ h1 h2 h3 h4 h5=>?_) H);subst h2;have eu:=aR hb
 let c':Cx:={ c with heap:=c.heap.set b (.cells (cs.set off (.own c.heap.length 0)))++[.arr 0 ts []] }
 have bL:c.own c.heap.length=none:=by
  cases ho:c.own c.heap.length with
  |none=>rfl
  |some p=>have:=(h3.br _ p.1 p.2 ho).2; omega
 have gV:c'.heap[c.heap.length]? = some (.arr 0 ts []):=by show (c.heap.set b _++_)[_]? = _; rw [List.getElem?_append_right (by simp)]; simp
 have HZ:c'.heap[b]? = some (.cells (cs.set off (.own c.heap.length 0))):=by
  show (c.heap.set b _++_)[b]? = _;rw [List.getElem?_append_left (by simp; omega),List.getElem?_set_self eu]
 have xo:∀ i,i≠b→i<c.heap.length→c'.heap[i]? = c.heap[i]? := fun i hi hl=>by
  show (c.heap.set b _++_)[i]? = _;rw [List.getElem?_append_left (by simp; omega),List.getElem?_set_ne (Ne.symm hi)]
 have bc:Step c c':=⟨rfl,h3.bN,rfl,rfl,rfl,Nat.le_refl _,fun _ _ _=>rfl,fun i x n hi _=>⟨n,hi⟩,fun i bx hi=>by
  by_cases bz:i=b
  ·subst bz;rw [hb] at hi;cases hi;exact .inl ⟨_,HZ,rfl,by simp⟩
  ·exact lb hi (xo i bz (aR hi)) rfl⟩
 have aO:aK E.G c':=h3.next bc (fun i x n hi=>by
   have:=h3.br i x n hi;refine ⟨this.1,?_⟩;show i<(c.heap.set b _++_).length;simp; omega) h3.inj (fun i bx hi=>by
  by_cases fL:i=c.heap.length
  ·subst fL;rw [gV] at hi;cases hi;exact .inr ⟨gU,fun i e he=>by simp at he,.inl ⟨bL,rfl⟩⟩
  ·have aj:i<c.heap.length:=by
    have h1:=aR hi;have h2:c'.heap.length=c.heap.length+1:=by show (c.heap.set b _++_).length=_; simp
    omega
   by_cases bz:i=b
   ·subst bz;rw [HZ] at hi;cases hi;right;obtain ⟨blk,cap,vs,ty,g1,g2,g3,g4⟩:=h3.box i _ hb;refine ⟨blk,cap,vs,ty,g1,g2,by simpa using g3,fun j x v hx hv=>?_⟩;by_cases hj:j=off
    ·subst hj;rw [List.getElem?_set_self (aR hd)] at hx;cases hx;have:=g4 j _ v hd hv;cases this with
     |d _ _ hq=>cases hq; exact .gy _ _ ts gV bL
    ·rw [List.getElem?_set_ne (Ne.symm hj)] at hx;exact bc.vr (g4 j x v hx hv)
   ·rw [xo i bz aj] at hi
    exact .inl ⟨hi,rfl,fun _ _ _=>rfl⟩)
 exact ⟨c',t,dJ,h1,rfl,aO,bc.vs h4,bc.cr h5,bc,fun _ => .refl _ _⟩
end
end Go.aw
end
