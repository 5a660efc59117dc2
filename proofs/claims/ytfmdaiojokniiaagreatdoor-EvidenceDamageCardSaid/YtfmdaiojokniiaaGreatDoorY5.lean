/- Several texts of mine, one behind the other. Conditions: as each says. -/
import Derived.Test.YtfmdaiojokniiaaGreatDoorY3
import Derived.Maps.RangeRun
set_option linter.unusedVariables false
set_option linter.unusedSimpArgs false
section
namespace Go.ax
open Go Go.RowKit
open Go.ChangeMaps (setBlock)
theorem ud {c0 c c':Cx} {i:Nat} (hh:∀ x,c.heap[i]? = some x→c'.heap[i]? = some x) (ho:∀ x,c.heap[i]? = some x→c'.own i=c.own i) {bx:ae} (h:vw c0 c i bx):vw c0 c' i bx:=by
 cases bx with
 |cells cs =>
  rcases h with ⟨cs',h1,h2,h3⟩ | h1
  ·exact .inl ⟨cs',hh _ h1,(ho _ h1).trans h2,h3⟩
  ·exact .inr (hh _ h1)
 |arr g sz l =>
  rcases h with ⟨g',l',h1,h2⟩ | h1
  ·refine .inl ⟨g',l',hh _ h1,?_⟩;rcases h2 with h2 | ⟨h2,h3,h4⟩
   ·exact .inl h2
   ·exact .inr ⟨h2,h3,(ho _ h1).trans h4⟩
  ·exact .inr (hh _ h1)
 |map es =>
  rcases h with ⟨du,h1,h2⟩ | h1
  ·exact .inl ⟨du,hh _ h1,(ho _ h1).trans h2⟩
  ·exact .inr (hh _ h1)
 |gone=>exact hh _ h
 |hole=>obtain ⟨b,h⟩:=h; exact ⟨b,hh _ h⟩
section
variable {G:List (Nat × DV)} {c:Cx} {bx:ae} {blk cap:Nat}
def Cx.c7 (c:Cx) (bx:ae) (blk cap:Nat):Cx:=⟨fun i=>if i=c.heap.length then some (blk,cap) else c.own i,c.heap++[bx],fun b=>c.ay b∧b≠blk,c.w⟩
theorem Od (ho:aK G c) (hb:c.ay blk) (b:Nat):(c.c7 bx blk cap).bad b↔c.bad b:=by
 constructor
 ·rintro (h | ⟨i,n,h⟩)
  ·exact .inl h.1
  ·simp only [Cx.c7] at h;split at h
   ·cases h; exact .inl hb
   ·exact .inr ⟨i,n,h⟩
 ·rintro (h | ⟨i,n,h⟩)
  ·by_cases e:b=blk
   ·subst e; exact .inr ⟨c.heap.length,cap,by simp [Cx.c7]⟩
   ·exact .inl ⟨h,e⟩
  ·refine .inr ⟨i,n,?_⟩;have:=(ho.br i b n h).2;simp only [Cx.c7];rw [if_neg (by omega)];exact h
theorem Hh (ho:aK G c) (hb:c.ay blk) (b:Nat) (_:b<c.w.heap.size) (hn:¬ c.bad b):¬ (c.c7 bx blk cap).bad b∧(c.c7 bx blk cap).w.heap[b]? = c.w.heap[b]? := ⟨fun h=>hn ((Od ho hb b).1 h),rfl⟩
theorem Hi {i:Nat} {b:ae} (hi:c.heap[i]? = some b):(c.c7 bx blk cap).heap[i]? = c.heap[i]? := List.getElem?_append_left (aT hi)
theorem CH {i:Nat} {b:ae} (hi:c.heap[i]? = some b):(c.c7 bx blk cap).own i=c.own i:=by
 have:=aT hi;simp only [Cx.c7];rw [if_neg (by omega)]
theorem wU (ho:aK G c) (hb:c.ay blk) {x:AV} {v:Value} (hv:VR c x v):VR (c.c7 bx blk cap) x v:=qE (Hh ho hb) (fun _ _ hi=>kM hi (Hi hi) (CH hi)) hv
theorem CI (ho:aK G c) (hb:c.ay blk) {x:DV} {v:Value} (hv:VD c.bad c.w x v):VD (c.c7 bx blk cap).bad (c.c7 bx blk cap).w x v:=hv.mono (Hh ho hb)
theorem aK.c7 (ho:aK G c) (hb:c.ay blk) (gw:iy (c.c7 bx blk cap) c.heap.length bx):aK G (c.c7 bx blk cap) where
 bN:=fun b h=>ho.bN b h.1
 br:=fun i b n hi=>by
  have hl:(c.c7 bx blk cap).heap.length=c.heap.length+1:=by simp [Cx.c7]
  simp only [Cx.c7] at hi;split at hi
  ·cases hi; exact ⟨ho.bN _ hb,by omega⟩
  ·have:=ho.br i b n hi; exact ⟨this.1,by omega⟩
 inj:=fun i j b n m hi hj=>by
  simp only [Cx.c7] at hi hj;split at hi <;> split at hj
  ·omega
  ·cases hi; exact absurd hb (ho.sep j _ m hj)
  ·cases hj; exact absurd hb (ho.sep i _ n hi)
  ·exact ho.inj i j b n m hi hj
 sep:=fun i b n hi h=>by
  simp only [Cx.c7] at hi;split at hi
  ·cases hi; exact h.2 rfl
  ·exact ho.sep i b n hi h.1
 box:=fun i b hx=>by
  rcases Nat.lt_trichotomy i c.heap.length with hi | rfl | hi
  ·have eQ:c.heap[i]? = some b:=by
    have:(c.c7 bx blk cap).heap[i]? = c.heap[i]? := List.getElem?_append_left hi
    rwa [this] at hx
   exact (ho.box i b eQ).gen (fun _ _=>wU ho hb) (fun _ _=>CI ho hb) (CH eQ) (fun _ _ _=>rfl)
  ·have:b=bx:=by simp [Cx.c7] at hx; exact hx.symm
   subst this;exact gw
  ·rw [List.getElem?_eq_none (by simp [Cx.c7]; omega)] at hx;cases hx
 fm:=fun g e hg=>wU ho hb (ho.fm g e hg)
theorem ee.c7 {c0:Cx} (hr:ee c0 c) (hb:c0.w.heap.size≤blk):ee c0 (c.c7 bx blk cap) where
 lim:=hr.lim
 lO:=hr.lO
 ay:=fun b h=>⟨hr.ay b h,fun e=>by subst e; have:=hr.lim _ h; omega⟩
 mC:=fun b h=>hr.mC b h.1
 os:=hr.os
 tape:=hr.tape
 output:=hr.output
 size:=hr.size
 keep:=hr.keep
 db:=fun i b n hi ai=>by
  simp only [Cx.c7] at hi;split at hi
  ·cases hi; omega
  ·exact hr.db i b n hi ai
 boxes:=fun i bx hi=>ud (fun x hx=>(Hi hx).trans hx) (fun x hx=>CH hx) (hr.boxes i bx hi)
theorem fo.c7 {lim:Nat} {rows:List bj} (h:fo lim c rows) (ho:aK G c) (hb:c.ay blk) (hn:blk ∉ rows.flatMap bj.cd):fo lim (c.c7 bx blk cap) rows :=
 ⟨fun r hr=>(h.each r hr).gen (fun b Hj=>⟨⟨(h.each r hr).ay b Hj,fun e=>hn (List.mem_flatMap.2 ⟨r,hr,e ▸ Hj⟩)⟩,rfl⟩) (fun _ _=>CI ho hb) (fun _ _=>wU ho hb),h.nodup⟩
def Cx.cT (c:Cx) (b blk:Nat):Cx:=⟨fun i=>if i=b then none else c.own i,c.heap.set b .gone,fun x=>c.ay x∨x=blk,c.w⟩
variable {b:Nat}
theorem ue {i:Nat} {p:Nat × Nat} (hi:(c.cT b blk).own i=some p):i≠b∧c.own i=some p:=by
 simp only [Cx.cT] at hi;split at hi
 ·cases hi
 ·rename_i q; exact ⟨q,hi⟩
theorem Oe (hb:c.own b=some (blk,cap)) (x:Nat):(c.cT b blk).bad x↔c.bad x:=by
 constructor
 ·rintro ((h | h) | ⟨i,n,h⟩)
  ·exact .inl h
  ·subst h; exact .inr ⟨b,cap,hb⟩
  ·exact .inr ⟨i,n,(ue h).2⟩
 ·rintro (h | ⟨i,n,h⟩)
  ·exact .inl (.inl h)
  ·by_cases e:i=b
   ·subst e; rw [hb] at h; cases h; exact .inl (.inr rfl)
   ·exact .inr ⟨i,n,by simp only [Cx.cT,if_neg e]; exact h⟩
theorem Hk (hb:c.own b=some (blk,cap)) (x:Nat) (_:x<c.w.heap.size) (hn:¬ c.bad x):¬ (c.cT b blk).bad x∧(c.cT b blk).w.heap[x]? = c.w.heap[x]? := ⟨fun h=>hn ((Oe hb x).1 h),rfl⟩
theorem Of {i:Nat} {y:ae} (hi:c.heap[i]? = some y):sM c (c.cT b blk) i y:=by
 by_cases e:i=b
 ·subst e;have hg:(c.cT i blk).heap[i]? = some .gone:=List.getElem?_set_self (aT hi);cases y with
  |cells cs=>exact .inr hg
  |arr g sz l=>exact .inr hg
  |map es=>exact .inr hg
  |gone=>exact hg
  |hole=>exact ⟨_,hg⟩
 ·exact kM hi (List.getElem?_set_ne (Ne.symm e)) (by simp only [Cx.cT,if_neg e])
theorem rU (hb:c.own b=some (blk,cap)) {x:AV} {v:Value} (hv:VR c x v):VR (c.cT b blk) x v:=qE (Hk hb) (fun _ _=>Of) hv
theorem wV (hb:c.own b=some (blk,cap)) {x:DV} {v:Value} (hv:VD c.bad c.w x v):VD (c.cT b blk).bad (c.cT b blk).w x v:=hv.mono (Hk hb)
theorem aK.cT (ho:aK G c) (hb:c.own b=some (blk,cap)):aK G (c.cT b blk) where
 bN:=fun x h=>h.elim (ho.bN x) fun e=>by subst e; exact (ho.br b _ cap hb).1
 br:=fun i x n hi=>by
  have:=ho.br i x n (ue hi).2;refine ⟨this.1,?_⟩;show i<(c.heap.set b .gone).length;rw [List.length_set]; exact this.2
 inj:=fun i j x n m hi hj=>ho.inj i j x n m (ue hi).2 (ue hj).2
 sep:=fun i x n hi h=>by
  obtain ⟨h1,h2⟩:=ue hi;rcases h with h | h
  ·exact ho.sep i x n h2 h
  ·subst h; exact h1 (ho.inj i b x n cap h2 hb)
 box:=fun i y hx=>by
  by_cases e:i=b
  ·subst e;have ai:i<c.heap.length:=(ho.br i _ cap hb).2;have:(c.cT i blk).heap[i]? = some .gone:=List.getElem?_set_self ai;rw [this] at hx;cases hx;show (c.cT i blk).own i=none;simp [Cx.cT]
  ·have eQ:c.heap[i]? = some y:=by
    have:(c.cT b blk).heap[i]? = c.heap[i]? := List.getElem?_set_ne (Ne.symm e)
    rwa [this] at hx
   exact (ho.box i y eQ).gen (fun _ _=>rU hb) (fun _ _=>wV hb) (by simp only [Cx.cT,if_neg e]) (fun _ _ _=>rfl)
 fm:=fun g e hg=>rU hb (ho.fm g e hg)
theorem Hl {c0:Cx} (hr:ee c0 c) (hb:c.own b=some (blk,cap)) (hn:c0.heap.length≤b):c0.w.heap.size≤blk:=by
 rcases Nat.lt_or_ge blk c0.w.heap.size with h | h
 ·obtain ⟨m,hm⟩:=hr.db b blk cap hb h;have:=hr.lO b _ hm;omega
 ·exact h
theorem ee.cT {c0:Cx} (hr:ee c0 c) (hb:c.own b=some (blk,cap)) (hn:c0.heap.length≤b):ee c0 (c.cT b blk) where
 lim:=hr.lim
 lO:=hr.lO
 ay:=fun x h => .inl (hr.ay x h)
 mC:=fun x h=>h.elim (hr.mC x) fun e => .inr (by subst e; exact Hl hr hb hn)
 os:=hr.os
 tape:=hr.tape
 output:=hr.output
 size:=hr.size
 keep:=hr.keep
 db:=fun i x n hi ai=>hr.db i x n (ue hi).2 ai
 boxes:=fun i bx hi=>by
  have bu:i≠b:=fun e=>by have:=aT hi; omega
  exact ud (fun x hx=>(List.getElem?_set_ne (Ne.symm bu)).trans hx) (fun x hx=>by simp only [Cx.cT,if_neg bu]) (hr.boxes i bx hi)
theorem fo.cT {lim:Nat} {rows:List bj} (h:fo lim c rows) (hb:c.own b=some (blk,cap)):fo lim (c.cT b blk) rows :=
 ⟨fun r hr=>(h.each r hr).gen (fun x hx=>⟨.inl ((h.each r hr).ay x hx),rfl⟩) (fun _ _=>wV hb) (fun _ _=>rU hb),h.nodup⟩
theorem Hm {lim:Nat} {rows:List bj} (h:fo lim c rows) (ho:aK G c) (hb:c.own b=some (blk,cap)):blk ∉ rows.flatMap bj.cd:=fun hm=>by
 obtain ⟨r,hr,hx⟩:=List.mem_flatMap.1 hm;exact ho.sep b blk cap hb ((h.each r hr).ay blk hx)
theorem Og {α:Type} {a b c:List α} (h:(a++b++c).Nodup):(a++c).Nodup∧∀ x∈b,x ∉ a++c:=by
 have hp:(a++b++c).Perm (b++(a++c)):=by
  rw [List.append_assoc,← List.append_assoc b a c];refine (List.Perm.trans ?_ (List.Perm.append_right c List.perm_append_comm));rw [List.append_assoc]
 have h2:=(hp.nodup_iff).1 h;rw [List.nodup_append] at h2;exact ⟨h2.2.1,fun x hx eQ=>h2.2.2 x hx x eQ rfl⟩
theorem fo.uf {lim:Nat} {g1 g2:List bj} {g:bj} (h:fo lim c (g1++g::g2)):fo lim c (g1++g2)∧gz lim c g∧∀ x∈g.cd,x ∉ (g1++g2).flatMap bj.cd:=by
 have hn:=h.nodup;rw [List.flatMap_append,List.flatMap_cons,← List.append_assoc] at hn;obtain ⟨h1,h2⟩:=Og hn;rw [← List.flatMap_append] at h1 h2;refine ⟨⟨fun r hr=>h.each r ?_,h1⟩,h.each g (by simp),h2⟩;rcases List.mem_append.1 hr with hr | hr
 ·exact List.mem_append_left _ hr
 ·exact List.mem_append_right _ (List.mem_cons_of_mem _ hr)
end
theorem dx.uf {lim:Nat} {c:Cx} {g1 g2 L:List bj} {g:bj} (h:dx lim c (g1++g::g2) L):dx lim c (g1++g2) L∧gz lim c g∧∀ x∈g.cd,x ∉ ((g1++g2)++L).flatMap bj.cd:=by
 have h1:=h.all;rw [List.append_assoc,List.cons_append] at h1;obtain ⟨k1,k2,k3⟩:=h1.uf;rw [← List.append_assoc] at k1 k3;refine ⟨⟨k1,fun x hx=>h.flat x ?_⟩,k2,k3⟩;rcases List.mem_append.1 hx with hx | hx
 ·exact List.mem_append_left _ hx
 ·exact List.mem_append_right _ (List.mem_cons_of_mem _ hx)
theorem CJ {c:Cx} {s:List AV} {t:Array Value} (hv:VS c s t) {d:Nat} {x:AV} (hx:∀ v,t[d]? = some v→VR c x v):VS c (s.set d x) t:=by
 refine ⟨by simpa using hv.1,fun i y u hy hu=>?_⟩;by_cases hd:d=i
 ·subst hd;have hl:d<s.length:=by have:=aT hy; simpa using this
  rw [List.getElem?_set_self hl] at hy;cases hy;exact hx u hu
 ·rw [List.getElem?_set_ne hd] at hy;exact hv.2 i y u hy hu
section
variable {E:Env} {ag:FuncId} {R:cx} {td:List aP} {s:List AV} {h:List ae} {lits:List Nat}
theorem I.borrow (d:Nat) {cO:Row} {n:Nat} {g1 g2:List bj} (rV:R.rows=g1 ++ .row cO::g2) (hd:s[d]? = some (.d (.raw (.slice (some ⟨cO.blk,0,none⟩) n cO.cap)))) (hn:n=cO.l.length)
  (H:I E ag ⟨R.n,R.Q,g1++g2,R.fx⟩ lits td (s.set d (.own h.length 0)) (h++[.arr 0 cO.ts cO.l])):I E ag R lits td s h:=by
 replace H:=H.to;refine .of ?_;unfold AW at H ⊢;intro c0 c t dD h0 h1 h2 h3 hr bE h4 h5 cs;subst h2;rw [rV] at bE;obtain ⟨r1,r2,r3⟩:=bE.uf;have r2:nu c0.w.heap.size c cO:=r2;have CK:cO.blk ∉ ((g1++g2)++R.fx.loops).flatMap bj.cd:=r3 _ (by simp [bj.cd]);have rN:(c.c7 (.arr 0 cO.ts cO.l) cO.blk cO.cap).heap[c.heap.length]? = some (.arr 0 cO.ts cO.l):=by simp [Cx.c7]
 have bA:(c.c7 (.arr 0 cO.ts cO.l) cO.blk cO.cap).own c.heap.length=some (cO.blk,cO.cap):=by simp [Cx.c7]
 have aM:aK E.G (c.c7 (.arr 0 cO.ts cO.l) cO.blk cO.cap):=h3.c7 r2.ay (by
  obtain ⟨q1,q2,q3,q4,vs,q5,q6,q7,q8,q9⟩:=r2;refine ⟨q3,q4,.inr ⟨cO.blk,cO.cap,vs,bA,q5,q6,q7,q8,fun i j e x he hx=>?_⟩⟩;obtain ⟨v,k1,k2,k3⟩:=q9 i j e x he hx
  exact ⟨v,k1,k2,CI h3 q1 k3⟩)
 have eG:VS (c.c7 (.arr 0 cO.ts cO.l) cO.blk cO.cap) s t:=⟨h4.1,fun i x v hx hv=>wU h3 r2.ay (h4.2 i x v hx hv)⟩
 have:=H c0 (c.c7 (.arr 0 cO.ts cO.l) cO.blk cO.cap) t dD h0 h1 rfl aM (hr.c7 r2.new) ⟨r1.all.c7 h3 r2.ay CK,r1.flat⟩ (CJ eG fun v hv=>by
  have eF:=h4.2 d _ v hd hv;cases eF with
  |d _ _ hq =>
   cases hq;subst hn
   exact .own _ 0 cO.ts cO.l cO.blk cO.cap rN bA) (nt (fun _ _=>wU h3 r2.ay) h5) cs
 exact this
theorem I.cT (d b:Nat) {g:Nat} {ts:Nat × Nat} {l:List DV} (hb:h[b]? = some (.arr g ts l)) (CL:R.n≤b) (hd:s[d]? = some (.own b g))
  (H0:l=[]→I E ag R lits td (s.set d (.d (.raw (.slice none 0 0)))) (h.set b .gone))
  (H:∀ blk cap,I E ag ⟨R.n,R.Q,.row ⟨blk,cap,ts,l⟩::R.rows,R.fx⟩ lits td (s.set d (.d (.raw (.slice (some ⟨blk,0,none⟩) l.length cap)))) (h.set b .gone)):I E ag R lits td s h:=by
 refine .of ?_;unfold AW;intro c0 c t dD h0 h1 h2 h3 hr bE h4 h5 cs;subst h2;obtain ⟨q0,q1,q2⟩:=h3.box b _ hb;rcases q2 with ⟨q2,q3⟩ | ⟨blk,cap,vs,q2,q3,q4,q5,q6,q7⟩
 ·subst q3;have H:=(H0 rfl).to
  let c':Cx:={ c with own:=fun i=>if i=b then none else c.own i,heap:=c.heap.set b .gone }
  have eh:c'.heap[b]? = some .gone:=List.getElem?_set_self (aT hb);have bA:∀ i,c'.own i=c.own i:=fun i=>by
   simp only [c'];split
   ·rename_i e; subst e; exact q2.symm
   ·rfl
  have ob:∀ x,c'.bad x↔c.bad x:=fun x=>by
   constructor
   ·rintro (h | ⟨i,n,h⟩)
    ·exact .inl h
    ·exact .inr ⟨i,n,(bA i) ▸ h⟩
   ·rintro (h | ⟨i,n,h⟩)
    ·exact .inl h
    ·exact .inr ⟨i,n,(bA i).trans h⟩
  have aX:Step c c':=⟨rfl,h3.bN,rfl,rfl,rfl,Nat.le_refl _,fun _ _ _=>rfl,fun i x n hi _=>⟨n,(bA i) ▸ hi⟩,fun i bx hi=>by
   by_cases e:i=b
   ·subst e;rw [hb] at hi;cases hi;exact .inr eh
   ·exact kM hi (List.getElem?_set_ne (Ne.symm e)) (bA i)⟩
  have aM:aK E.G c':=h3.next aX (fun i x n hi=>by
    have:=h3.br i x n ((bA i) ▸ hi);refine ⟨this.1,?_⟩;show i<(c.heap.set b .gone).length;rw [List.length_set]; exact this.2) (fun i j x n m hi hj=>h3.inj i j x n m ((bA i) ▸ hi) ((bA j) ▸ hj)) (fun i bx hi=>by
   by_cases e:i=b
   ·subst e;rw [eh] at hi;cases hi;right;show c'.own i=none;simp [c']
   ·have:c'.heap[i]? = c.heap[i]? := List.getElem?_set_ne (Ne.symm e);rw [this] at hi
    exact .inl ⟨hi,bA i,fun _ _ _=>rfl⟩)
  unfold AW at H;refine H c0 c' t dD h0 h1 rfl aM (hr.step aX) (bE.step h3 aX) (CJ (aX.vs h4) fun v hv=>?_) (aX.cr h5) cs;have eF:=h4.2 d _ v hd hv;rcases lU hb eF with ⟨blk,cap,r1,rfl⟩ | ⟨-,rfl,-⟩
  ·rw [q2] at r1; cases r1
  ·exact .d _ _ (.raw _ rfl)
 ·have H:=(H blk cap).to;unfold AW at H;have gF:=Hl hr q2 (by omega);have aM:=h3.cT q2;refine H c0 (c.cT b blk) t dD h0 h1 rfl aM (hr.cT q2 (by omega)) ⟨⟨fun r CM=>?_,?_⟩,fun g hg=>(List.mem_cons.1 hg).elim (fun e=>by subst e; trivial) (bE.flat g)⟩ (CJ ⟨h4.1,fun i x v hx hv=>rU q2 (h4.2 i x v hx hv)⟩ fun v hv=>?_) (nt (fun _ _=>rU q2) h5) cs
  ·rcases List.mem_cons.1 CM with rfl | CM
   ·show nu c0.w.heap.size (c.cT b blk) ⟨blk,cap,ts,l⟩
    exact ⟨Or.inr rfl,gF,q0,q1,vs,q3,q4,q5,q6,fun i j e x he hx=>by
     obtain ⟨v,k1,k2,k3⟩:=q7 i j e x he hx
     exact ⟨v,k1,k2,wV q2 k3⟩⟩
   ·exact (bE.all.cT q2).each r CM
  ·rw [List.cons_append,List.flatMap_cons];refine List.nodup_append.2 ⟨by simp [bj.cd],bE.all.nodup,fun x hx y hy e=>?_⟩;simp [bj.cd] at hx;subst hx; subst e;exact Hm bE.all h3 q2 hy
  ·have eF:=h4.2 d _ v hd hv;rcases lU hb eF with ⟨je,iz,r1,rfl⟩ | ⟨rfl,rfl,r1⟩
   ·rw [q2] at r1; cases r1;exact .d _ _ (.raw _ rfl)
   ·rw [q2] at r1; cases r1
end
end Go.ax
end
section
namespace Go.ax
open Go Go.RowKit
def Cx.cz (c:Cx) (o:Obj):Cx:=⟨c.own,c.heap,fun b=>c.ay b∨b=c.w.heap.size,c.w.alloc o⟩
section
variable {G:List (Nat × DV)} {c:Cx} {o:Obj}
theorem Hn (b:Nat) (hb:b<c.w.heap.size) (hn:¬ c.bad b):¬ (c.cz o).bad b∧(c.cz o).w.heap[b]? = c.w.heap[b]? := by
 refine ⟨?_,Below.heap_alloc c.w o b hb⟩;rintro ((h | h) | ⟨i,n,h⟩)
 ·exact hn (.inl h)
 ·omega
 ·exact hn (.inr ⟨i,n,h⟩)
theorem rW {x:AV} {v:Value} (hv:VR c x v):VR (c.cz o) x v:=qE Hn (fun _ _ hi=>kM hi rfl rfl) hv
theorem zj {x:DV} {v:Value} (hv:VD c.bad c.w x v):VD (c.cz o).bad (c.cz o).w x v:=hv.mono Hn
theorem aK.cz (ho:aK G c):aK G (c.cz o) where
 bN:=fun b hb=>by
  have hs:(c.cz o).w.heap.size=c.w.heap.size+1:=by simp [Cx.cz]
  rcases hb with hb | hb
  ·have:=ho.bN b hb; omega
  ·omega
 br:=fun i b n hi=>by
  have hs:(c.cz o).w.heap.size=c.w.heap.size+1:=by simp [Cx.cz]
  have:=ho.br i b n hi;exact ⟨by omega,this.2⟩
 inj:=ho.inj
 sep:=fun i b n hi hb=>hb.elim (ho.sep i b n hi) (fun e=>by have:=(ho.br i b n hi).1; omega)
 box:=fun i bx hx=>(ho.box i bx hx).gen (fun _ _=>rW) (fun _ _=>zj) rfl (fun b n hn=>Below.heap_alloc c.w o b (ho.br i b n hn).1)
 fm:=fun g e hg=>rW (ho.fm g e hg)
end
open Go.ChangeMaps (setBlock)
section
variable {G:List (Nat × DV)} {c:Cx} {r:Nat} {w':World}
structure Touch (c:Cx) (r:Nat) (w':World):Prop where
 ay:c.ay r
 os:w'.os=c.w.os
 tape:w'.tape=c.w.tape
 output:w'.output=c.w.output
 size:w'.heap.size=c.w.heap.size
 other:∀ b,b≠r→w'.heap[b]? = c.w.heap[b]?
theorem Touch.vb (h:Touch c r w') (b:Nat) (_:b<c.w.heap.size) (hn:¬ c.bad b):¬ (c.dL w').bad b∧(c.dL w').w.heap[b]? = c.w.heap[b]? :=
 ⟨hn,h.other b (fun e=>by subst e; exact hn (.inl h.ay))⟩
theorem Touch.vr (h:Touch c r w') {x:AV} {v:Value} (hv:VR c x v):VR (c.dL w') x v:=qE h.vb (fun _ _ hi=>kM hi rfl rfl) hv
theorem Touch.vd (h:Touch c r w') {x:DV} {v:Value} (hv:VD c.bad c.w x v):VD (c.dL w').bad (c.dL w').w x v:=hv.mono h.vb
theorem Touch.aM (h:Touch c r w') (ho:aK G c):aK G (c.dL w') where
 bN:=fun b hb=>by show b<w'.heap.size; rw [h.size]; exact ho.bN b hb
 br:=fun i b n hi=>by show b<w'.heap.size∧_; rw [h.size]; exact ho.br i b n hi
 inj:=ho.inj
 sep:=ho.sep
 box:=fun i bx hi=>(ho.box i bx hi).gen (fun _ _=>h.vr) (fun _ _=>h.vd) rfl (fun b n hn=>h.other b (fun e=>by subst e; exact ho.sep i _ n hn h.ay))
 fm:=fun g e hg=>h.vr (ho.fm g e hg)
theorem Touch.rel (h:Touch c r w') {c0:Cx} (hr:ee c0 c) (hl:c0.w.heap.size≤r):ee c0 (c.dL w') where
 lim:=hr.lim
 lO:=hr.lO
 ay:=hr.ay
 mC:=hr.mC
 os:=h.os.trans hr.os
 tape:=h.tape.trans hr.tape
 output:=h.output.trans hr.output
 size:=by show _≤w'.heap.size; rw [h.size]; exact hr.size
 keep:=fun b hb hn=>(h.other b (by omega)).trans (hr.keep b hb hn)
 db:=hr.db
 boxes:=fun i bx hi=>ud (fun _ hx=>hx) (fun _ _=>rfl) (hr.boxes i bx hi)
theorem Touch.rows (h:Touch c r w') {lim:Nat} {rows:List bj} (hr:fo lim c rows) (hn:r ∉ rows.flatMap bj.cd):fo lim (c.dL w') rows :=
 ⟨fun g hg=>(hr.each g hg).gen (fun b hb=>⟨(hr.each g hg).ay b hb,h.other b (fun e=>hn (List.mem_flatMap.2 ⟨g,hg,e ▸ hb⟩))⟩) (fun _ _=>h.vd) (fun _ _=>h.vr),hr.nodup⟩
variable {o:Obj}
theorem ee.cz {c0:Cx} (hr:ee c0 c):ee c0 (c.cz o) where
 lim:=hr.lim
 lO:=hr.lO
 ay:=fun b h => .inl (hr.ay b h)
 mC:=fun b h=>h.elim (hr.mC b) fun e => .inr (by rw [e]; exact hr.size)
 os:=hr.os
 tape:=hr.tape
 output:=hr.output
 size:=by have:=hr.size; show _≤(c.w.alloc o).heap.size; simp; omega
 keep:=fun b hb hn=>by
  show (c.w.alloc o).heap[b]? = _;rw [Below.heap_alloc c.w o b (by have:=hr.size; omega)];exact hr.keep b hb hn
 db:=hr.db
 boxes:=fun i bx hi=>ud (fun _ hx=>hx) (fun _ _=>rfl) (hr.boxes i bx hi)
theorem fo.cz {lim:Nat} {rows:List bj} (hr:fo lim c rows) (ho:aK G c):fo lim (c.cz o) rows :=
 ⟨fun g hg=>(hr.each g hg).gen (fun b hb=>⟨.inl ((hr.each g hg).ay b hb),Below.heap_alloc c.w o b (ho.bN _ ((hr.each g hg).ay b hb))⟩) (fun _ _=>zj) (fun _ _=>rW),hr.nodup⟩
end
theorem CN {en:Array MapEntry} {j:Nat} (h:j<en.size):((en[j]?).map (·.born)).getD 0=en[j].born:=by simp [h]
theorem born_inj {en:Array MapEntry} (hn:(en.toList.map (·.born)).Nodup) {i j:Nat} (hi:i<en.size) (hj:j<en.size) (h:en[i].born=en[j].born):i=j:=by
 have h1:(en.toList.map (·.born))[i]? = some en[i].born:=by simp [hi]
 have h2:(en.toList.map (·.born))[j]? = some en[i].born:=by simp [hj,h]
 exact F1 hn h1 h2
theorem Ho {en:Array MapEntry} (hn:(en.toList.map (·.born)).Nodup) {seen:List Nat} (ai:∀ j∈seen,j<en.size) {j:Nat} (hj:j<en.size) :
  en[j]∈(leftOf en ((seen.map fun j=>((en[j]?).map (·.born)).getD 0).toArray)).toList↔j ∉ seen:=by
 simp only [leftOf,Array.toList_filter,List.mem_filter,List.contains_toArray,Bool.not_eq_true',List.contains_eq_mem,decide_eq_false_iff_not,List.mem_map,not_exists,not_and];constructor
 ·rintro ⟨-,h⟩ hm;exact h j hm (CN hj)
 ·intro h;refine ⟨by simp,fun k hk e=>?_⟩;rw [CN (ai k hk)] at e;exact h (born_inj hn (ai k hk) hj e ▸ hk)
section
variable {E:Env} {ag:FuncId} {R:cx} {s:List AV} {h:List ae} {lits:List Nat} {ops:Array Oper} {o:Oper} {l:List Oper} {k:List aP}
theorem I.range (hE:E.OK) {t kt e b:Nat} {m:Operand} {es:List (DV × DV)} {ti:bk} (hg:o.guard=none) (b9:o.op = .range t m) (bO:E.T[t]? = some ti) (hk:ti.k = .map kt e) (hm:aZ E.G s m (.map b)) (hb:h[b]? = some (.map es)) (CL:R.n≤b)
  (H:∀ i:Iter,i.seen=[]→i.es=es→i.since≤i.ck→I E ag ⟨R.n,R.Q,.iter i::R.rows,R.fx⟩ lits (.bo ops l::k) (bX s o.dst (.d (.raw (.pointer (some ⟨i.r,0,none⟩))))) (h.set b .gone)):I E ag R lits (.bo ops (o::l)::k) s h:=by
 refine .of ?_;unfold AW;intro c0 c t' dD h0 h1 h2 h3 hr bE h4 h5 cs;subst h2;obtain ⟨i,hi,dy,aM⟩:=kO (h1 _ (List.mem_cons_self ..));obtain ⟨kS,d,g1,g2,g3,-⟩:=cm (hE.types t ti bO);have hd:d = .map kt e:=by rw [hk] at g3; cases d <;> first | (cases g3; rfl) | cases g3
 subst hd;have Oh:=hm c ⟨t',marks R.fx.aG⟩ h3 h4;obtain ⟨blk,cap,en,ck,q1,q2,q3,qe,q4⟩:=tx h3 hb Oh;have cZ:=h3.cT q2;have Oi:=hr.cT q2 (by omega);have ug:(c.cT b blk).w=c.w:=rfl
 let it:Obj := .mapIter (some blk) ck #[] ck
 have fp:aK E.G ((c.cT b blk).cz it):=cZ.cz;have CO:ee c0 ((c.cT b blk).cz it):=Oi.cz;have hblk:blk<c.w.heap.size:=(h3.br b blk cap q2).1
 let gi:Iter:=⟨blk,c.w.heap.size,en,ck,ck,[],es⟩
 have CP:kl c0.w.heap.size ((c.cT b blk).cz it) gi:=by
  refine ⟨.inl (.inr rfl),.inr rfl,hr.size,?_,⟨ck,Nat.le_refl _,fun _=>rfl,?_⟩,qe.born,qe,fun j kk x mm h1 h2=>?_,fun j hj=>by simp [gi] at hj⟩
  ·show (c.w.alloc it).heap[blk]? = _;rw [Below.heap_alloc c.w it blk hblk]; exact q3
  ·show (c.w.alloc it).heap[c.w.heap.size]? = _;exact heap_alloc_new _ _
  ·have:=q4.2 j kk x mm h1 (by simpa using h2);exact ⟨zj (wV q2 this.1),zj (wV q2 this.2)⟩
 have rV:dx c0.w.heap.size ((c.cT b blk).cz it) (.iter gi::R.rows) R.fx.loops:=by
  have hold:=(bE.all.cT (b:=b) (blk:=blk) q2).cz (o:=it) cZ;refine ⟨⟨fun g hg=>?_,?_⟩,fun g hg=>(List.mem_cons.1 hg).elim (fun e=>by subst e; trivial) (bE.flat g)⟩
  ·rcases List.mem_cons.1 hg with rfl | hg
   ·exact CP
   ·exact hold.each g hg
  ·rw [List.cons_append,List.flatMap_cons];refine List.nodup_append.2 ⟨by simp [bj.cd,gi]; omega,bE.all.nodup,fun x hx y hy e=>?_⟩;subst e;simp [bj.cd,gi] at hx;rcases hx with rfl | rfl
   ·exact Hm bE.all h3 q2 hy
   ·obtain ⟨g,hg,hx⟩:=List.mem_flatMap.1 hy;have:=h3.bN _ ((bE.all.each g hg).ay _ hx);omega
 have cq:(execOp (⟨t',marks R.fx.aG⟩:Act).eval o).run E.P c.w = .ok (.value (.pointer (some ⟨c.w.heap.size,0,none⟩))) (c.w.alloc it):=by
  simp only [execOp,b9,q1,Instr.range,newObj,Sem.run_bind,run_underlying g2,Result.andThen_ok,oA q3,Sem.run_pure,Sem.run];rfl
 have eG:VS ((c.cT b blk).cz it) (bX s o.dst (.d (.raw (.pointer (some ⟨c.w.heap.size,0,none⟩))))) ((⟨t',marks R.fx.aG⟩:Act).put o.dst (.pointer (some ⟨c.w.heap.size,0,none⟩))).tmps :=
  VS.bX (a:=⟨t',marks R.fx.aG⟩) ⟨h4.1,fun i x v hx hv=>rW (rU q2 (h4.2 i x v hx hv))⟩ o.dst (.d _ _ (.raw _ rfl))
 have H:=(H gi rfl rfl (Nat.le_refl _)).to;unfold AW at H;obtain ⟨c2,fr,rr,u,e1,e2,e3,e4,e5,e6⟩:=H c0 _ _ dD h0 (fy aM (dE h1)) rfl fp CO rV eG (nt (fun _ _ hv=>rW (rU q2 hv)) h5) cs;refine ⟨c2,fr,rr,u,e1,e2,e3,e4,.head ?_ e5,e6⟩;simp only [bQ.bB,List.map_cons,dy];rw [s9 hi (fR hg c t' h4) (.inl cq),put_defers];rfl
theorem I.next {x:Operand} {it:Iter} {g1 g2:List bj} (hg:o.guard=none) (b9:o.op = .next x false) (p9:it.since≤it.ck) (rV:R.rows=g1 ++ .iter it::g2) (hx:aZ E.G s x (.d (.raw (.pointer (some ⟨it.r,0,none⟩)))))
  (H0:(∀ j,j<it.es.length→j∈it.seen)→I E ag R lits (.bo ops l::k) (bX s o.dst (.d (.aF [.bool false]))) h)
  (H1:∀ j kk y,it.es[j]? = some (kk,y)→j ∉ it.seen→I E ag ⟨R.n,R.Q,g1 ++ .iter { it with seen:=it.seen++[j] }::g2,R.fx⟩ lits (.bo ops l::k) (bX s o.dst (.d (.aF [.bool true,kk,y]))) h):I E ag R lits (.bo ops (o::l)::k) s h:=by
 refine .of ?_;unfold AW;intro c0 c t' dD h0 h1 h2 h3 hr bE h4 h5 cs;subst h2;obtain ⟨i,hi,dy,aM⟩:=kO (h1 _ (List.mem_cons_self ..));have cy:(⟨t',marks R.fx.aG⟩:Act).eval x = .pointer (some ⟨it.r,0,none⟩):=by
  have:=hx c ⟨t',marks R.fx.aG⟩ h3 h4;generalize (⟨t',marks R.fx.aG⟩:Act).eval x=u at this;cases this with
  |d _ _ hq=>cases hq; rfl
 have zk:=bE;rw [rV] at zk;obtain ⟨r1,r2,r3⟩:=zk.uf;have r2:kl c0.w.heap.size c it:=r2;obtain ⟨z0,z1,-,z2⟩:=r2.iter;have bY:it.en.size=it.es.length:=r2.dw.size;rcases run_next_at (P:=E.P) c.w o.type it.r it.bm it.since z0 _ it.en it.ck z2 r2.map r2.old z1 with ⟨n1,n2⟩ | ⟨dw,n1,w1,n2,n3⟩
 ·have H:=(H0 fun j hj=>by
   apply Classical.byContradiction;intro hm;have iF:j<it.en.size:=by omega
   have:=(Ho r2.dw.nodup r2.lt iF).2 hm;have hl:(leftOf it.en ((it.seen.map fun j=>((it.en[j]?).map (·.born)).getD 0).toArray)).toList.length=0:=by simpa using n1
   rw [List.eq_nil_of_length_eq_zero hl] at this
   cases this).to
  unfold AW at H;have cq:(execOp (⟨t',marks R.fx.aG⟩:Act).eval o).run E.P c.w = .ok (.value (.tuple #[.bool false])) c.w:=by
   simp only [execOp,b9,cy,Sem.run_bind,n2,Result.andThen_ok,Sem.run_pure]
  have eG:VS c (bX s o.dst (.d (.aF [.bool false]))) ((⟨t',marks R.fx.aG⟩:Act).put o.dst (.tuple #[.bool false])).tmps :=
   VS.bX (a:=⟨t',marks R.fx.aG⟩) h4 o.dst (.d _ _ (.aF _ _ rfl fun j y v hy hv=>by
    match j with
    | 0=>simp at hy hv; subst hy; subst hv; exact .bool _
    |j+1=>simp at hy))
  obtain ⟨c2,fr,rr,u,e1,e2,e3,e4,e5,e6⟩:=H c0 c _ dD h0 (fy aM (dE h1)) rfl h3 hr bE eG h5 cs;refine ⟨c2,fr,rr,u,e1,e2,e3,e4,.head ?_ e5,e6⟩;simp only [bQ.bB,List.map_cons,dy];rw [s9 hi (fR hg c t' h4) (.inl cq),put_defers];rfl
 ·have CQ:dw∈it.en.toList:=by
   simp only [leftOf,Array.toList_filter,List.mem_filter] at n1;exact n1.1
  obtain ⟨j,hj,rfl⟩:=List.getElem_of_mem CQ;have iF:j<it.en.size:=by simpa using hj
  have eT:it.en.toList[j]=it.en[j]:=by simp
  rw [eT] at n1 n3;have jo:=(Ho r2.dw.nodup r2.lt iF).1 n1;obtain ⟨⟨kk,y⟩,Hp⟩:∃ p,it.es[j]? = some p:=⟨it.es[j]'(by omega),by rw [List.getElem?_eq_getElem]⟩;have H:=(H1 j kk y Hp jo).to;unfold AW at H;have pM:=h3.bN _ r2.vx;have ug:w1.os=c.w.os∧w1.tape=c.w.tape∧w1.output=c.w.output∧w1.heap=c.w.heap:=by rcases n2 with rfl | rfl <;> exact ⟨rfl,rfl,rfl,rfl⟩
  obtain ⟨a1,a2,a3,a4⟩:=ug;generalize qR:setBlock w1 it.r (.mapIter (some it.bm) it.since (((it.seen.map fun j=>((it.en[j]?).map (·.born)).getD 0).toArray).push it.en[j].born) it.ck)=w' at n3;have nK:Touch c it.r w':=by
   subst qR;refine ⟨r2.vx,a1,a2,a3,by simp [setBlock,a4],fun b hb=>?_⟩;simp only [setBlock,a4];rw [Array.getElem?_setIfInBounds_ne (Ne.symm hb)]
  have Oj:it.r ∉ ((g1++g2)++R.fx.loops).flatMap bj.cd:=r3 _ (by simp [bj.cd]);have dg:it.bm≠it.r:=by
   have:=zk.all.nodup;rw [List.append_assoc,List.cons_append,List.flatMap_append,List.nodup_append] at this;have h6:=this.2.1;rw [List.flatMap_cons,List.nodup_append] at h6;have h7:=h6.1;simp [bj.cd] at h7;exact h7
  have CP:kl c0.w.heap.size (c.dL w') { it with seen:=it.seen++[j] }:=by
   refine ⟨r2.Bb,r2.vx,r2.E9,(nK.other _ dg).trans r2.map,⟨it.ck,?_,fun _=>rfl,?_⟩,r2.old,r2.dw,fun p kk x mm h1 h2=>?_,fun p hp=>?_⟩
   ·exact p9
   ·show w'.heap[it.r]? = _;subst qR;simp only [setBlock,a4];rw [Array.getElem?_setIfInBounds_self_of_lt pM];simp [CN iF]
   ·have:=r2.val p kk x mm h1 h2;exact ⟨nK.vd this.1,nK.vd this.2⟩
   ·rcases List.mem_append.1 hp with hp | hp
    ·exact r2.lt p hp
    ·simp at hp; subst hp; exact iF
  have Ol:dx c0.w.heap.size (c.dL w') (g1 ++ .iter { it with seen:=it.seen++[j] }::g2) R.fx.loops:=by
   have hold:=nK.rows r1.all Oj;refine ⟨⟨fun g hg=>?_,?_⟩,fun g hg=>?_⟩
   ·rcases List.mem_append.1 hg with hg | hg
    ·rcases List.mem_append.1 hg with hg | hg
     ·exact hold.each g (List.mem_append_left _ (List.mem_append_left _ hg))
     ·rcases List.mem_cons.1 hg with rfl | hg
      ·exact CP
      ·exact hold.each g (List.mem_append_left _ (List.mem_append_right _ hg))
    ·exact hold.each g (List.mem_append_right _ hg)
   ·have:=zk.all.nodup;rw [List.append_assoc,List.cons_append,List.flatMap_append,List.flatMap_cons] at this ⊢;exact this
   ·rcases List.mem_append.1 hg with hg | hg
    ·exact r1.flat g (List.mem_append_left _ hg)
    ·rcases List.mem_cons.1 hg with rfl | hg
     ·trivial
     ·exact r1.flat g (List.mem_append_right _ hg)
  have bD:=r2.val j kk y it.en[j] Hp (by simp [iF]);have cq:(execOp (⟨t',marks R.fx.aG⟩:Act).eval o).run E.P c.w = .ok (.value (.tuple #[.bool true,it.en[j].key,it.en[j].val])) w':=by
   simp only [execOp,b9,cy,Sem.run_bind,n3,Result.andThen_ok,Sem.run_pure]
  have eG:VS (c.dL w') (bX s o.dst (.d (.aF [.bool true,kk,y]))) ((⟨t',marks R.fx.aG⟩:Act).put o.dst (.tuple #[.bool true,it.en[j].key,it.en[j].val])).tmps :=
   VS.bX (a:=⟨t',marks R.fx.aG⟩) ⟨h4.1,fun i x v hx hv=>nK.vr (h4.2 i x v hx hv)⟩ o.dst (.d _ _ (.aF _ _ rfl fun p z v hz hv=>by
    match p with
    | 0=>simp at hz hv; subst hz; subst hv; exact .bool _
    | 1=>simp at hz hv; subst hz; subst hv; exact nK.vd bD.1
    | 2=>simp at hz hv; subst hz; subst hv; exact nK.vd bD.2
    |p+3=>simp at hz))
  obtain ⟨c2,fr,rr,u,e1,e2,e3,e4,e5,e6⟩:=H c0 (c.dL w') _ dD h0 (fy aM (dE h1)) rfl (nK.aM h3) (nK.rel hr r2.E9) Ol eG (nt (fun _ _=>nK.vr) h5) cs;refine ⟨c2,fr,rr,u,e1,e2,e3,e4,.head ?_ e5,e6⟩;simp only [bQ.bB,List.map_cons,dy];rw [s9 hi (fR hg c t' h4) (.inl cq),put_defers];rfl
end
end Go.ax
end
section
namespace Go.ax
open Go Go.RowKit
section
variable {E:Env} {ag:FuncId} {R:cx} {td:List aP} {s:List AV} {h:List ae}
theorem I.qa {lits:List Nat} (b off:Nat) (ts:Nat × Nat) (gE:0<ts.2) {cs:List AV} (hb:h[b]? = some (.cells cs)) (hd:cs[off]? = some (.d .aL))
  (H:I E ag R lits td s (h.set b (.cells (cs.set off (.own h.length 0)))++[.arr 0 ts []])):I E ag R lits td s h:=by
 replace H:=H.to;refine .of (.ji (fun c t dD h1 h2 h3 h4 h5=>?_) H);subst h2;have er:=aT hb
 let c':Cx:={ c with heap:=c.heap.set b (.cells (cs.set off (.own c.heap.length 0)))++[.arr 0 ts []] }
 have bL:c.own c.heap.length=none:=by
  cases ho:c.own c.heap.length with
  |none=>rfl
  |some p=>have:=(h3.br _ p.1 p.2 ho).2; omega
 have gF:c'.heap[c.heap.length]? = some (.arr 0 ts []):=by show (c.heap.set b _++_)[_]? = _; rw [List.getElem?_append_right (by simp)]; simp
 have Hq:c'.heap[b]? = some (.cells (cs.set off (.own c.heap.length 0))):=by
  show (c.heap.set b _++_)[b]? = _;rw [List.getElem?_append_left (by simp; omega),List.getElem?_set_self er]
 have wW:∀ i,i≠b→i<c.heap.length→c'.heap[i]? = c.heap[i]? := fun i hi hl=>by
  show (c.heap.set b _++_)[i]? = _;rw [List.getElem?_append_left (by simp; omega),List.getElem?_set_ne (Ne.symm hi)]
 have aX:Step c c':=⟨rfl,h3.bN,rfl,rfl,rfl,Nat.le_refl _,fun _ _ _=>rfl,fun i x n hi _=>⟨n,hi⟩,fun i bx hi=>by
  by_cases bu:i=b
  ·subst bu;rw [hb] at hi;cases hi;exact .inl ⟨_,Hq,rfl,by simp⟩
  ·exact kM hi (wW i bu (aT hi)) rfl⟩
 have aM:aK E.G c':=h3.next aX (fun i x n hi=>by
   have:=h3.br i x n hi;refine ⟨this.1,?_⟩;show i<(c.heap.set b _++_).length;simp; omega) h3.inj (fun i bx hi=>by
  by_cases fF:i=c.heap.length
  ·subst fF;rw [gF] at hi;cases hi;exact .inr ⟨gE,fun i e he=>by simp at he,.inl ⟨bL,rfl⟩⟩
  ·have ai:i<c.heap.length:=by
    have h1:=aT hi;have h2:c'.heap.length=c.heap.length+1:=by show (c.heap.set b _++_).length=_; simp
    omega
   by_cases bu:i=b
   ·subst bu;rw [Hq] at hi;cases hi;right;obtain ⟨blk,cap,vs,ty,g1,g2,g3,g4⟩:=h3.box i _ hb;refine ⟨blk,cap,vs,ty,g1,g2,by simpa using g3,fun j x v hx hv=>?_⟩;by_cases hj:j=off
    ·subst hj;rw [List.getElem?_set_self (aT hd)] at hx;cases hx;have:=g4 j _ v hd hv;cases this with
     |d _ _ hq=>cases hq; exact .gj _ _ ts gF bL
    ·rw [List.getElem?_set_ne (Ne.symm hj)] at hx;exact aX.vr (g4 j x v hx hv)
   ·rw [wW i bu ai] at hi
    exact .inl ⟨hi,rfl,fun _ _ _=>rfl⟩)
 exact ⟨c',t,dD,h1,rfl,aM,aX.vs h4,aX.cr h5,aX,fun _ => .refl _ _⟩
end
end Go.ax
end
