/- Several texts of mine, one behind the other. Conditions: as each says. -/
import Derived.Test.YthikfaephakahaaGreatDoorZM4
import Derived.Maps.RangeRun
set_option linter.unusedVariables false
set_option linter.unusedSimpArgs false
section
namespace Go.Eng
open Go Go.RowKit
def hidB (n:Nat) (B:List Nat) (i:Nat):Bool:=match Nat.ble n i with
 |true=>true
 |false=>memB i B
def hideH (n:Nat) (B:List Nat):Nat→List Box→List Box
 |_,[]=>[]
 |i,b::r=>match Nat.ble n i with
  |true=>[]
  |false=>(match memB i B with | true => .gone | false=>b)::hideH n B (i+1) r
theorem hideH_get {n:Nat} {B:List Nat}:∀ (i k:Nat) (h:List Box),hidB n B (i+k)=false→(hideH n B i h)[k]? = h[k]?
 |_,_,[],_=>rfl
 |i,0,b::r,hh=>by
  simp only [hidB,Nat.add_zero] at hh;split at hh
  ·cases hh
  ·rename_i q; simp only [hideH,q,hh]; rfl
 |i,k+1,b::r,hh=>by
  have hn:Nat.ble n i=false:=by
   cases q:Nat.ble n i with
   |false=>rfl
   |true =>
    have h1:=Nat.le_of_ble_eq_true q;have h2:Nat.ble n (i+(k+1))=true:=Nat.ble_eq_true_of_le (by omega);simp only [hidB,h2] at hh;cases hh
  simp only [hideH,hn,List.getElem?_cons_succ];exact hideH_get (i+1) k r (by rwa [show i+1+k=i+(k+1) by omega])
theorem hideH_hid {n:Nat} {B:List Nat}:∀ (i k:Nat) (h:List Box) (b:Box),hidB n B (i+k)=true→(hideH n B i h)[k]? = some b→b = .gone
 |_,_,[],_,_,h=>by simp [hideH] at h
 |i,k,b'::r,b,hh,h=>by
  simp only [hideH] at h;split at h
  ·simp at h
  ·rename_i q;cases k with
   |zero =>
    simp only [hidB,Nat.add_zero,q] at hh;simp only [hh,List.getElem?_cons_zero,Option.some.injEq] at h;exact h.symm
   |succ k=>exact hideH_hid (i+1) k r b (by rwa [show i+1+k=i+(k+1) by omega]) (by simpa using h)
def free1B (n:Nat) (B:List Nat):AV→Bool
 | .any=>true
 | .d _=>true
 | .eptr _ _=>true
 | .own b _=>match hidB n B b with | true=>false | false=>true
 | .ptr b _=>match hidB n B b with | true=>false | false=>true
 | .aptr b _ _ _=>match hidB n B b with | true=>false | false=>true
 | .map b=>match hidB n B b with | true=>false | false=>true
 |_=>false
def allB {β:Type} (f:β→Bool):List β→Bool
 | []=>true
 |a::l=>match f a with
  |true=>allB f l
  |false=>false
theorem allB_spec {β:Type} {f:β→Bool}:∀ {l:List β},allB f l=true→∀ (j:Nat) (x:β),l[j]? = some x→f x=true
 | [],_,_,_,h=>by simp at h
 |a::l,H,j,x,h=>by
  unfold allB at H;split at H
  ·rename_i q;cases j with
   |zero=>simp at h; subst h; exact q
   |succ j=>exact allB_spec H j x (by simpa using h)
  ·cases H
def freeB (n:Nat) (B:List Nat):AV→Bool
 | .agg l=>allB (free1B n B) l
 | .tup l=>allB (free1B n B) l
 | .fn _ a b=>match allB (free1B n B) a with
  |true=>allB (free1B n B) b
  |false=>false
 |x=>free1B n B x
def freeBoxB (n:Nat) (B:List Nat):Box→Bool
 | .cells cs=>allB (freeB n B) cs
 |_=>true
section
variable {G:List (Nat × DV)} {c c':Cx} {n:Nat} {B:List Nat}
theorem free1_vr (hk:∀ b,b<c.w.heap.size→¬ c.bad b→¬ c'.bad b∧c'.w.heap[b]? = c.w.heap[b]?) (hb:∀ i bx,hidB n B i=false→c.heap[i]? = some bx→c'.heap[i]? = some bx∧c'.own i=c.own i)
  {x:AV} {v:Value} (hf:free1B n B x=true) (hv:VR c x v):VR c' x v:=by
 cases hv with
 |any v=>exact .any v
 |d x v hx=>exact .d x v (hx.mono hk)
 |own b g sz l blk cap h1 h2 =>
  have hh:hidB n B b=false:=by simp only [free1B] at hf; split at hf <;> first | assumption | cases hf
  obtain ⟨k1,k2⟩:=hb _ _ hh h1;exact .own b g sz l blk cap k1 (k2.trans h2)
 |ownnil b g sz h1 h2 =>
  have hh:hidB n B b=false:=by simp only [free1B] at hf; split at hf <;> first | assumption | cases hf
  obtain ⟨k1,k2⟩:=hb _ _ hh h1;exact .ownnil b g sz k1 (k2.trans h2)
 |ownold b g g1 sz l v h1 h2 h3 =>
  have hh:hidB n B b=false:=by simp only [free1B] at hf; split at hf <;> first | assumption | cases hf
  obtain ⟨k1,k2⟩:=hb _ _ hh h1;exact .ownold b g g1 sz l _ k1 h2 h3
 |owngone b g v h1 h2 =>
  have hh:hidB n B b=false:=by simp only [free1B] at hf; split at hf <;> first | assumption | cases hf
  exact .owngone b g _ (hb _ _ hh h1).1 h2
 |ptr b off cs blk cap h1 h2 =>
  have hh:hidB n B b=false:=by simp only [free1B] at hf; split at hf <;> first | assumption | cases hf
  obtain ⟨k1,k2⟩:=hb _ _ hh h1;exact .ptr b off cs blk cap k1 (k2.trans h2)
 |ptrgone b off v h1 h2 =>
  have hh:hidB n B b=false:=by simp only [free1B] at hf; split at hf <;> first | assumption | cases hf
  exact .ptrgone b off _ (hb _ _ hh h1).1 h2
 |aptr b g i off sz l blk cap h1 h2 h3 =>
  have hh:hidB n B b=false:=by simp only [free1B] at hf; split at hf <;> first | assumption | cases hf
  obtain ⟨k1,k2⟩:=hb _ _ hh h1;exact .aptr b g i off sz l blk cap k1 (k2.trans h2) h3
 |aptrold b g g1 i off sz l v h1 h2 h3 =>
  have hh:hidB n B b=false:=by simp only [free1B] at hf; split at hf <;> first | assumption | cases hf
  exact .aptrold b g g1 i off sz l _ (hb _ _ hh h1).1 h2 h3
 |aptrgone b g i off v h1 h2 =>
  have hh:hidB n B b=false:=by simp only [free1B] at hf; split at hf <;> first | assumption | cases hf
  exact .aptrgone b g i off _ (hb _ _ hh h1).1 h2
 |eptr e off blk o f h1 h2 h3 h4 =>
  have hlt:blk<c.w.heap.size:=by
   obtain ⟨x,r,hx⟩:=List.exists_cons_of_ne_nil h2;exact World.block_lt_of_cell? _ _ (h3 0 x (by rw [hx]; rfl))
  have hk:=hk;have hkb:=hk blk hlt h1;exact .eptr e off blk o f hkb.1 h2 (fun j x hx=>by rw [World.cell?_of_block hkb.2]; exact h3 j x hx) (fun j x hx=>(h4 j x hx).mono hk)
 |map b es blk cap h1 h2 =>
  have hh:hidB n B b=false:=by simp only [free1B] at hf; split at hf <;> first | assumption | cases hf
  obtain ⟨k1,k2⟩:=hb _ _ hh h1;exact .map b es blk cap k1 (k2.trans h2)
 |mapgone b v h1 h2 =>
  have hh:hidB n B b=false:=by simp only [free1B] at hf; split at hf <;> first | assumption | cases hf
  exact .mapgone b _ (hb _ _ hh h1).1 h2
 |agg a vs h1 h2=>simp [free1B] at hf
 |tup a vs h1 h2=>simp [free1B] at hf
 |fn f a1 a2 v1 v2 h1 h2 h3 h4=>simp [free1B] at hf
theorem free_vr (hk:∀ b,b<c.w.heap.size→¬ c.bad b→¬ c'.bad b∧c'.w.heap[b]? = c.w.heap[b]?) (hb:∀ i bx,hidB n B i=false→c.heap[i]? = some bx→c'.heap[i]? = some bx∧c'.own i=c.own i)
  {x:AV} {v:Value} (hf:freeB n B x=true) (hv:VR c x v):VR c' x v:=by
 have one:∀ {l:List AV},allB (free1B n B) l=true→∀ (vs:List Value),VL c l vs→VL c' l vs:=fun hl vs h=>⟨h.1,fun j x v hx hv=>free1_vr hk hb (allB_spec hl j x hx) (h.2 j x v hx hv)⟩;unfold freeB at hf;split at hf
 ·obtain ⟨vs,rfl,h1⟩:=vr_agg_inv hv; exact vr_agg (one hf _ h1)
 ·obtain ⟨vs,rfl,h1⟩:=vr_tup_inv hv; exact vr_tup (one hf _ h1)
 ·split at hf
  ·rename_i q;obtain ⟨v1,v2,rfl,h1,h2⟩:=vr_fn hv;exact vr_fn_of (one q _ h1) (one hf _ h2)
  ·cases hf
 ·exact free1_vr hk hb hf hv
def Cx.hide (c:Cx) (n:Nat) (B:List Nat):Cx:=⟨fun i=>match hidB n B i with | true=>none | false=>c.own i,hideH n B 0 c.heap,fun b=>c.bar b∨∃ j m,hidB n B j=true∧c.own j=some (b,m),c.w⟩
theorem hide_own {i b m:Nat} (h:(c.hide n B).own i=some (b,m)):hidB n B i=false∧c.own i=some (b,m):=by
 simp only [Cx.hide] at h;split at h
 ·cases h
 ·rename_i q; exact ⟨q,h⟩
theorem own_hide {i:Nat} (h:hidB n B i=false):(c.hide n B).own i=c.own i:=by simp only [Cx.hide,h]
theorem hide_bad (b:Nat):(c.hide n B).bad b↔c.bad b:=by
 constructor
 ·rintro ((hb | ⟨j,m,-,hj⟩) | ⟨i,m,hi⟩)
  ·exact .inl hb
  ·exact .inr ⟨j,m,hj⟩
  ·exact .inr ⟨i,m,(hide_own hi).2⟩
 ·rintro (hb | ⟨j,m,hj⟩)
  ·exact .inl (.inl hb)
  ·cases hh:hidB n B j
   ·exact .inr ⟨j,m,(own_hide hh).trans hj⟩
   ·exact .inl (.inr ⟨j,m,hh,hj⟩)
theorem hide_badOf (b:Nat) (_:b<c.w.heap.size) (hn:¬ c.bad b):¬ (c.hide n B).bad b∧(c.hide n B).w.heap[b]? = c.w.heap[b]? := ⟨fun h=>hn ((hide_bad b).1 h),rfl⟩
theorem hide_at {i:Nat} {bx:Box} (hh:hidB n B i=false) (hi:c.heap[i]? = some bx):(c.hide n B).heap[i]? = some bx∧(c.hide n B).own i=c.own i :=
 ⟨by show (hideH n B 0 c.heap)[i]? = _; rw [hideH_get 0 i c.heap (by rwa [Nat.zero_add])]; exact hi,own_hide hh⟩
theorem hide_vr {x:AV} {v:Value} (hf:freeB n B x=true) (hv:VR c x v):VR (c.hide n B) x v:=free_vr hide_badOf (fun _ _=>hide_at) hf hv
theorem hide_vd {x:DV} {v:Value} (hv:VD c.bad c.w x v):VD (c.hide n B).bad (c.hide n B).w x v:=hv.mono hide_badOf
theorem BoxOk.free {i:Nat} {bx:Box} (hfree:freeBoxB n B bx=true) (hvr:∀ x v,freeB n B x=true→VR c x v→VR c' x v) (hvd:∀ x v,VD c.bad c.w x v→VD c'.bad c'.w x v) (hb:BoxOk c i bx) (ho:c'.own i=c.own i) (hw:∀ b n,c.own i=some (b,n)→c'.w.heap[b]? = c.w.heap[b]?):BoxOk c' i bx:=by
 cases bx with
 |cells cs =>
  obtain ⟨blk,cap,vs,ty,h1,h2,h3,h4⟩:=hb;exact ⟨blk,cap,vs,ty,ho.trans h1,(hw blk cap h1).trans h2,h3,fun j x v hx hv=>hvr x v (allB_spec hfree j x hx) (h4 j x v hx hv)⟩
 |arr g ts l =>
  obtain ⟨h0,h1,h2⟩:=hb;refine ⟨h0,h1,?_⟩;rcases h2 with ⟨h2,h3⟩ | ⟨blk,cap,vs,h2,h3,h4,h5,h6,h7⟩
  ·exact .inl ⟨ho.trans h2,h3⟩
  ·refine .inr ⟨blk,cap,vs,ho.trans h2,(hw blk cap h2).trans h3,h4,h5,h6,fun i j e x he hx=>?_⟩;obtain ⟨v,h8,h8',h9⟩:=h7 i j e x he hx;exact ⟨v,h8,h8',hvd x v h9⟩
 |map es =>
  obtain ⟨blk,cap,en,ck,h1,h2,h3,h4⟩:=hb;exact ⟨blk,cap,en,ck,ho.trans h1,(hw blk cap h1).trans h2,h3,fun j k x m hx hm=>⟨hvd _ _ (h4 j k x m hx hm).1,hvd _ _ (h4 j k x m hx hm).2⟩⟩
 |gone=>exact ho.trans hb
def closedB (n:Nat) (B:List Nat) (X:List Box):Bool:=allB (freeBoxB n B) X
theorem HOk.hide (ho:HOk G c) (hcl:closedB n B (hideH n B 0 c.heap)=true):HOk G (c.hide n B) where
 barlt:=fun b hb=>hb.elim (ho.barlt b) fun ⟨j,m,_,hj⟩=>(ho.ownlt j b m hj).1
 ownlt:=fun i b m hi=>by
  obtain ⟨h1,h2⟩:=hide_own hi;obtain ⟨h3,h4⟩:=ho.ownlt i b m h2;refine ⟨h3,?_⟩;have:(c.hide n B).heap[i]? = c.heap[i]? := hideH_get 0 i c.heap (by rwa [Nat.zero_add]);have h5:(c.hide n B).heap[i]? = some c.heap[i]:=by rw [this]; simp
  exact lt_of_getElem? h5
 inj:=fun i j b m k hi hj=>ho.inj i j b m k (hide_own hi).2 (hide_own hj).2
 sep:=fun i b m hi hb=>by
  obtain ⟨h1,h2⟩:=hide_own hi;rcases hb with hb | ⟨j,k,hj,hk⟩
  ·exact ho.sep i b m h2 hb
  ·have:=ho.inj i j b m k h2 hk;subst this;rw [h1] at hj;cases hj
 box:=fun i bx hi=>by
  cases hh:hidB n B i
  ·have e:(c.hide n B).heap[i]? = c.heap[i]? := hideH_get 0 i c.heap (by rwa [Nat.zero_add]);have hf:=allB_spec hcl i bx hi;rw [e] at hi;exact (ho.box i bx hi).free hf (fun _ _=>hide_vr) (fun _ _=>hide_vd) (own_hide hh) (fun _ _ _=>rfl)
  ·obtain rfl:=hideH_hid 0 i c.heap bx (by rwa [Nat.zero_add]) hi;show (c.hide n B).own i=none;simp only [Cx.hide,hh]
 glob:=fun g e hg=>hide_vr rfl (ho.glob g e hg)
def freeS (n:Nat) (B:List Nat):List AV→List AV
 | []=>[]
 |x::s=>(match freeB n B x with | true=>x | false => .any)::freeS n B s
def freeSK {α:Sort _} (n:Nat) (B:List Nat):List AV→(List AV→α)→α
 | [],k=>k []
 |x::s,k=>match freeB n B x with
  |true=>freeSK n B s fun s'=>k (x::s')
  |false=>freeSK n B s fun s'=>k (.any::s')
theorem freeSK_eq {α:Sort _}:∀ (s:List AV) (k:List AV→α),freeSK n B s k=k (freeS n B s)
 | [],_=>rfl
 |x::s,k=>by
  simp only [freeSK,freeS];split <;> rename_i q <;> rw [freeSK_eq s] <;> simp only [q]
theorem freeS_get:∀ (s:List AV) (i:Nat) (x:AV),(freeS n B s)[i]? = some x→x = .any∨(s[i]? = some x∧freeB n B x=true)
 | [],_,_,h=>by simp [freeS] at h
 |y::s,0,x,h=>by
  simp only [freeS,List.getElem?_cons_zero,Option.some.injEq] at h;split at h
  ·rename_i q; subst h; exact .inr ⟨rfl,q⟩
  ·exact .inl h.symm
 |y::s,i+1,x,h=>by
  rcases freeS_get s i x (by simpa [freeS] using h) with h | h
  ·exact .inl h
  ·exact .inr (by simpa using h)
theorem freeS_len:∀ (s:List AV),(freeS n B s).length=s.length
 | []=>rfl
 |_::s=>by simp [freeS,freeS_len s]
theorem VS.hide {s:List AV} {t:Array Value} (h:VS c s t):VS (c.hide n B) (freeS n B s) t:=by
 refine ⟨by rw [freeS_len]; exact h.1,fun i x v hx hv=>?_⟩;rcases freeS_get s i x hx with rfl | ⟨hx,hf⟩
 ·exact .any v
 ·exact hide_vr hf (h.2 i x v hx hv)
theorem OpOK.unhide {E:Env} {op:Op} {s:List AV} {h:List Box} {v:AV} (hcl:closedB n B (hideH n B 0 h)=true) (hf:freeB n B v=true) (H:OpOK E op (freeS n B s) (hideH n B 0 h) v (hideH n B 0 h)):OpOK E op s h v h:=by
 intro o c a hop hc ho hs;subst hc;obtain ⟨c1,u,d1,e1,k1,r1,st⟩:=H o (c.hide n B) a hop rfl (ho.hide hcl) hs.hide;have heap1:∀ i,hidB n B i=false→c1.heap[i]? = c.heap[i]? := fun i hh=>by rw [e1]; exact hideH_get 0 i c.heap (by rwa [Nat.zero_add])
 have own0:∀ i,hidB n B i=true→c1.own i=none:=fun i hh=>by
  cases hq:c1.heap[i]? with
  |none =>
   cases hw:c1.own i with
   |none=>rfl
   |some p =>
    have h2:=(k1.ownlt i p.1 p.2 hw).2;rw [List.getElem?_eq_none_iff] at hq;omega
  |some bx =>
   have hq':=hq;rw [e1] at hq';obtain rfl:=hideH_hid 0 i c.heap bx (by rwa [Nat.zero_add]) hq';exact k1.box i _ hq
 have own1:∀ i,hidB n B i=false→c1.own i=c.own i:=fun i hh=>by
  cases hq:c.heap[i]? with
  |none =>
   have n1:c.own i=none:=by
    cases hw:c.own i with
    |none=>rfl
    |some p=>have h2:=(ho.ownlt i p.1 p.2 hw).2; rw [List.getElem?_eq_none_iff] at hq; omega
   have hq1:c1.heap[i]? = none:=(heap1 i hh).trans hq;rw [n1];cases hw:c1.own i with
   |none=>rfl
   |some p=>have h2:=(k1.ownlt i p.1 p.2 hw).2; rw [List.getElem?_eq_none_iff] at hq1; omega
  |some bx =>
   have hb1:c1.heap[i]? = some bx:=(heap1 i hh).trans hq;obtain ⟨g1,g2⟩:=hide_at (n:=n) (B:=B) hh hq;have hs:=st.boxes i bx g1;cases bx with
   |cells cs =>
    rcases hs with ⟨cs',q1,q2,q3⟩ | q1
    ·exact q2.trans g2
    ·rw [hb1] at q1; cases q1
   |arr g sz l =>
    rcases hs with ⟨g',l',q1,q2⟩ | q1
    ·rw [hb1] at q1;cases q1;rcases q2 with q2 | ⟨-,-,q2⟩
     ·omega
     ·exact q2.trans g2
    ·rw [hb1] at q1; cases q1
   |map es =>
    rcases hs with ⟨es',q1,q2⟩ | q1
    ·exact q2.trans g2
    ·rw [hb1] at q1; cases q1
   |gone =>
    have a1:c1.own i=none:=k1.box i _ hb1;have a2:c.own i=none:=ho.box i _ hq;rw [a1,a2]
 have bad1:∀ b,c1.bad b↔c.bad b:=fun b=>by
  rw [← hide_bad (c:=c) (n:=n) (B:=B)];constructor
  ·rintro (h | ⟨i,m,h⟩)
   ·exact .inl (by rw [← st.bar]; exact h)
   ·cases hh:hidB n B i
    ·exact .inr ⟨i,m,by rw [own_hide hh,← own1 i hh]; exact h⟩
    ·rw [own0 i hh] at h; cases h
  ·rintro (h | ⟨i,m,h⟩)
   ·exact .inl (by rw [st.bar]; exact h)
   ·obtain ⟨g1,g2⟩:=hide_own h;exact .inr ⟨i,m,by rw [own1 i g1]; exact g2⟩
 have hst:Step c (c.inW c1.w):=⟨rfl,ho.barlt,st.os,st.tape,st.output,st.size,fun b hb hn=>st.keep b hb (fun i m hi=>hn i m (hide_own hi).2),fun i b m hi _=>⟨m,hi⟩,(Step.refl c ho.barlt).boxes⟩;have hk:∀ b,b<c1.w.heap.size→¬ c1.bad b→¬ (c.inW c1.w).bad b∧(c.inW c1.w).w.heap[b]? = c1.w.heap[b]? := fun b _ hn=>⟨fun h=>hn ((bad1 b).2 h),rfl⟩;have hbx:∀ i bx,hidB n B i=false→c1.heap[i]? = some bx→(c.inW c1.w).heap[i]? = some bx∧(c.inW c1.w).own i=c1.own i:=fun i bx hh hi=>⟨(heap1 i hh).symm.trans hi,(own1 i hh).symm⟩;have back:∀ x v,freeB n B x=true→VR c1 x v→VR (c.inW c1.w) x v:=fun x v hf hv=>free_vr hk hbx hf hv;have backd:∀ x v,VD c1.bad c1.w x v→VD (c.inW c1.w).bad (c.inW c1.w).w x v:=fun x v hv=>hv.mono hk;refine ⟨c.inW c1.w,u,d1,rfl,?_,back v u hf r1,hst⟩
 exact {
  barlt:=fun b hb=>Nat.lt_of_lt_of_le (ho.barlt b hb) st.size
  ownlt:=fun i b m hi=>⟨Nat.lt_of_lt_of_le (ho.ownlt i b m hi).1 st.size,(ho.ownlt i b m hi).2⟩
  inj:=ho.inj
  sep:=ho.sep
  box:=fun i bx hi=>by
   cases hh:hidB n B i
   ·have hb1:c1.heap[i]? = some bx:=(heap1 i hh).trans hi;have hfr:=allB_spec hcl i bx (by rw [← e1]; exact hb1);exact (k1.box i bx hb1).free hfr back backd (own1 i hh).symm (fun _ _ _=>rfl)
   ·refine (ho.box i bx hi).gen (fun _ _=>hst.vr) (fun _ _=>hst.vd) rfl (fun b m hn=>?_);refine st.keep b (ho.ownlt i b m hn).1 (fun j k hj=>?_);obtain ⟨g1,g2⟩:=hide_own hj;have:=ho.inj i j b m k hn g2;subst this;rw [hh] at g1;cases g1
  glob:=fun g e hg=>back _ _ rfl (k1.glob g e hg) }
end
section
variable {E:Env} {ops:Array Oper} {F:List Nat} {n:Nat} {B:List Nat} {X:List Box}
structure ChkG (ops:Array Oper) (F:List Nat) (J0:Nat):Prop where
 low:∀ j o e,ops[j]? = some o→e∈o.after→Region.binds .any e=true→e.on<j
 pair:∀ i j oi oj,i<j→ops[i]? = some oi→ops[j]? = some oj→confB ops oi oj=true→DepT ops i j
 spine:∀ i j oi oj,J0≤i→i<j→ops[i]? = some oi→ops[j]? = some oj→memB i F=false→memB j F=false→DepT ops i j
theorem ChkG.chk {J0:Nat} (h:ChkG ops F J0):Chk ops ops.size:=⟨h.low,h.pair,fun i j oi oj _ hj _ hoj=>by
 have:=(Array.getElem?_eq_some_iff.1 hoj).1; omega⟩
def chkG (ops:Array Oper) (F:List Nat):Bool :=
 let bs:=bits ops.toList []
 (List.range ops.size).all fun j=>match ops[j]? with
  |none=>true
  |some oj=>(oj.after.toList.all fun e => !Region.binds .any e||decide (e.on<j))&&(List.range j).all fun i=>match ops[i]? with
   |none=>true
   |some oi=>(bs.getD j 0).testBit i||(!confB ops oi oj&&(memB i F||memB j F))
theorem chkG_spec (h:chkG ops F=true):ChkG ops F 0:=by
 have hb:=bits_spec ops ops.toList [] rfl (fun j i h=>by simp at h);have hall:∀ j oj,ops[j]? = some oj→(oj.after.toList.all fun e => !Region.binds .any e||decide (e.on<j))=true∧∀ i oi,i<j→ops[i]? = some oi→((bits ops.toList []).getD j 0).testBit i=true∨(confB ops oi oj=false∧(memB i F=true∨memB j F=true)):=fun j oj hj=>by
  have hlt:j<ops.size:=(Array.getElem?_eq_some_iff.1 hj).1;have h1:=List.all_eq_true.1 h j (List.mem_range.2 hlt);simp only [hj,Bool.and_eq_true] at h1;refine ⟨h1.1,fun i oi hi hoi=>?_⟩;have h2:=List.all_eq_true.1 h1.2 i (List.mem_range.2 hi);simp only [hoi,Bool.or_eq_true,Bool.and_eq_true,Bool.not_eq_true'] at h2;exact h2
 refine ⟨fun j o e hj he hbd=>?_,fun i j oi oj hij hi hj hc=>?_,fun i j oi oj _ hij hi hj h1 h2=>?_⟩
 ·have:=List.all_eq_true.1 (hall j o hj).1 e (by simpa using he)
  simpa [hbd] using this
 ·rcases (hall j oj hj).2 i oi hij hi with h | ⟨h,-⟩
  ·exact hb j i h
  ·rw [hc] at h; cases h
 ·rcases (hall j oj hj).2 i oi hij hi with h | ⟨-,h | h⟩
  ·exact hb j i h
  ·rw [h1] at h; cases h
  ·rw [h2] at h; cases h
@[irreducible] def callP2 (E : Env) (f : FuncId) (ds : List DV) (h : List Box) (K1 : DV → Prop) (K2 : AV → List Box → Prop) : Prop :=
 (∃ r,PCalls E f ds (· = r)∧K1 r)∨∃ r h1,ACalls E f [] (ds.map .d) (fun a b=>a=r∧b=h1)∧K2 (reV [] h r) (reH [] h h1)
theorem callP2_own {E:Env} {f:FuncId} {ds:List DV} {h:List Box} {K1:DV→Prop} {K2:AV→List Box→Prop} {r:AV} {h1:List Box} {args:List AV} (hc:ACalls E f [] args (fun a b=>a=r∧b=h1)) (ha:args=ds.map .d) (hk:reVK [] h r fun v=>reHK [] h h1 fun h'=>K2 v h'):callP2 E f ds h K1 K2:=by
 unfold callP2;rw [reVK_eq,reHK_eq] at hk;exact .inr ⟨r,h1,ha ▸ hc,hk⟩
def GPlan (E:Env) (ops:Array Oper) (F:List Nat) (n:Nat) (B:List Nat) (X:List Box) (K:List AV→List Box→Prop):Nat→List Oper→List AV→List Box→Prop
 |_,[],s,h=>K s h
 |j,o::l,s,h=>match memB j F with
  |true=>∃ v,(∀ h',hideH n B 0 h'=X→OpFact E ops o s h' v)∧GPlan E ops F n B X K (j+1) l (putS s o.dst v) h
  |false=>∃ v h',SFact E ops o s h v h'∧AFact E o h v h'∧hideH n B 0 h'=X∧GPlan E ops F n B X K (j+1) l (putS s o.dst v) h'
structure GP (E:Env) (ops:Array Oper) (F:List Nat) (n:Nat) (B:List Nat) (X:List Box) (i0:Nat) (s:List AV) (pl:List (Oper × AV)) (hp:Nat→List Box):Prop where
 flo:∀ j o v,memB (i0+j) F=true→pl[j]? = some (o,v)→(∀ h',hideH n B 0 h'=X→OpFact E ops o (cur pl (fun k=>decide (k<j)) 0 s) h' v)∧hp (j+1)=hp j
 spi:∀ j o v,memB (i0+j) F=false→pl[j]? = some (o,v)→SFact E ops o (cur pl (fun k=>decide (k<j)) 0 s) (hp j) v (hp (j+1))∧AFact E o (hp j) v (hp (j+1))
 hid:∀ j,j≤pl.length→hideH n B 0 (hp j)=X
theorem GPlan.lay {K:List AV→List Box→Prop}:∀ {l:List Oper} {i0:Nat} {s:List AV} {h:List Box},hideH n B 0 h=X→GPlan E ops F n B X K i0 l s h →
  ∃ (pl:List (Oper × AV)) (hp:Nat→List Box),pl.map (·.1)=l∧hp 0=h∧K (cur pl (fun k=>decide (k<pl.length)) 0 s) (hp pl.length)∧GP E ops F n B X i0 s pl hp
 | [],i0,s,h,hX,H=>⟨[],fun _=>h,rfl,rfl,H,⟨fun j o v _ hj=>by simp at hj,fun j o v _ hj=>by simp at hj,fun j _=>hX⟩⟩
 |o::l,i0,s,h,hX,H=>by
  simp only [GPlan] at H;have shift:∀ (pl:List (Oper × AV)) (n:Nat) (s:List AV),cur pl (fun k=>decide (k<n+1)) (0+1) s=cur pl (fun k=>decide (k<n)) 0 s:=fun pl n s=>by
   rw [cur_shift 1]
   congr 1
   funext k;simp
  have build:∀ (v:AV) (h':List Box),hideH n B 0 h'=X→GPlan E ops F n B X K (i0+1) l (putS s o.dst v) h'→(memB i0 F=true→(∀ h',hideH n B 0 h'=X→OpFact E ops o s h' v)∧h'=h)→(memB i0 F=false→SFact E ops o s h v h'∧AFact E o h v h') →
    ∃ (pl:List (Oper × AV)) (hp:Nat→List Box),pl.map (·.1)=o::l∧hp 0=h∧K (cur pl (fun k=>decide (k<pl.length)) 0 s) (hp pl.length)∧GP E ops F n B X i0 s pl hp:=by
   intro v h' hX' H' f1 f2;obtain ⟨pl,hp,k1,k2,k3,k4⟩:=GPlan.lay hX' H';refine ⟨(o,v)::pl,fun n=>match n with | 0=>h | n+1=>hp n,by simp [k1],rfl,?_,⟨fun j o' v' hm hj=>?_,fun j o' v' hm hj=>?_,fun j hj=>?_⟩⟩
   ·rw [cur];simp only [List.length_cons,Nat.zero_lt_succ,decide_true,if_true];rw [shift];exact k3
   ·cases j with
    |zero =>
     simp at hj;obtain ⟨rfl,rfl⟩:=hj;rw [cur_none _ _ _ _ (fun k _=>decide_eq_false (by omega))];obtain ⟨g1,g2⟩:=f1 hm;exact ⟨g1,k2.trans g2⟩
    |succ j =>
     have:=k4.flo j o' v' (by rwa [show i0+1+j=i0+(j+1) by omega]) (by simpa using hj);rw [cur];simp only [Nat.zero_lt_succ,decide_true,if_true];rw [shift];exact this
   ·cases j with
    |zero =>
     simp at hj;obtain ⟨rfl,rfl⟩:=hj;rw [cur_none _ _ _ _ (fun k _=>decide_eq_false (by omega))];simp only [k2];exact f2 hm
    |succ j =>
     have:=k4.spi j o' v' (by rwa [show i0+1+j=i0+(j+1) by omega]) (by simpa using hj);rw [cur];simp only [Nat.zero_lt_succ,decide_true,if_true];rw [shift];exact this
   ·cases j with
    |zero=>exact hX
    |succ j=>exact k4.hid j (by simpa using hj)
  split at H
  ·rename_i q;obtain ⟨v,h1,h2⟩:=H;exact build v h hX h2 (fun _=>⟨h1,rfl⟩) (fun e=>by rw [q] at e; cases e)
  ·rename_i q;obtain ⟨v,h',h1,h1',h2,h3⟩:=H;exact build v h' h2 h3 (fun e=>by rw [q] at e; cases e) (fun _=>⟨h1,h1'⟩)
theorem phaseG {J0:Nat} (hc:ChkG ops F J0) {s0:List AV} {pl:List (Oper × AV)} {hp:Nat→List Box} (hpl:pl.map (·.1)=ops.toList) (hx:GP E ops F n B X 0 s0 pl hp)
  {Q:Exit→Act→World→Prop} {Kf:List AV→List Box→Prop} {c0:Cx} (hfin:Kf (cur pl (fun k=>decide (k<pl.length)) 0 s0) (hp ops.size))
  (hQ:∀ (a:Act) (c:Cx) (s:List AV) (h:List Box),Kf s h→HOk E.G c→c.heap=h→a.defers=[]→VS c s a.tmps→Step c0 c→Q .normal a c.w) :
  ∀ (f:Nat) (listed:Array Bool) (a:Act) (c:Cx) (J:Nat),J0≤J→J≤ops.size→HOk E.G c→c.heap=hp J→a.defers=[]→VS c (cur pl (Lst listed) 0 s0) a.tmps→Step c0 c→DC ops listed →
   (∀ i,i<ops.size→i<J→memB i F=false→Lst listed i=true)→(∀ i,J≤i→memB i F=false→Lst listed i=false)→(∀ i,ops.size≤i→Lst listed i=false)→cnt (Lst listed) ops.size≤f→wpAny E.P .any ops Q f listed a c.w:=by
 obtain ⟨hlen,hat⟩:=plan_at hpl;have same:∀ d J,J+d≤ops.size→(∀ i,J≤i→i<J+d→memB i F=true)→hp (J+d)=hp J:=by
  intro d
  induction d with
  |zero=>intro J _ _; rfl
  |succ d ih =>
   intro J hJ hm;have h1:=ih J (by omega) (fun i h1 h2=>hm i h1 (by omega));have hlt:J+d<pl.length:=by omega
   have h2:=(hx.flo (J+d) (pl[J+d]).1 (pl[J+d]).2 (by rw [Nat.zero_add]; exact hm (J+d) (by omega) (by omega)) (by simp [hlt])).2;rw [show J+(d+1)=J+d+1 by omega,h2,h1]
 have memcase:∀ i,memB i F=true∨memB i F=false:=fun i=>by cases memB i F <;> simp
 have done:∀ (listed:Array Bool) (a:Act) (c:Cx) (J:Nat),J≤ops.size→HOk E.G c→c.heap=hp J→a.defers=[]→VS c (cur pl (Lst listed) 0 s0) a.tmps→Step c0 c→(∀ i,J≤i→memB i F=false→Lst listed i=false)→(∀ i,ops.size≤i→Lst listed i=false)→(∀ i,i<ops.size→Lst listed i=true)→Q .normal a c.w:=by
  intro listed a c J hJ h1 h2 h3 h4 h5 hn ho hall
  have hs:hp (J+(ops.size - J))=hp J:=same (ops.size - J) J (by omega) (fun i g1 g2=>by
   rcases memcase i with h | h
   ·exact h
   ·have:=hn i g1 h; rw [hall i (by omega)] at this; cases this)
  rw [show J+(ops.size - J)=ops.size by omega] at hs;have e:cur pl (Lst listed) 0 s0=cur pl (fun k=>decide (k<pl.length)) 0 s0:=by
   congr 1
   funext i;rcases Nat.lt_or_ge i ops.size with h | h
   ·rw [hall i h]; simp [hlen,h]
   ·rw [ho i h]; simp [hlen]; omega
  rw [e] at h4;exact hQ a c _ _ hfin h1 (h2.trans hs.symm) h3 h4 h5
 intro f
 induction f with
 |zero =>
  intro listed a c J hJ0 hJ h1 h2 h3 h4 h5 hd hj1 hj2 ho hcnt;have hall:∀ i,i<ops.size→Lst listed i=true:=fun i hi=>cnt_zero hcnt hi;refine ⟨?_,done listed a c J hJ h1 h2 h3 h4 h5 hj2 ho hall⟩;apply List.eq_nil_iff_forall_not_mem.2;intro i hi;obtain ⟨k1,k2⟩:=ready_lst hd hi;rw [hall i k2] at k1;cases k1
 |succ f ih =>
  intro listed a c J hJ0 hJ h1 h2 h3 h4 h5 hd hj1 hj2 ho hcnt;refine ⟨fun hr=>?_,fun i hi=>?_⟩
  ·refine done listed a c J hJ h1 h2 h3 h4 h5 hj2 ho (fun i hi=>?_);cases hl:Lst listed i with
   |true=>rfl
   |false =>
    obtain ⟨k,-,hk⟩:=ready_some hc.chk hd hi hl;rw [hr] at hk;cases hk
  obtain ⟨hli,hin⟩:=ready_lst hd hi;obtain ⟨⟨o,v⟩,hov⟩:∃ p,pl[i]? = some p:=⟨pl[i]'(by omega),by rw [List.getElem?_eq_getElem]⟩;have hoi:=hat i o v hov;obtain ⟨hslots,hmask⟩:=slots_ok hc.pair hat hd hi hov h4;have hsz:i<listed.size:=by rw [hd.1]; exact hin
  have hset:=fun q=>lst_set (i:=q) hsz;have hcnt':cnt (Lst (listed.setIfInBounds i true)) ops.size≤f:=by
   have:=(cnt_set (L:=Lst listed) (L':=Lst (listed.setIfInBounds i true)) (j:=i) (fun q hq=>by rw [hset]; simp [hq]) hli (by rw [hset]; simp) ops.size).1 hin;omega
  have hdef:∀ u:Value,(a.put o.dst u).defers=[]:=fun u=>by cases hdst:o.dst <;> simp [Act.put,h3]
  have ho':∀ q,ops.size≤q→Lst (listed.setIfInBounds i true) q=false:=fun q hq=>by rw [hset,ho q hq]; simp; omega
  rcases memcase i with hm | hm
  ·have hfact:=(hx.flo i o v (by rw [Nat.zero_add]; exact hm) hov).1 (hp J) (hx.hid J (by omega));refine hfact c a h1 h2 h3 hmask i hoi _ _ (fun c' u k1 k2 k3 k4=>?_);refine ih _ _ c' J hJ0 hJ k1 k2 (hdef u) (hslots c' u (fun _ _=>k3.vr) k4) (h5.trans k3) (hd.set hi) (fun q hq hqJ hqm=>by rw [hset,hj1 q hq hqJ hqm]; simp) (fun q hq hqm=>?_) ho' hcnt';rw [hset,hj2 q hq hqm];have:q≠i:=fun e=>by subst e; rw [hm] at hqm; cases hqm
   simp [this]
  ·have hge:J≤i:=by
    rcases Nat.lt_or_ge i J with h | h
    ·have:=hj1 i hin h hm; rw [hli] at this; cases this
    ·exact h
   have hbet:∀ q,J≤q→q<i→memB q F=true:=fun q g1 g2=>by
    rcases memcase q with h | h
    ·exact h
    ·have hlt:q<ops.size:=by omega
     have h6:=hd.ready hi (hc.spine q i ops[q] o (by omega) g2 (by simp [hlt]) hoi h hm);rw [hj2 q g1 h] at h6;cases h6
   have hs:hp (J+(i - J))=hp J:=same (i - J) J (by omega) (fun q g1 g2=>hbet q g1 (by omega));rw [show J+(i - J)=i by omega] at hs;refine (hx.spi i o v (by rw [Nat.zero_add]; exact hm) hov).1 c a h1 (h2.trans hs.symm) h3 hmask i hoi _ _ (fun c' u k1 k2 k3 k4=>?_);refine ih _ _ c' (i+1) (by omega) (by omega) k1 k2 (hdef u) (hslots c' u (fun _ _=>k3.vr) k4) (h5.trans k3) (hd.set hi) (fun q hq hqJ hqm=>?_) (fun q hq hqm=>by rw [hset,hj2 q (by omega) hqm]; simp; omega) ho' hcnt';by_cases hqi:q=i
   ·subst hqi; rw [hset]; simp
   ·rcases Nat.lt_or_ge q J with h | h
    ·rw [hset,hj1 q hq h hqm]; simp
    ·have:=hbet q h (by omega); rw [hqm] at this; cases this
end
@[irreducible] def GWL (E : Env) (fid : FuncId) (R : Post) (ops : Array Oper) (k : List AItem) (F : List Nat) (n : Nat) (B : List Nat) (X : List Box) (_lits : List Nat) (j : Nat) (suf : List Oper) (s : List AV) (h : List Box) : Prop :=
 GPlan E ops F n B X (fun s2 h2=>AWL E fid R [] k s2 h2) j suf s h
section
variable {E:Env} {fid:FuncId} {R:Post} {ops:Array Oper} {k:List AItem} {F:List Nat} {n:Nat} {B:List Nat} {X:List Box} {lits:List Nat} {j:Nat} {suf:List Oper} {s:List AV} {h:List Box}
theorem GWL.is (H:GWL E fid R ops k F n B X lits j suf s h):GWL E fid R ops k F n B X lits j suf s h:=H
theorem GWL.to (H:GWL E fid R ops k F n B X lits j suf s h):GPlan E ops F n B X (fun s2 h2=>AWL E fid R [] k s2 h2) j suf s h:=by unfold GWL at H; exact H
end
def freeVK (n:Nat) (B:List Nat) (v:AV) (stop k:Prop):Prop:=match freeB n B v with
 |true=>k
 |false=>stop
def grunK (E:Env) (fid:FuncId) (R:Post) (ops:Array Oper) (k:List AItem) (F:List Nat) (n:Nat) (B:List Nat) (X:List Box):Nat→List Nat→Nat→List Oper→List AV→List Box→Prop
 | 0,lits,j,suf,s,h=>GWL E fid R ops k F n B X lits j suf s h
 |m+1,lits,j,suf,s,h =>
  match suf with
  | []=>AWL E fid R [] k s h
  |o::l=>maskK (keepOf ops o) 0 s fun so =>
   let stop:Prop:=GWL E fid R ops k F n B X lits j suf s h
   let next (v:AV):Prop:=putK s o.dst v fun s'=>GWL E fid R ops k F n B X lits (j+1) l s' h
   let run (v:AV):Prop:=putK s o.dst v fun s'=>grunK E fid R ops k F n B X m lits (j+1) l s' h
   let go:Prop:=match memB j F with
    |true=>match floatB o with
     |true=>opK E.T E.G o.op so h (plainSK E o.op so (sideMK E o.op so h (callK E.G so o stop fun _ _=>stop) fun _ _=>stop) fun _=>stop) fun v _=>run v
     |false=>match stillOp o.op with
      |true=>freeSK n B so fun sf=>opK E.T E.G o.op sf X (plainSK E o.op sf (sideMK E o.op sf X stop fun v _=>freeVK n B v stop (next v)) fun v=>freeVK n B v stop (run v)) fun v _=>freeVK n B v stop (run v)
      |false=>stop
    |false=>opK E.T E.G o.op so h (plainK E o.op so h (sideMK E o.op so h (callK E.G so o stop fun f avs=>allDK avs (callB1K E f avs h stop fun v h'=>hideH n B 0 h'=X∧putK s o.dst v fun s'=>GWL E fid R ops k F n B X lits (j+1) l s' h') fun ds=>callP2 E f ds h (fun v=>next (.d v)) fun v h'=>hideH n B 0 h'=X∧putK s o.dst v fun s'=>GWL E fid R ops k F n B X lits (j+1) l s' h')
      fun v h'=>hideH n B 0 h'=X∧putK s o.dst v fun s'=>GWL E fid R ops k F n B X lits (j+1) l s' h')
      fun v h'=>hideH n B 0 h'=X∧putK s o.dst v fun s'=>GWL E fid R ops k F n B X lits (j+1) l s' h')
     fun v h'=>hideH n B 0 h'=X∧putK s o.dst v fun s'=>GWL E fid R ops k F n B X lits (j+1) l s' h'
   guardK ops o.guard go stop fun d b=>getK so d stop fun
    | .d (.bool t)=>match memB d lits with
     |false=>caseB t (setK s d (.d (.bool true)) fun s'=>GWL E fid R ops k F n B X (d::lits) j suf s' h) (setK s d (.d (.bool false)) fun s'=>GWL E fid R ops k F n B X (d::lits) j suf s' h)
     |true=>match sameB t b with
      |true=>go
      |false=>run (.d .undef)
    | .d .undef=>run (.d .undef)
    |_=>stop
theorem grunK_sound {E:Env} (hE:E.OK) {fid:FuncId} {R:Post} {ops:Array Oper} {k:List AItem} {F:List Nat} {n:Nat} {B:List Nat} {X:List Box} (hcl:closedB n B X=true):∀ (m:Nat) (lits:List Nat) (j:Nat) (suf:List Oper) (s:List AV) (h:List Box),
  hideH n B 0 h=X→grunK E fid R ops k F n B X m lits j suf s h→GPlan E ops F n B X (fun s2 h2=>AWL E fid R [] k s2 h2) j suf s h:=by
 intro m
 induction m with
 |zero=>intro lits j suf s h _ H; exact GWL.to H
 |succ m ih =>
  intro lits j suf s h hX H;unfold grunK at H;split at H
  ·exact H
  rename_i o l;rw [maskK_eq] at H;have hso:∀ (d:Nat) (x:AV),(maskS (keepOf ops o) 0 s)[d]? = some x→x ≠ .any→s[d]? = some x:=fun d x hx hne=>by
   rcases maskS_get _ 0 d s x hx with h | ⟨-,h⟩
   ·exact absurd h hne
   ·exact h
  have stepB:∀ (v:AV),(memB j F=true→∀ h',hideH n B 0 h'=X→OpFact E ops o s h' v)→(memB j F=false→SFact E ops o s h v h∧AFact E o h v h)→GPlan E ops F n B X (fun s2 h2=>AWL E fid R [] k s2 h2) (j+1) l (putS s o.dst v) h→GPlan E ops F n B X (fun s2 h2=>AWL E fid R [] k s2 h2) j (o::l) s h:=by
   intro v h1 h2 h3;unfold GPlan;cases q:memB j F
   ·exact ⟨v,h,(h2 q).1,(h2 q).2,hX,h3⟩
   ·exact ⟨v,h1 q,h3⟩
  have stepS:∀ (v:AV) (h':List Box),memB j F=false→SFact E ops o s h v h'→AFact E o h v h'→hideH n B 0 h'=X→GPlan E ops F n B X (fun s2 h2=>AWL E fid R [] k s2 h2) (j+1) l (putS s o.dst v) h'→GPlan E ops F n B X (fun s2 h2=>AWL E fid R [] k s2 h2) j (o::l) s h:=by
   intro v h' q h1 h1' h2 h3;unfold GPlan;rw [q];exact ⟨v,h',h1,h1',h2,h3⟩
  have free:∀ {v:AV} {st kk:Prop},freeVK n B v st kk→st∨(freeB n B v=true∧kk):=fun {v st kk} H=>by
   unfold freeVK at H;split at H
   ·rename_i q; exact .inr ⟨q,H⟩
   ·exact .inl H
  dsimp only at H
  have go:Wanted ops o (maskS (keepOf ops o) 0 s) true→(match memB j F with
    |true=>match floatB o with
     |true=>opK E.T E.G o.op (maskS (keepOf ops o) 0 s) h (plainSK E o.op (maskS (keepOf ops o) 0 s) (sideMK E o.op (maskS (keepOf ops o) 0 s) h (callK E.G (maskS (keepOf ops o) 0 s) o (GWL E fid R ops k F n B X lits j (o::l) s h) fun _ _=>GWL E fid R ops k F n B X lits j (o::l) s h) fun _ _=>GWL E fid R ops k F n B X lits j (o::l) s h) fun _=>GWL E fid R ops k F n B X lits j (o::l) s h) fun v _=>putK s o.dst v fun s'=>grunK E fid R ops k F n B X m lits (j+1) l s' h
     |false=>match stillOp o.op with
      |true=>freeSK n B (maskS (keepOf ops o) 0 s) fun sf=>opK E.T E.G o.op sf X (plainSK E o.op sf (sideMK E o.op sf X (GWL E fid R ops k F n B X lits j (o::l) s h) fun v _=>freeVK n B v (GWL E fid R ops k F n B X lits j (o::l) s h) (putK s o.dst v fun s'=>GWL E fid R ops k F n B X lits (j+1) l s' h)) fun v=>freeVK n B v (GWL E fid R ops k F n B X lits j (o::l) s h) (putK s o.dst v fun s'=>grunK E fid R ops k F n B X m lits (j+1) l s' h)) fun v _=>freeVK n B v (GWL E fid R ops k F n B X lits j (o::l) s h) (putK s o.dst v fun s'=>grunK E fid R ops k F n B X m lits (j+1) l s' h)
      |false=>GWL E fid R ops k F n B X lits j (o::l) s h
    |false=>opK E.T E.G o.op (maskS (keepOf ops o) 0 s) h (plainK E o.op (maskS (keepOf ops o) 0 s) h (sideMK E o.op (maskS (keepOf ops o) 0 s) h (callK E.G (maskS (keepOf ops o) 0 s) o (GWL E fid R ops k F n B X lits j (o::l) s h) fun f avs=>allDK avs (callB1K E f avs h (GWL E fid R ops k F n B X lits j (o::l) s h) fun v h'=>hideH n B 0 h'=X∧putK s o.dst v fun s'=>GWL E fid R ops k F n B X lits (j+1) l s' h') fun ds=>callP2 E f ds h (fun v=>putK s o.dst (.d v) fun s'=>GWL E fid R ops k F n B X lits (j+1) l s' h) fun v h'=>hideH n B 0 h'=X∧putK s o.dst v fun s'=>GWL E fid R ops k F n B X lits (j+1) l s' h')
      fun v h'=>hideH n B 0 h'=X∧putK s o.dst v fun s'=>GWL E fid R ops k F n B X lits (j+1) l s' h')
      fun v h'=>hideH n B 0 h'=X∧putK s o.dst v fun s'=>GWL E fid R ops k F n B X lits (j+1) l s' h')
     fun v h'=>hideH n B 0 h'=X∧putK s o.dst v fun s'=>GWL E fid R ops k F n B X lits (j+1) l s' h')→GPlan E ops F n B X (fun s2 h2=>AWL E fid R [] k s2 h2) j (o::l) s h:=by
   intro hw H;split at H
   ·rename_i q;split at H
    ·rename_i hF;have hst:stillOp o.op=true:=by
      obtain ⟨dst,op,type,pos,after,guard⟩:=o;cases op <;> first | rfl | (cases guard <;> cases hF)
     have H':(match stillOp o.op with
      |true=>opK E.T E.G o.op (maskS (keepOf ops o) 0 s) h (plainSK E o.op (maskS (keepOf ops o) 0 s) (sideMK E o.op (maskS (keepOf ops o) 0 s) h (callK E.G (maskS (keepOf ops o) 0 s) o (GWL E fid R ops k F n B X lits j (o::l) s h) fun _ _=>GWL E fid R ops k F n B X lits j (o::l) s h) fun _ _=>GWL E fid R ops k F n B X lits j (o::l) s h) fun _=>GWL E fid R ops k F n B X lits j (o::l) s h) fun v _=>putK s o.dst v fun s'=>grunK E fid R ops k F n B X m lits (j+1) l s' h
      |false=>GWL E fid R ops k F n B X lits j (o::l) s h):=by rw [hst]; exact H
     rcases float_sound hF H' id with H | ⟨v,H,ho⟩
     ·exact GWL.to H
     ·rw [putK_eq] at H;exact stepB v (fun _ h' _=>OpFact.of hw (ho h')) (fun e=>by rw [q] at e; cases e) (ih _ _ _ _ _ hX H)
    split at H
    ·rename_i hst;rw [freeSK_eq] at H;have fin:∀ v,freeB n B v=true→OpOK E o.op (freeS n B (maskS (keepOf ops o) 0 s)) X v X→GPlan E ops F n B X (fun s2 h2=>AWL E fid R [] k s2 h2) (j+1) l (putS s o.dst v) h→GPlan E ops F n B X (fun s2 h2=>AWL E fid R [] k s2 h2) j (o::l) s h:=fun v hv hok H =>
      stepB v (fun _ h' e=>OpFact.of hw (OpOK.unhide (by rw [e]; exact hcl) hv (by rw [e]; exact hok))) (fun e=>by rw [q] at e; cases e) H
     rcases opK_sound hE (opK_still (K:=fun v=>freeVK n B v (GWL E fid R ops k F n B X lits j (o::l) s h) (putK s o.dst v fun s'=>grunK E fid R ops k F n B X m lits (j+1) l s' h)) hst H) with H | ⟨v,h',⟨rfl,H⟩,ho⟩
     ·rcases plainSK_sound hE H with H | ⟨v,H,ho⟩
      case inr =>
       rcases free H with H | ⟨hv,H⟩
       ·exact GWL.to H
       ·rw [putK_eq] at H;exact fin v hv (ho _) (ih _ _ _ _ _ hX H)
      rcases sideMK_sound hE (sideMK_still (K:=fun v=>freeVK n B v (GWL E fid R ops k F n B X lits j (o::l) s h) (putK s o.dst v fun s'=>GWL E fid R ops k F n B X lits (j+1) l s' h)) hst H) with H | ⟨v,h',⟨rfl,H⟩,ho⟩
      ·exact GWL.to H
      ·rcases free H with H | ⟨hv,H⟩
       ·exact GWL.to H
       ·rw [putK_eq] at H;exact fin v hv ho (GWL.to H)
     ·rcases free H with H | ⟨hv,H⟩
      ·exact GWL.to H
      ·rw [putK_eq] at H;exact fin v hv ho (ih _ _ _ _ _ hX H)
    ·exact GWL.to H
   ·rename_i q;by_cases hA:∃ t,o.op = .alloc t
    ·obtain ⟨t,e⟩:=hA;simp only [e,opK,plainK,plainSK,chgK,sideMK,sideK,appK,stillK,mapOpK,callK] at H;rcases getK_or H with H | ⟨i,hi,H⟩
     ·exact GWL.to H
     split at H
     ·rename_i q1 q2;rw [mapK_eq,snocK_eq,Nat.zero_add] at H;obtain ⟨e2,H⟩:=H;rw [putK_eq] at H;have hz:=Nat.eq_of_beq_eq_true q1;have hp:0<i.size:=blt_lt q2;exact stepS _ _ q (SFact.of hw (by rw [e]; exact ok_alloc hE hi hz hp)) (fun t' e' _=>by rw [e] at e'; cases e'; exact ⟨rfl,i,hi,hz,hp,rfl⟩) e2 (GWL.to H)
     ·exact GWL.to H
    have noA:∀ (h:List Box) (v:AV) (h':List Box),AFact E o h v h':=fun h v h' t e=>absurd ⟨t,e⟩ hA;have fin:∀ v h',OpOK E o.op (maskS (keepOf ops o) 0 s) h v h'→(hideH n B 0 h'=X∧putK s o.dst v fun s'=>GWL E fid R ops k F n B X lits (j+1) l s' h')→GPlan E ops F n B X (fun s2 h2=>AWL E fid R [] k s2 h2) j (o::l) s h:=fun v h' ho H=>by
     obtain ⟨e,H⟩:=H;rw [putK_eq] at H;exact stepS v h' q (SFact.of hw ho) (noA _ _ _) e (GWL.to H)
    rcases opK_sound hE H with H | ⟨v,h',H,ho⟩
    ·rcases plainK_sound hE H with H | ⟨v,h',H,ho⟩
     case inr=>exact fin v h' ho H
     rcases sideMK_sound hE H with H | ⟨v,h',H,ho⟩
     ·rcases callK_sound H with H | ⟨fx,args,ts,f,a1,av,a2,hop,hv,hav,H⟩
      ·exact GWL.to H
      rcases allDK_cases (a1++av++a2) (callB1K E f (a1++av++a2) h (GWL E fid R ops k F n B X lits j (o::l) s h) fun v h'=>hideH n B 0 h'=X∧putK s o.dst v fun s'=>GWL E fid R ops k F n B X lits (j+1) l s' h') (fun ds=>callP2 E f ds h (fun v=>putK s o.dst (.d v) fun s'=>GWL E fid R ops k F n B X lits (j+1) l s' h) fun v h'=>hideH n B 0 h'=X∧putK s o.dst v fun s'=>GWL E fid R ops k F n B X lits (j+1) l s' h') with ⟨ds,e1,e2⟩ | e2
      ·rw [e2] at H;unfold callP2 at H;rcases H with ⟨r,hc,hk⟩ | ⟨r,h1,hc,e,hk⟩
       ·rw [putK_eq] at hk;exact stepS _ h q (SFact.call hw hop hv hav e1 hc) (noA _ _ _) hX (GWL.to hk)
       ·rw [putK_eq] at hk;have e3:(a1++av++a2).map (unV [] h)=ds.map .d:=by rw [e1,List.map_map]; rfl
        exact stepS _ _ q (SFact.acall (sel:=[]) hw hop hv hav (by rw [e3]; exact hc) List.nodup_nil (fun j hj=>by simp at hj)) (noA _ _ _) e (GWL.to hk)
      ·rw [e2] at H;rcases callB1K_sound H with H | ⟨sel,r,hp,hc,hn,hlt,hk⟩
       ·exact GWL.to H
       obtain ⟨e,hk⟩:=hk;rw [putK_eq] at hk;exact stepS _ _ q (SFact.acall hw hop hv hav hc hn hlt) (noA _ _ _) e (GWL.to hk)
     ·exact fin v h' ho H
    ·exact fin v h' ho H
  have skip:Wanted ops o (maskS (keepOf ops o) 0 s) false→o.guard≠none→(putK s o.dst (.d .undef) fun s'=>grunK E fid R ops k F n B X m lits (j+1) l s' h)→GPlan E ops F n B X (fun s2 h2=>AWL E fid R [] k s2 h2) j (o::l) s h:=fun hw hgn H=>by
   rw [putK_eq] at H;exact stepB _ (fun _ h' _=>OpFact.skip hw) (fun _=>⟨SFact.skip hw,fun _ _ e=>absurd e hgn⟩) (ih _ _ _ _ _ hX H)
  unfold guardK at H;split at H
  ·rename_i hg;exact go (wanted_none hg) H
  ·rename_i jj b hg;rcases getK_or H with H | ⟨oj,hoj,H⟩
   ·exact GWL.to H
   split at H
   ·rename_i d hd;rcases getK_or H with H | ⟨x,hx,H⟩
    ·exact GWL.to H
    split at H
    ·rename_i t;have hxs:=hso d _ hx (by simp);split at H
     ·refine caseB_elim H (fun e H2=>?_) (fun e H2=>?_)
      ·subst e;rw [setK_eq,set_same hxs] at H2;exact GWL.to H2
      ·subst e;rw [setK_eq,set_same hxs] at H2;exact GWL.to H2
     ·have hw:=wanted_lit hg hoj hd hx;split at H
      ·rename_i q;have:(t==b)=true:=by cases t <;> cases b <;> first | rfl | cases q
       rw [this] at hw;exact go hw H
      ·rename_i q;have:(t==b)=false:=by cases t <;> cases b <;> first | rfl | cases q
       rw [this] at hw;exact skip hw (by rw [hg]; simp) H
    ·exact skip (wanted_undef hg hoj hd hx) (by rw [hg]; simp) H
    ·exact GWL.to H
   ·exact GWL.to H
section
variable {E:Env} {fid:FuncId} {R:Post} {ops:Array Oper} {k:List AItem} {F:List Nat} {n:Nat} {B:List Nat} {X:List Box} {lits:List Nat} {j:Nat} {suf:List Oper} {s:List AV} {h:List Box}
theorem GWL.run (hE:E.OK) (m:Nat) (hcl:closedB n B X=true) (hX:hideH n B 0 h=X) (H:grunK E fid R ops k F n B X m lits j suf s h):GWL E fid R ops k F n B X lits j suf s h:=by
 unfold GWL; exact grunK_sound hE hcl m lits j suf s h hX H
theorem gplan_conv:∀ {l:List Oper} {j:Nat} {s:List AV} {h:List Box},GPlan E ops F n B X (fun s2 h2=>AWL E fid R [] k s2 h2) j l s h→GPlan E ops F n B X (fun s2 h2=>AW E R.fx.f0 ⟨⟨fid,R.fx.rnd,R.fx.dfs⟩,k,s2⟩ R.fx.cls h2 R) j l s h
 | [],_,_,_,H=>AWL.to H
 |o::l,j,s,h,H=>by
  unfold GPlan at H ⊢;split at H
  ·obtain ⟨v,h1,h2⟩:=H; exact ⟨v,h1,gplan_conv h2⟩
  ·obtain ⟨v,h',h1,h1',h2,h3⟩:=H; exact ⟨v,h',h1,h1',h2,gplan_conv h3⟩
def hideHK {α:Sort _} (n:Nat) (B:List Nat):Nat→List Box→(List Box→α)→α
 |_,[],k=>k []
 |i,b::r,k=>match Nat.ble n i with
  |true=>k []
  |false=>match memB i B with
   |true=>hideHK n B (i+1) r fun r'=>k (.gone::r')
   |false=>hideHK n B (i+1) r fun r'=>k (b::r')
theorem hideHK_eq {α:Sort _}:∀ (i:Nat) (h:List Box) (k:List Box→α),hideHK n B i h k=k (hideH n B i h)
 |_,[],_=>rfl
 |i,b::r,k=>by
  simp only [hideHK,hideH];split
  ·rfl
  ·split <;> rename_i q <;> rw [hideHK_eq (i+1) r] <;> simp only [q]
theorem AWL.drawG (hE:E.OK) (hm:E.P.follows .mixedOrders=true) (F B:List Nat) (m:Nat) {id:Nat} (hchk:chkG ops F=true)
  (H:lenK h 0 fun n=>hideHK n B 0 h fun X=>match closedB n B X with
   |true=>GWL E fid R ops k F n B X [] 0 ops.toList s h
   |false=>False) (hx1:R.fx.rnd=none:=by rfl) (hx2:R.fx.dfs=[]:=by rfl):AWL E fid R lits (.code (.region id ops true)::k) s h:=by
 rw [lenK_eq,Nat.zero_add,hideHK_eq] at H;split at H
 case h_2=>exact H.elim
 rename_i hcl;obtain ⟨pl,hp,p1,p2,p3,p4⟩:=GPlan.lay (E:=E) (ops:=ops) (F:=F) (n:=h.length) (B:=B) rfl (gplan_conv (GWL.to H));obtain ⟨hlen,hat⟩:=plan_at p1;refine .of (AW.anyOrder hm hx1 hx2 fun c t Q hQ h1 h2 h4=>?_);rw [hlen] at p3;refine phaseG (chkG_spec hchk) p1 p4 (Kf:=fun s2 h2=>AW E R.fx.f0 ⟨⟨fid,R.fx.rnd,R.fx.dfs⟩,k,s2⟩ R.fx.cls h2 R) (by rw [hlen]; exact p3) hQ ops.size _ ⟨t,[]⟩ c 0 (Nat.le_refl _) (Nat.zero_le _) h1 (h2.trans p2.symm) rfl ?_ (Step.refl c h1.barlt) ⟨by simp,fun j o e _ hl=>by rw [lst0] at hl; cases hl⟩ (fun i _ hi=>by omega) (fun i _ _=>lst0 _ i) (fun i _=>lst0 _ i) (cnt0 _ _);rw [cur_none _ 0 s _ (fun i _=>lst0 _ _)];exact h4
end
end Go.Eng
end
section
namespace Go.Eng
open Go Go.RowKit
open Go.ChangeMaps (setBlock)
theorem relBox_ext {c0 c c':Cx} {i:Nat} (hh:∀ x,c.heap[i]? = some x→c'.heap[i]? = some x) (ho:∀ x,c.heap[i]? = some x→c'.own i=c.own i) {bx:Box} (h:RelBox c0 c i bx):RelBox c0 c' i bx:=by
 cases bx with
 |cells cs =>
  rcases h with ⟨cs',h1,h2,h3⟩ | h1
  ·exact .inl ⟨cs',hh _ h1,(ho _ h1).trans h2,h3⟩
  ·exact .inr (hh _ h1)
 |arr g sz l =>
  rcases h with ⟨g',l',h1,h2⟩ | h1
  ·refine .inl ⟨g',l',hh _ h1,?_⟩;rcases h2 with h2 | ⟨h2,h3,h4⟩
   ·exact .inl h2
   ·exact .inr ⟨h2,h3,(ho _ h1).trans h4⟩
  ·exact .inr (hh _ h1)
 |map es =>
  rcases h with ⟨es',h1,h2⟩ | h1
  ·exact .inl ⟨es',hh _ h1,(ho _ h1).trans h2⟩
  ·exact .inr (hh _ h1)
 |gone=>exact hh _ h
section
variable {G:List (Nat × DV)} {c:Cx} {bx:Box} {blk cap:Nat}
def Cx.lend (c:Cx) (bx:Box) (blk cap:Nat):Cx:=⟨fun i=>if i=c.heap.length then some (blk,cap) else c.own i,c.heap++[bx],fun b=>c.bar b∧b≠blk,c.w⟩
theorem lend_bad (ho:HOk G c) (hb:c.bar blk) (b:Nat):(c.lend bx blk cap).bad b↔c.bad b:=by
 constructor
 ·rintro (h | ⟨i,n,h⟩)
  ·exact .inl h.1
  ·simp only [Cx.lend] at h;split at h
   ·cases h; exact .inl hb
   ·exact .inr ⟨i,n,h⟩
 ·rintro (h | ⟨i,n,h⟩)
  ·by_cases e:b=blk
   ·subst e; exact .inr ⟨c.heap.length,cap,by simp [Cx.lend]⟩
   ·exact .inl ⟨h,e⟩
  ·refine .inr ⟨i,n,?_⟩;have:=(ho.ownlt i b n h).2;simp only [Cx.lend];rw [if_neg (by omega)];exact h
theorem lend_badOf (ho:HOk G c) (hb:c.bar blk) (b:Nat) (_:b<c.w.heap.size) (hn:¬ c.bad b):¬ (c.lend bx blk cap).bad b∧(c.lend bx blk cap).w.heap[b]? = c.w.heap[b]? := ⟨fun h=>hn ((lend_bad ho hb b).1 h),rfl⟩
theorem lend_heap {i:Nat} {b:Box} (hi:c.heap[i]? = some b):(c.lend bx blk cap).heap[i]? = c.heap[i]? := List.getElem?_append_left (lt_of_getElem? hi)
theorem lend_own {i:Nat} {b:Box} (hi:c.heap[i]? = some b):(c.lend bx blk cap).own i=c.own i:=by
 have:=lt_of_getElem? hi;simp only [Cx.lend];rw [if_neg (by omega)]
theorem lend_vr (ho:HOk G c) (hb:c.bar blk) {x:AV} {v:Value} (hv:VR c x v):VR (c.lend bx blk cap) x v:=vr_gen (lend_badOf ho hb) (fun _ _ hi=>boxStep_same hi (lend_heap hi) (lend_own hi)) hv
theorem lend_vd (ho:HOk G c) (hb:c.bar blk) {x:DV} {v:Value} (hv:VD c.bad c.w x v):VD (c.lend bx blk cap).bad (c.lend bx blk cap).w x v:=hv.mono (lend_badOf ho hb)
theorem HOk.lend (ho:HOk G c) (hb:c.bar blk) (hbx:BoxOk (c.lend bx blk cap) c.heap.length bx):HOk G (c.lend bx blk cap) where
 barlt:=fun b h=>ho.barlt b h.1
 ownlt:=fun i b n hi=>by
  have hl:(c.lend bx blk cap).heap.length=c.heap.length+1:=by simp [Cx.lend]
  simp only [Cx.lend] at hi;split at hi
  ·cases hi; exact ⟨ho.barlt _ hb,by omega⟩
  ·have:=ho.ownlt i b n hi; exact ⟨this.1,by omega⟩
 inj:=fun i j b n m hi hj=>by
  simp only [Cx.lend] at hi hj;split at hi <;> split at hj
  ·omega
  ·cases hi; exact absurd hb (ho.sep j _ m hj)
  ·cases hj; exact absurd hb (ho.sep i _ n hi)
  ·exact ho.inj i j b n m hi hj
 sep:=fun i b n hi h=>by
  simp only [Cx.lend] at hi;split at hi
  ·cases hi; exact h.2 rfl
  ·exact ho.sep i b n hi h.1
 box:=fun i b hx=>by
  rcases Nat.lt_trichotomy i c.heap.length with hi | rfl | hi
  ·have hx':c.heap[i]? = some b:=by
    have:(c.lend bx blk cap).heap[i]? = c.heap[i]? := List.getElem?_append_left hi
    rwa [this] at hx
   exact (ho.box i b hx').gen (fun _ _=>lend_vr ho hb) (fun _ _=>lend_vd ho hb) (lend_own hx') (fun _ _ _=>rfl)
  ·have:b=bx:=by simp [Cx.lend] at hx; exact hx.symm
   subst this;exact hbx
  ·rw [List.getElem?_eq_none (by simp [Cx.lend]; omega)] at hx;cases hx
 glob:=fun g e hg=>lend_vr ho hb (ho.glob g e hg)
theorem RelX.lend {c0:Cx} (hr:RelX c0 c) (hb:c0.w.heap.size≤blk):RelX c0 (c.lend bx blk cap) where
 lim:=hr.lim
 own0:=hr.own0
 bar:=fun b h=>⟨hr.bar b h,fun e=>by subst e; have:=hr.lim _ h; omega⟩
 barnew:=fun b h=>hr.barnew b h.1
 os:=hr.os
 tape:=hr.tape
 output:=hr.output
 size:=hr.size
 keep:=hr.keep
 newown:=fun i b n hi hlt=>by
  simp only [Cx.lend] at hi;split at hi
  ·cases hi; omega
  ·exact hr.newown i b n hi hlt
 boxes:=fun i bx hi=>relBox_ext (fun x hx=>(lend_heap hx).trans hx) (fun x hx=>lend_own hx) (hr.boxes i bx hi)
theorem RowsOK.lend {lim:Nat} {rows:List Ghost} (h:RowsOK lim c rows) (ho:HOk G c) (hb:c.bar blk) (hn:blk ∉ rows.flatMap Ghost.blks):RowsOK lim (c.lend bx blk cap) rows :=
 ⟨fun r hr=>(h.each r hr).gen (fun b hbr=>⟨⟨(h.each r hr).bar b hbr,fun e=>hn (List.mem_flatMap.2 ⟨r,hr,e ▸ hbr⟩)⟩,rfl⟩) (fun _ _=>lend_vd ho hb) (fun _ _=>lend_vr ho hb),h.nodup⟩
def Cx.bury (c:Cx) (b blk:Nat):Cx:=⟨fun i=>if i=b then none else c.own i,c.heap.set b .gone,fun x=>c.bar x∨x=blk,c.w⟩
variable {b:Nat}
theorem bury_own {i:Nat} {p:Nat × Nat} (hi:(c.bury b blk).own i=some p):i≠b∧c.own i=some p:=by
 simp only [Cx.bury] at hi;split at hi
 ·cases hi
 ·rename_i q; exact ⟨q,hi⟩
theorem bury_bad (hb:c.own b=some (blk,cap)) (x:Nat):(c.bury b blk).bad x↔c.bad x:=by
 constructor
 ·rintro ((h | h) | ⟨i,n,h⟩)
  ·exact .inl h
  ·subst h; exact .inr ⟨b,cap,hb⟩
  ·exact .inr ⟨i,n,(bury_own h).2⟩
 ·rintro (h | ⟨i,n,h⟩)
  ·exact .inl (.inl h)
  ·by_cases e:i=b
   ·subst e; rw [hb] at h; cases h; exact .inl (.inr rfl)
   ·exact .inr ⟨i,n,by simp only [Cx.bury,if_neg e]; exact h⟩
theorem bury_badOf (hb:c.own b=some (blk,cap)) (x:Nat) (_:x<c.w.heap.size) (hn:¬ c.bad x):¬ (c.bury b blk).bad x∧(c.bury b blk).w.heap[x]? = c.w.heap[x]? := ⟨fun h=>hn ((bury_bad hb x).1 h),rfl⟩
theorem bury_step {i:Nat} {y:Box} (hi:c.heap[i]? = some y):BoxStep c (c.bury b blk) i y:=by
 by_cases e:i=b
 ·subst e;have hg:(c.bury i blk).heap[i]? = some .gone:=List.getElem?_set_self (lt_of_getElem? hi);cases y with
  |cells cs=>exact .inr hg
  |arr g sz l=>exact .inr hg
  |map es=>exact .inr hg
  |gone=>exact hg
 ·exact boxStep_same hi (List.getElem?_set_ne (Ne.symm e)) (by simp only [Cx.bury,if_neg e])
theorem bury_vr (hb:c.own b=some (blk,cap)) {x:AV} {v:Value} (hv:VR c x v):VR (c.bury b blk) x v:=vr_gen (bury_badOf hb) (fun _ _=>bury_step) hv
theorem bury_vd (hb:c.own b=some (blk,cap)) {x:DV} {v:Value} (hv:VD c.bad c.w x v):VD (c.bury b blk).bad (c.bury b blk).w x v:=hv.mono (bury_badOf hb)
theorem HOk.bury (ho:HOk G c) (hb:c.own b=some (blk,cap)):HOk G (c.bury b blk) where
 barlt:=fun x h=>h.elim (ho.barlt x) fun e=>by subst e; exact (ho.ownlt b _ cap hb).1
 ownlt:=fun i x n hi=>by
  have:=ho.ownlt i x n (bury_own hi).2;refine ⟨this.1,?_⟩;show i<(c.heap.set b .gone).length;rw [List.length_set]; exact this.2
 inj:=fun i j x n m hi hj=>ho.inj i j x n m (bury_own hi).2 (bury_own hj).2
 sep:=fun i x n hi h=>by
  obtain ⟨h1,h2⟩:=bury_own hi;rcases h with h | h
  ·exact ho.sep i x n h2 h
  ·subst h; exact h1 (ho.inj i b x n cap h2 hb)
 box:=fun i y hx=>by
  by_cases e:i=b
  ·subst e;have hlt:i<c.heap.length:=(ho.ownlt i _ cap hb).2;have:(c.bury i blk).heap[i]? = some .gone:=List.getElem?_set_self hlt;rw [this] at hx;cases hx;show (c.bury i blk).own i=none;simp [Cx.bury]
  ·have hx':c.heap[i]? = some y:=by
    have:(c.bury b blk).heap[i]? = c.heap[i]? := List.getElem?_set_ne (Ne.symm e)
    rwa [this] at hx
   exact (ho.box i y hx').gen (fun _ _=>bury_vr hb) (fun _ _=>bury_vd hb) (by simp only [Cx.bury,if_neg e]) (fun _ _ _=>rfl)
 glob:=fun g e hg=>bury_vr hb (ho.glob g e hg)
theorem own_new {c0:Cx} (hr:RelX c0 c) (hb:c.own b=some (blk,cap)) (hn:c0.heap.length≤b):c0.w.heap.size≤blk:=by
 rcases Nat.lt_or_ge blk c0.w.heap.size with h | h
 ·obtain ⟨m,hm⟩:=hr.newown b blk cap hb h;have:=hr.own0 b _ hm;omega
 ·exact h
theorem RelX.bury {c0:Cx} (hr:RelX c0 c) (hb:c.own b=some (blk,cap)) (hn:c0.heap.length≤b):RelX c0 (c.bury b blk) where
 lim:=hr.lim
 own0:=hr.own0
 bar:=fun x h => .inl (hr.bar x h)
 barnew:=fun x h=>h.elim (hr.barnew x) fun e => .inr (by subst e; exact own_new hr hb hn)
 os:=hr.os
 tape:=hr.tape
 output:=hr.output
 size:=hr.size
 keep:=hr.keep
 newown:=fun i x n hi hlt=>hr.newown i x n (bury_own hi).2 hlt
 boxes:=fun i bx hi=>by
  have hib:i≠b:=fun e=>by have:=lt_of_getElem? hi; omega
  exact relBox_ext (fun x hx=>(List.getElem?_set_ne (Ne.symm hib)).trans hx) (fun x hx=>by simp only [Cx.bury,if_neg hib]) (hr.boxes i bx hi)
theorem RowsOK.bury {lim:Nat} {rows:List Ghost} (h:RowsOK lim c rows) (hb:c.own b=some (blk,cap)):RowsOK lim (c.bury b blk) rows :=
 ⟨fun r hr=>(h.each r hr).gen (fun x hx=>⟨.inl ((h.each r hr).bar x hx),rfl⟩) (fun _ _=>bury_vd hb) (fun _ _=>bury_vr hb),h.nodup⟩
theorem own_notin {lim:Nat} {rows:List Ghost} (h:RowsOK lim c rows) (ho:HOk G c) (hb:c.own b=some (blk,cap)):blk ∉ rows.flatMap Ghost.blks:=fun hm=>by
 obtain ⟨r,hr,hx⟩:=List.mem_flatMap.1 hm;exact ho.sep b blk cap hb ((h.each r hr).bar blk hx)
theorem nodup_mid {α:Type} {a b c:List α} (h:(a++b++c).Nodup):(a++c).Nodup∧∀ x∈b,x ∉ a++c:=by
 have hp:(a++b++c).Perm (b++(a++c)):=by
  rw [List.append_assoc,← List.append_assoc b a c];refine (List.Perm.trans ?_ (List.Perm.append_right c List.perm_append_comm));rw [List.append_assoc]
 have h2:=(hp.nodup_iff).1 h;rw [List.nodup_append] at h2;exact ⟨h2.2.1,fun x hx hx'=>h2.2.2 x hx x hx' rfl⟩
theorem RowsOK.without {lim:Nat} {g1 g2:List Ghost} {g:Ghost} (h:RowsOK lim c (g1++g::g2)):RowsOK lim c (g1++g2)∧GhostOK lim c g∧∀ x∈g.blks,x ∉ (g1++g2).flatMap Ghost.blks:=by
 have hn:=h.nodup;rw [List.flatMap_append,List.flatMap_cons,← List.append_assoc] at hn;obtain ⟨h1,h2⟩:=nodup_mid hn;rw [← List.flatMap_append] at h1 h2;refine ⟨⟨fun r hr=>h.each r ?_,h1⟩,h.each g (by simp),h2⟩;rcases List.mem_append.1 hr with hr | hr
 ·exact List.mem_append_left _ hr
 ·exact List.mem_append_right _ (List.mem_cons_of_mem _ hr)
end
theorem RowsX.without {lim:Nat} {c:Cx} {g1 g2 L:List Ghost} {g:Ghost} (h:RowsX lim c (g1++g::g2) L):RowsX lim c (g1++g2) L∧GhostOK lim c g∧∀ x∈g.blks,x ∉ ((g1++g2)++L).flatMap Ghost.blks:=by
 have h1:=h.all;rw [List.append_assoc,List.cons_append] at h1;obtain ⟨k1,k2,k3⟩:=h1.without;rw [← List.append_assoc] at k1 k3;refine ⟨⟨k1,fun x hx=>h.flat x ?_⟩,k2,k3⟩;rcases List.mem_append.1 hx with hx | hx
 ·exact List.mem_append_left _ hx
 ·exact List.mem_append_right _ (List.mem_cons_of_mem _ hx)
theorem vs_same {c:Cx} {s:List AV} {t:Array Value} (hv:VS c s t) {d:Nat} {x:AV} (hx:∀ v,t[d]? = some v→VR c x v):VS c (s.set d x) t:=by
 refine ⟨by simpa using hv.1,fun i y u hy hu=>?_⟩;by_cases hd:d=i
 ·subst hd;have hl:d<s.length:=by have:=lt_of_getElem? hy; simpa using this
  rw [List.getElem?_set_self hl] at hy;cases hy;exact hx u hu
 ·rw [List.getElem?_set_ne hd] at hy;exact hv.2 i y u hy hu
section
variable {E:Env} {fid:FuncId} {R:Post} {td:List AItem} {s:List AV} {h:List Box} {lits:List Nat}
theorem AWL.borrow (d:Nat) {rw_:Row} {n:Nat} {g1 g2:List Ghost} (hrows:R.rows=g1 ++ .row rw_::g2) (hd:s[d]? = some (.d (.raw (.slice (some ⟨rw_.blk,0,none⟩) n rw_.cap)))) (hn:n=rw_.l.length)
  (H:AWL E fid ⟨R.n,R.Q,g1++g2,R.fx⟩ lits td (s.set d (.own h.length 0)) (h++[.arr 0 rw_.ts rw_.l])):AWL E fid R lits td s h:=by
 replace H:=H.to;refine .of ?_;unfold AW at H ⊢;intro c0 c t ts' h0 h1 h2 h3 hr hrow h4 h5 cs;subst h2;rw [hrows] at hrow;obtain ⟨r1,r2,r3⟩:=hrow.without;have r2:RowOK c0.w.heap.size c rw_:=r2;have hnot:rw_.blk ∉ ((g1++g2)++R.fx.loops).flatMap Ghost.blks:=r3 _ (by simp [Ghost.blks]);have hat:(c.lend (.arr 0 rw_.ts rw_.l) rw_.blk rw_.cap).heap[c.heap.length]? = some (.arr 0 rw_.ts rw_.l):=by simp [Cx.lend]
 have hown:(c.lend (.arr 0 rw_.ts rw_.l) rw_.blk rw_.cap).own c.heap.length=some (rw_.blk,rw_.cap):=by simp [Cx.lend]
 have hok:HOk E.G (c.lend (.arr 0 rw_.ts rw_.l) rw_.blk rw_.cap):=h3.lend r2.bar (by
  obtain ⟨q1,q2,q3,q4,vs,q5,q6,q7,q8,q9⟩:=r2;refine ⟨q3,q4,.inr ⟨rw_.blk,rw_.cap,vs,hown,q5,q6,q7,q8,fun i j e x he hx=>?_⟩⟩;obtain ⟨v,k1,k2,k3⟩:=q9 i j e x he hx
  exact ⟨v,k1,k2,lend_vd h3 q1 k3⟩)
 have hvs:VS (c.lend (.arr 0 rw_.ts rw_.l) rw_.blk rw_.cap) s t:=⟨h4.1,fun i x v hx hv=>lend_vr h3 r2.bar (h4.2 i x v hx hv)⟩
 have:=H c0 (c.lend (.arr 0 rw_.ts rw_.l) rw_.blk rw_.cap) t ts' h0 h1 rfl hok (hr.lend r2.new) ⟨r1.all.lend h3 r2.bar hnot,r1.flat⟩ (vs_same hvs fun v hv=>by
  have hv':=h4.2 d _ v hd hv;cases hv' with
  |d _ _ hq =>
   cases hq;subst hn
   exact .own _ 0 rw_.ts rw_.l rw_.blk rw_.cap hat hown) (cr_gen (fun _ _=>lend_vr h3 r2.bar) h5) cs
 exact this
theorem AWL.bury (d b:Nat) {g:Nat} {ts:Nat × Nat} {l:List DV} (hb:h[b]? = some (.arr g ts l)) (hnb:R.n≤b) (hd:s[d]? = some (.own b g))
  (H0:l=[]→AWL E fid R lits td (s.set d (.d (.raw (.slice none 0 0)))) (h.set b .gone))
  (H:∀ blk cap,AWL E fid ⟨R.n,R.Q,.row ⟨blk,cap,ts,l⟩::R.rows,R.fx⟩ lits td (s.set d (.d (.raw (.slice (some ⟨blk,0,none⟩) l.length cap)))) (h.set b .gone)):AWL E fid R lits td s h:=by
 refine .of ?_;unfold AW;intro c0 c t ts' h0 h1 h2 h3 hr hrow h4 h5 cs;subst h2;obtain ⟨q0,q1,q2⟩:=h3.box b _ hb;rcases q2 with ⟨q2,q3⟩ | ⟨blk,cap,vs,q2,q3,q4,q5,q6,q7⟩
 ·subst q3;have H:=(H0 rfl).to
  let c':Cx:={ c with own:=fun i=>if i=b then none else c.own i,heap:=c.heap.set b .gone }
  have hgone:c'.heap[b]? = some .gone:=List.getElem?_set_self (lt_of_getElem? hb);have hown:∀ i,c'.own i=c.own i:=fun i=>by
   simp only [c'];split
   ·rename_i e; subst e; exact q2.symm
   ·rfl
  have hbad:∀ x,c'.bad x↔c.bad x:=fun x=>by
   constructor
   ·rintro (h | ⟨i,n,h⟩)
    ·exact .inl h
    ·exact .inr ⟨i,n,(hown i) ▸ h⟩
   ·rintro (h | ⟨i,n,h⟩)
    ·exact .inl h
    ·exact .inr ⟨i,n,(hown i).trans h⟩
  have hst:Step c c':=⟨rfl,h3.barlt,rfl,rfl,rfl,Nat.le_refl _,fun _ _ _=>rfl,fun i x n hi _=>⟨n,(hown i) ▸ hi⟩,fun i bx hi=>by
   by_cases e:i=b
   ·subst e;rw [hb] at hi;cases hi;exact .inr hgone
   ·exact boxStep_same hi (List.getElem?_set_ne (Ne.symm e)) (hown i)⟩
  have hok:HOk E.G c':=h3.next hst (fun i x n hi=>by
    have:=h3.ownlt i x n ((hown i) ▸ hi);refine ⟨this.1,?_⟩;show i<(c.heap.set b .gone).length;rw [List.length_set]; exact this.2) (fun i j x n m hi hj=>h3.inj i j x n m ((hown i) ▸ hi) ((hown j) ▸ hj)) (fun i bx hi=>by
   by_cases e:i=b
   ·subst e;rw [hgone] at hi;cases hi;right;show c'.own i=none;simp [c']
   ·have:c'.heap[i]? = c.heap[i]? := List.getElem?_set_ne (Ne.symm e);rw [this] at hi
    exact .inl ⟨hi,hown i,fun _ _ _=>rfl⟩)
  unfold AW at H;refine H c0 c' t ts' h0 h1 rfl hok (hr.step hst) (hrow.step h3 hst) (vs_same (hst.vs h4) fun v hv=>?_) (hst.cr h5) cs;have hv':=h4.2 d _ v hd hv;rcases vr_own hb hv' with ⟨blk,cap,r1,rfl⟩ | ⟨-,rfl,-⟩
  ·rw [q2] at r1; cases r1
  ·exact .d _ _ (.raw _ rfl)
 ·have H:=(H blk cap).to;unfold AW at H;have hnew:=own_new hr q2 (by omega);have hok:=h3.bury q2;refine H c0 (c.bury b blk) t ts' h0 h1 rfl hok (hr.bury q2 (by omega)) ⟨⟨fun r hmr=>?_,?_⟩,fun g hg=>(List.mem_cons.1 hg).elim (fun e=>by subst e; trivial) (hrow.flat g)⟩ (vs_same ⟨h4.1,fun i x v hx hv=>bury_vr q2 (h4.2 i x v hx hv)⟩ fun v hv=>?_) (cr_gen (fun _ _=>bury_vr q2) h5) cs
  ·rcases List.mem_cons.1 hmr with rfl | hmr
   ·show RowOK c0.w.heap.size (c.bury b blk) ⟨blk,cap,ts,l⟩
    exact ⟨Or.inr rfl,hnew,q0,q1,vs,q3,q4,q5,q6,fun i j e x he hx=>by
     obtain ⟨v,k1,k2,k3⟩:=q7 i j e x he hx
     exact ⟨v,k1,k2,bury_vd q2 k3⟩⟩
   ·exact (hrow.all.bury q2).each r hmr
  ·rw [List.cons_append,List.flatMap_cons];refine List.nodup_append.2 ⟨by simp [Ghost.blks],hrow.all.nodup,fun x hx y hy e=>?_⟩;simp [Ghost.blks] at hx;subst hx; subst e;exact own_notin hrow.all h3 q2 hy
  ·have hv':=h4.2 d _ v hd hv;rcases vr_own hb hv' with ⟨blk',cap',r1,rfl⟩ | ⟨rfl,rfl,r1⟩
   ·rw [q2] at r1; cases r1;exact .d _ _ (.raw _ rfl)
   ·rw [q2] at r1; cases r1
end
end Go.Eng
end
section
namespace Go.Eng
open Go Go.RowKit
open Go.ChangeMaps (setBlock)
section
variable {G:List (Nat × DV)} {c:Cx} {r:Nat} {w':World}
structure Touch (c:Cx) (r:Nat) (w':World):Prop where
 bar:c.bar r
 os:w'.os=c.w.os
 tape:w'.tape=c.w.tape
 output:w'.output=c.w.output
 size:w'.heap.size=c.w.heap.size
 other:∀ b,b≠r→w'.heap[b]? = c.w.heap[b]?
theorem Touch.badOf (h:Touch c r w') (b:Nat) (_:b<c.w.heap.size) (hn:¬ c.bad b):¬ (c.inW w').bad b∧(c.inW w').w.heap[b]? = c.w.heap[b]? :=
 ⟨hn,h.other b (fun e=>by subst e; exact hn (.inl h.bar))⟩
theorem Touch.vr (h:Touch c r w') {x:AV} {v:Value} (hv:VR c x v):VR (c.inW w') x v:=vr_gen h.badOf (fun _ _ hi=>boxStep_same hi rfl rfl) hv
theorem Touch.vd (h:Touch c r w') {x:DV} {v:Value} (hv:VD c.bad c.w x v):VD (c.inW w').bad (c.inW w').w x v:=hv.mono h.badOf
theorem Touch.hok (h:Touch c r w') (ho:HOk G c):HOk G (c.inW w') where
 barlt:=fun b hb=>by show b<w'.heap.size; rw [h.size]; exact ho.barlt b hb
 ownlt:=fun i b n hi=>by show b<w'.heap.size∧_; rw [h.size]; exact ho.ownlt i b n hi
 inj:=ho.inj
 sep:=ho.sep
 box:=fun i bx hi=>(ho.box i bx hi).gen (fun _ _=>h.vr) (fun _ _=>h.vd) rfl (fun b n hn=>h.other b (fun e=>by subst e; exact ho.sep i _ n hn h.bar))
 glob:=fun g e hg=>h.vr (ho.glob g e hg)
theorem Touch.rel (h:Touch c r w') {c0:Cx} (hr:RelX c0 c) (hl:c0.w.heap.size≤r):RelX c0 (c.inW w') where
 lim:=hr.lim
 own0:=hr.own0
 bar:=hr.bar
 barnew:=hr.barnew
 os:=h.os.trans hr.os
 tape:=h.tape.trans hr.tape
 output:=h.output.trans hr.output
 size:=by show _≤w'.heap.size; rw [h.size]; exact hr.size
 keep:=fun b hb hn=>(h.other b (by omega)).trans (hr.keep b hb hn)
 newown:=hr.newown
 boxes:=fun i bx hi=>relBox_ext (fun _ hx=>hx) (fun _ _=>rfl) (hr.boxes i bx hi)
theorem Touch.rows (h:Touch c r w') {lim:Nat} {rows:List Ghost} (hr:RowsOK lim c rows) (hn:r ∉ rows.flatMap Ghost.blks):RowsOK lim (c.inW w') rows :=
 ⟨fun g hg=>(hr.each g hg).gen (fun b hb=>⟨(hr.each g hg).bar b hb,h.other b (fun e=>hn (List.mem_flatMap.2 ⟨g,hg,e ▸ hb⟩))⟩) (fun _ _=>h.vd) (fun _ _=>h.vr),hr.nodup⟩
variable {o:Obj}
theorem RelX.veil {c0:Cx} (hr:RelX c0 c):RelX c0 (c.veil o) where
 lim:=hr.lim
 own0:=hr.own0
 bar:=fun b h => .inl (hr.bar b h)
 barnew:=fun b h=>h.elim (hr.barnew b) fun e => .inr (by rw [e]; exact hr.size)
 os:=hr.os
 tape:=hr.tape
 output:=hr.output
 size:=by have:=hr.size; show _≤(c.w.alloc o).heap.size; simp; omega
 keep:=fun b hb hn=>by
  show (c.w.alloc o).heap[b]? = _;rw [Below.heap_alloc c.w o b (by have:=hr.size; omega)];exact hr.keep b hb hn
 newown:=hr.newown
 boxes:=fun i bx hi=>relBox_ext (fun _ hx=>hx) (fun _ _=>rfl) (hr.boxes i bx hi)
theorem RowsOK.veil {lim:Nat} {rows:List Ghost} (hr:RowsOK lim c rows) (ho:HOk G c):RowsOK lim (c.veil o) rows :=
 ⟨fun g hg=>(hr.each g hg).gen (fun b hb=>⟨.inl ((hr.each g hg).bar b hb),Below.heap_alloc c.w o b (ho.barlt _ ((hr.each g hg).bar b hb))⟩) (fun _ _=>veil_vd) (fun _ _=>veil_vr),hr.nodup⟩
end
theorem bornOf {en:Array MapEntry} {j:Nat} (h:j<en.size):((en[j]?).map (·.born)).getD 0=en[j].born:=by simp [h]
theorem born_inj {en:Array MapEntry} (hn:(en.toList.map (·.born)).Nodup) {i j:Nat} (hi:i<en.size) (hj:j<en.size) (h:en[i].born=en[j].born):i=j:=by
 have h1:(en.toList.map (·.born))[i]? = some en[i].born:=by simp [hi]
 have h2:(en.toList.map (·.born))[j]? = some en[i].born:=by simp [hj,h]
 exact nodup_inj hn h1 h2
theorem left_iff {en:Array MapEntry} (hn:(en.toList.map (·.born)).Nodup) {seen:List Nat} (hlt:∀ j∈seen,j<en.size) {j:Nat} (hj:j<en.size) :
  en[j]∈(leftOf en ((seen.map fun j=>((en[j]?).map (·.born)).getD 0).toArray)).toList↔j ∉ seen:=by
 simp only [leftOf,Array.toList_filter,List.mem_filter,List.contains_toArray,Bool.not_eq_true',List.contains_eq_mem,decide_eq_false_iff_not,List.mem_map,not_exists,not_and];constructor
 ·rintro ⟨-,h⟩ hm;exact h j hm (bornOf hj)
 ·intro h;refine ⟨by simp,fun k hk e=>?_⟩;rw [bornOf (hlt k hk)] at e;exact h (born_inj hn (hlt k hk) hj e ▸ hk)
section
variable {E:Env} {fid:FuncId} {R:Post} {s:List AV} {h:List Box} {lits:List Nat} {ops:Array Oper} {o:Oper} {l:List Oper} {k:List AItem}
theorem AWL.range (hE:E.OK) {t kt e b:Nat} {m:Operand} {es:List (DV × DV)} {ti:TInfo} (hg:o.guard=none) (hop:o.op = .range t m) (hti:E.T[t]? = some ti) (hk:ti.k = .map kt e) (hm:EvOK E.G s m (.map b)) (hb:h[b]? = some (.map es)) (hnb:R.n≤b)
  (H:∀ i:Iter,i.seen=[]→i.es=es→i.since≤i.ck→AWL E fid ⟨R.n,R.Q,.iter i::R.rows,R.fx⟩ lits (.reg ops l::k) (putS s o.dst (.d (.raw (.pointer (some ⟨i.r,0,none⟩))))) (h.set b .gone)):AWL E fid R lits (.reg ops (o::l)::k) s h:=by
 refine .of ?_;unfold AW;intro c0 c t' ts' h0 h1 h2 h3 hr hrow h4 h5 cs;subst h2;obtain ⟨i,hi,hcn,hok⟩:=reg_at (h1 _ (List.mem_cons_self ..));obtain ⟨tyi,d,g1,g2,g3,-⟩:=tinfo_inv (hE.types t ti hti);have hd:d = .map kt e:=by rw [hk] at g3; cases d <;> first | (cases g3; rfl) | cases g3
 subst hd;have hmv:=hm c ⟨t',marks R.fx.dfs⟩ h3 h4;obtain ⟨blk,cap,en,ck,q1,q2,q3,qe,q4⟩:=map_box h3 hb hmv;have hk1:=h3.bury q2;have hr1:=hr.bury q2 (by omega);have hw1:(c.bury b blk).w=c.w:=rfl
 let it:Obj := .mapIter (some blk) ck #[] ck
 have hk2:HOk E.G ((c.bury b blk).veil it):=hk1.veil;have hr2:RelX c0 ((c.bury b blk).veil it):=hr1.veil;have hblk:blk<c.w.heap.size:=(h3.ownlt b blk cap q2).1
 let gi:Iter:=⟨blk,c.w.heap.size,en,ck,ck,[],es⟩
 have hgi:IterOK c0.w.heap.size ((c.bury b blk).veil it) gi:=by
  refine ⟨.inl (.inr rfl),.inr rfl,hr.size,?_,⟨ck,Nat.le_refl _,fun _=>rfl,?_⟩,qe.born,qe,fun j kk x mm h1 h2=>?_,fun j hj=>by simp [gi] at hj⟩
  ·show (c.w.alloc it).heap[blk]? = _;rw [Below.heap_alloc c.w it blk hblk]; exact q3
  ·show (c.w.alloc it).heap[c.w.heap.size]? = _;exact heap_alloc_new _ _
  ·have:=q4.2 j kk x mm h1 (by simpa using h2);exact ⟨veil_vd (bury_vd q2 this.1),veil_vd (bury_vd q2 this.2)⟩
 have hrows:RowsX c0.w.heap.size ((c.bury b blk).veil it) (.iter gi::R.rows) R.fx.loops:=by
  have hold:=(hrow.all.bury (b:=b) (blk:=blk) q2).veil (o:=it) hk1;refine ⟨⟨fun g hg=>?_,?_⟩,fun g hg=>(List.mem_cons.1 hg).elim (fun e=>by subst e; trivial) (hrow.flat g)⟩
  ·rcases List.mem_cons.1 hg with rfl | hg
   ·exact hgi
   ·exact hold.each g hg
  ·rw [List.cons_append,List.flatMap_cons];refine List.nodup_append.2 ⟨by simp [Ghost.blks,gi]; omega,hrow.all.nodup,fun x hx y hy e=>?_⟩;subst e;simp [Ghost.blks,gi] at hx;rcases hx with rfl | rfl
   ·exact own_notin hrow.all h3 q2 hy
   ·obtain ⟨g,hg,hx⟩:=List.mem_flatMap.1 hy;have:=h3.barlt _ ((hrow.all.each g hg).bar _ hx);omega
 have hrun:(execOp (⟨t',marks R.fx.dfs⟩:Act).eval o).run E.P c.w = .ok (.value (.pointer (some ⟨c.w.heap.size,0,none⟩))) (c.w.alloc it):=by
  simp only [execOp,hop,q1,Instr.range,newObj,Sem.run_bind,run_underlying g2,Result.andThen_ok,gotMap q3,Sem.run_pure,Sem.run];rfl
 have hvs:VS ((c.bury b blk).veil it) (putS s o.dst (.d (.raw (.pointer (some ⟨c.w.heap.size,0,none⟩))))) ((⟨t',marks R.fx.dfs⟩:Act).put o.dst (.pointer (some ⟨c.w.heap.size,0,none⟩))).tmps :=
  VS.putS (a:=⟨t',marks R.fx.dfs⟩) ⟨h4.1,fun i x v hx hv=>veil_vr (bury_vr q2 (h4.2 i x v hx hv))⟩ o.dst (.d _ _ (.raw _ rfl))
 have H:=(H gi rfl rfl (Nat.le_refl _)).to;unfold AW at H;obtain ⟨c2,fr,rr,u,e1,e2,e3,e4,e5,e6⟩:=H c0 _ _ ts' h0 (ok_cons hok (ok_tail h1)) rfl hk2 hr2 hrows hvs (cr_gen (fun _ _ hv=>veil_vr (bury_vr q2 hv)) h5) cs;refine ⟨c2,fr,rr,u,e1,e2,e3,e4,.head ?_ e5,e6⟩;simp only [AFrame.conc,List.map_cons,hcn];rw [step_op hi (wanted_none hg c t' h4) (.inl hrun),put_defers];rfl
theorem AWL.next {x:Operand} {it:Iter} {g1 g2:List Ghost} (hg:o.guard=none) (hop:o.op = .next x false) (hck:it.since≤it.ck) (hrows:R.rows=g1 ++ .iter it::g2) (hx:EvOK E.G s x (.d (.raw (.pointer (some ⟨it.r,0,none⟩)))))
  (H0:(∀ j,j<it.es.length→j∈it.seen)→AWL E fid R lits (.reg ops l::k) (putS s o.dst (.d (.tup [.bool false]))) h)
  (H1:∀ j kk y,it.es[j]? = some (kk,y)→j ∉ it.seen→AWL E fid ⟨R.n,R.Q,g1 ++ .iter { it with seen:=it.seen++[j] }::g2,R.fx⟩ lits (.reg ops l::k) (putS s o.dst (.d (.tup [.bool true,kk,y]))) h):AWL E fid R lits (.reg ops (o::l)::k) s h:=by
 refine .of ?_;unfold AW;intro c0 c t' ts' h0 h1 h2 h3 hr hrow h4 h5 cs;subst h2;obtain ⟨i,hi,hcn,hok⟩:=reg_at (h1 _ (List.mem_cons_self ..));have hxv:(⟨t',marks R.fx.dfs⟩:Act).eval x = .pointer (some ⟨it.r,0,none⟩):=by
  have:=hx c ⟨t',marks R.fx.dfs⟩ h3 h4;generalize (⟨t',marks R.fx.dfs⟩:Act).eval x=u at this;cases this with
  |d _ _ hq=>cases hq; rfl
 have hrow':=hrow;rw [hrows] at hrow';obtain ⟨r1,r2,r3⟩:=hrow'.without;have r2:IterOK c0.w.heap.size c it:=r2;obtain ⟨z0,z1,-,z2⟩:=r2.iter;have hsz:it.en.size=it.es.length:=r2.ent.size;rcases run_next_at (P:=E.P) c.w o.type it.r it.bm it.since z0 _ it.en it.ck z2 r2.map r2.old z1 with ⟨n1,n2⟩ | ⟨ent,n1,w1,n2,n3⟩
 ·have H:=(H0 fun j hj=>by
   apply Classical.byContradiction;intro hm;have hje:j<it.en.size:=by omega
   have:=(left_iff r2.ent.nodup r2.lt hje).2 hm;have hl:(leftOf it.en ((it.seen.map fun j=>((it.en[j]?).map (·.born)).getD 0).toArray)).toList.length=0:=by simpa using n1
   rw [List.eq_nil_of_length_eq_zero hl] at this
   cases this).to
  unfold AW at H;have hrun:(execOp (⟨t',marks R.fx.dfs⟩:Act).eval o).run E.P c.w = .ok (.value (.tuple #[.bool false])) c.w:=by
   simp only [execOp,hop,hxv,Sem.run_bind,n2,Result.andThen_ok,Sem.run_pure]
  have hvs:VS c (putS s o.dst (.d (.tup [.bool false]))) ((⟨t',marks R.fx.dfs⟩:Act).put o.dst (.tuple #[.bool false])).tmps :=
   VS.putS (a:=⟨t',marks R.fx.dfs⟩) h4 o.dst (.d _ _ (.tup _ _ rfl fun j y v hy hv=>by
    match j with
    | 0=>simp at hy hv; subst hy; subst hv; exact .bool _
    |j+1=>simp at hy))
  obtain ⟨c2,fr,rr,u,e1,e2,e3,e4,e5,e6⟩:=H c0 c _ ts' h0 (ok_cons hok (ok_tail h1)) rfl h3 hr hrow hvs h5 cs;refine ⟨c2,fr,rr,u,e1,e2,e3,e4,.head ?_ e5,e6⟩;simp only [AFrame.conc,List.map_cons,hcn];rw [step_op hi (wanted_none hg c t' h4) (.inl hrun),put_defers];rfl
 ·have hmem:ent∈it.en.toList:=by
   simp only [leftOf,Array.toList_filter,List.mem_filter] at n1;exact n1.1
  obtain ⟨j,hj,rfl⟩:=List.getElem_of_mem hmem;have hje:j<it.en.size:=by simpa using hj
  have hent:it.en.toList[j]=it.en[j]:=by simp
  rw [hent] at n1 n3;have hns:=(left_iff r2.ent.nodup r2.lt hje).1 n1;obtain ⟨⟨kk,y⟩,hky⟩:∃ p,it.es[j]? = some p:=⟨it.es[j]'(by omega),by rw [List.getElem?_eq_getElem]⟩;have H:=(H1 j kk y hky hns).to;unfold AW at H;have hrb:=h3.barlt _ r2.barr;have hw1:w1.os=c.w.os∧w1.tape=c.w.tape∧w1.output=c.w.output∧w1.heap=c.w.heap:=by rcases n2 with rfl | rfl <;> exact ⟨rfl,rfl,rfl,rfl⟩
  obtain ⟨a1,a2,a3,a4⟩:=hw1;generalize hw':setBlock w1 it.r (.mapIter (some it.bm) it.since (((it.seen.map fun j=>((it.en[j]?).map (·.born)).getD 0).toArray).push it.en[j].born) it.ck)=w' at n3;have hto:Touch c it.r w':=by
   subst hw';refine ⟨r2.barr,a1,a2,a3,by simp [setBlock,a4],fun b hb=>?_⟩;simp only [setBlock,a4];rw [Array.getElem?_setIfInBounds_ne (Ne.symm hb)]
  have hnr:it.r ∉ ((g1++g2)++R.fx.loops).flatMap Ghost.blks:=r3 _ (by simp [Ghost.blks]);have hnd:it.bm≠it.r:=by
   have:=hrow'.all.nodup;rw [List.append_assoc,List.cons_append,List.flatMap_append,List.nodup_append] at this;have h6:=this.2.1;rw [List.flatMap_cons,List.nodup_append] at h6;have h7:=h6.1;simp [Ghost.blks] at h7;exact h7
  have hgi:IterOK c0.w.heap.size (c.inW w') { it with seen:=it.seen++[j] }:=by
   refine ⟨r2.barm,r2.barr,r2.newr,(hto.other _ hnd).trans r2.map,⟨it.ck,?_,fun _=>rfl,?_⟩,r2.old,r2.ent,fun p kk x mm h1 h2=>?_,fun p hp=>?_⟩
   ·exact hck
   ·show w'.heap[it.r]? = _;subst hw';simp only [setBlock,a4];rw [Array.getElem?_setIfInBounds_self_of_lt hrb];simp [bornOf hje]
   ·have:=r2.val p kk x mm h1 h2;exact ⟨hto.vd this.1,hto.vd this.2⟩
   ·rcases List.mem_append.1 hp with hp | hp
    ·exact r2.lt p hp
    ·simp at hp; subst hp; exact hje
  have hrows':RowsX c0.w.heap.size (c.inW w') (g1 ++ .iter { it with seen:=it.seen++[j] }::g2) R.fx.loops:=by
   have hold:=hto.rows r1.all hnr;refine ⟨⟨fun g hg=>?_,?_⟩,fun g hg=>?_⟩
   ·rcases List.mem_append.1 hg with hg | hg
    ·rcases List.mem_append.1 hg with hg | hg
     ·exact hold.each g (List.mem_append_left _ (List.mem_append_left _ hg))
     ·rcases List.mem_cons.1 hg with rfl | hg
      ·exact hgi
      ·exact hold.each g (List.mem_append_left _ (List.mem_append_right _ hg))
    ·exact hold.each g (List.mem_append_right _ hg)
   ·have:=hrow'.all.nodup;rw [List.append_assoc,List.cons_append,List.flatMap_append,List.flatMap_cons] at this ⊢;exact this
   ·rcases List.mem_append.1 hg with hg | hg
    ·exact r1.flat g (List.mem_append_left _ hg)
    ·rcases List.mem_cons.1 hg with rfl | hg
     ·trivial
     ·exact r1.flat g (List.mem_append_right _ hg)
  have hval:=r2.val j kk y it.en[j] hky (by simp [hje]);have hrun:(execOp (⟨t',marks R.fx.dfs⟩:Act).eval o).run E.P c.w = .ok (.value (.tuple #[.bool true,it.en[j].key,it.en[j].val])) w':=by
   simp only [execOp,hop,hxv,Sem.run_bind,n3,Result.andThen_ok,Sem.run_pure]
  have hvs:VS (c.inW w') (putS s o.dst (.d (.tup [.bool true,kk,y]))) ((⟨t',marks R.fx.dfs⟩:Act).put o.dst (.tuple #[.bool true,it.en[j].key,it.en[j].val])).tmps :=
   VS.putS (a:=⟨t',marks R.fx.dfs⟩) ⟨h4.1,fun i x v hx hv=>hto.vr (h4.2 i x v hx hv)⟩ o.dst (.d _ _ (.tup _ _ rfl fun p z v hz hv=>by
    match p with
    | 0=>simp at hz hv; subst hz; subst hv; exact .bool _
    | 1=>simp at hz hv; subst hz; subst hv; exact hto.vd hval.1
    | 2=>simp at hz hv; subst hz; subst hv; exact hto.vd hval.2
    |p+3=>simp at hz))
  obtain ⟨c2,fr,rr,u,e1,e2,e3,e4,e5,e6⟩:=H c0 (c.inW w') _ ts' h0 (ok_cons hok (ok_tail h1)) rfl (hto.hok h3) (hto.rel hr r2.newr) hrows' hvs (cr_gen (fun _ _=>hto.vr) h5) cs;refine ⟨c2,fr,rr,u,e1,e2,e3,e4,.head ?_ e5,e6⟩;simp only [AFrame.conc,List.map_cons,hcn];rw [step_op hi (wanted_none hg c t' h4) (.inl hrun),put_defers];rfl
end
end Go.Eng
end
section
namespace Go.Eng
open Go Go.RowKit
section
variable {E:Env} {fid:FuncId} {R:Post} {td:List AItem} {s:List AV} {h:List Box}
end
end Go.Eng
end
