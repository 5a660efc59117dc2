/- Several texts of mine, one behind the other. Conditions: as each says. -/
import Derived.Test.YtcmnpelmmekdkaaGreatDoorY3
import Derived.Maps.RangeRun
set_option linter.unusedVariables false
set_option linter.unusedSimpArgs false
section
namespace Go.ax
open Go Go.RowKit
def du (n:Nat) (B:List Nat) (i:Nat):Bool:=match Nat.ble n i with
 |true=>true
 |false=>bV i B
def cU (n:Nat) (B:List Nat):Nat→List ag→List ag
 |_,[]=>[]
 |i,b::r=>match Nat.ble n i with
  |true=>[]
  |false=>(match bV i B with | true => .gone | false=>b)::cU n B (i+1) r
theorem sS {n:Nat} {B:List Nat}:∀ (i k:Nat) (h:List ag),du n B (i+k)=false→(cU n B i h)[k]? = h[k]?
 |_,_,[],_=>rfl
 |i,0,b::r,hh=>by
  simp only [du,Nat.add_zero] at hh;split at hh
  ·cases hh
  ·rename_i q; simp only [cU,q,hh]; rfl
 |i,k+1,b::r,hh=>by
  have hn:Nat.ble n i=false:=by
   cases q:Nat.ble n i with
   |false=>rfl
   |true =>
    have h1:=Nat.le_of_ble_eq_true q;have h2:Nat.ble n (i+(k+1))=true:=Nat.ble_eq_true_of_le (by omega);simp only [du,h2] at hh;cases hh
  simp only [cU,hn,List.getElem?_cons_succ];exact sS (i+1) k r (by rwa [show i+1+k=i+(k+1) by omega])
theorem Hd {n:Nat} {B:List Nat}:∀ (i k:Nat) (h:List ag) (b:ag),du n B (i+k)=true→(cU n B i h)[k]? = some b→b = .gone
 |_,_,[],_,_,h=>by simp [cU] at h
 |i,k,b'::r,b,hh,h=>by
  simp only [cU] at h;split at h
  ·simp at h
  ·rename_i q;cases k with
   |zero =>
    simp only [du,Nat.add_zero,q] at hh;simp only [hh,List.getElem?_cons_zero,Option.some.injEq] at h;exact h.symm
   |succ k=>exact Hd (i+1) k r b (by rwa [show i+1+k=i+(k+1) by omega]) (by simpa using h)
def gb (n:Nat) (B:List Nat):AV→Bool
 | .any=>true
 | .d _=>true
 | .b8 _ _=>true
 | .own b _=>match du n B b with | true=>false | false=>true
 | .ptr b _=>match du n B b with | true=>false | false=>true
 | .cK b _ _ _=>match du n B b with | true=>false | false=>true
 | .cut b _ _ _=>match du n B b with | true=>false | false=>true
 | .map b=>match du n B b with | true=>false | false=>true
 |_=>false
def pL {β:Type} (f:β→Bool):List β→Bool
 | []=>true
 |a::l=>match f a with
  |true=>pL f l
  |false=>false
theorem Ac {β:Type} {f:β→Bool}:∀ {l:List β},pL f l=true→∀ (j:Nat) (x:β),l[j]? = some x→f x=true
 | [],_,_,_,h=>by simp at h
 |a::l,H,j,x,h=>by
  unfold pL at H;split at H
  ·rename_i q;cases j with
   |zero=>simp at h; subst h; exact q
   |succ j=>exact Ac H j x (by simpa using h)
  ·cases H
def eH (n:Nat) (B:List Nat):AV→Bool
 | .agg l=>pL (gb n B) l
 | .aL l=>pL (gb n B) l
 | .fn _ a b=>match pL (gb n B) a with
  |true=>pL (gb n B) b
  |false=>false
 |x=>gb n B x
def NS (n:Nat) (B:List Nat):ag→Bool
 | .cells cs=>pL (eH n B) cs
 |_=>true
section
variable {G:List (Nat × DV)} {c c':Cx} {n:Nat} {B:List Nat}
theorem NT (hk:∀ b,b<c.w.heap.size→¬ c.bad b→¬ c'.bad b∧c'.w.heap[b]? = c.w.heap[b]?) (hb:∀ i bx,du n B i=false→c.heap[i]? = some bx→c'.heap[i]? = some bx∧c'.own i=c.own i)
  {x:AV} {v:Value} (hf:gb n B x=true) (hv:VR c x v):VR c' x v:=by
 cases hv with
 |any v=>exact .any v
 |d x v hx=>exact .d x v (hx.mono hk)
 |own b g sz l blk cap h1 h2 =>
  have hh:du n B b=false:=by simp only [gb] at hf; split at hf <;> first | assumption | cases hf
  obtain ⟨k1,k2⟩:=hb _ _ hh h1;exact .own b g sz l blk cap k1 (k2.trans h2)
 |iL b g sz h1 h2 =>
  have hh:du n B b=false:=by simp only [gb] at hf; split at hf <;> first | assumption | cases hf
  obtain ⟨k1,k2⟩:=hb _ _ hh h1;exact .iL b g sz k1 (k2.trans h2)
 |kg b g g1 sz l v h1 h2 h3 =>
  have hh:du n B b=false:=by simp only [gb] at hf; split at hf <;> first | assumption | cases hf
  obtain ⟨k1,k2⟩:=hb _ _ hh h1;exact .kg b g g1 sz l _ k1 h2 h3
 |jD b g v h1 h2 =>
  have hh:du n B b=false:=by simp only [gb] at hf; split at hf <;> first | assumption | cases hf
  exact .jD b g _ (hb _ _ hh h1).1 h2
 |mu b g cs blk cap m h1 h2 h3 =>
  have hh:du n B b=false:=by simp only [gb] at hf; split at hf <;> first | assumption | cases hf
  obtain ⟨k1,k2⟩:=hb _ _ hh h1;exact .mu b g cs blk cap m k1 (k2.trans h2) h3
 |cut b g k q sz l blk cap o h1 h2 h3 h4 h5 =>
  have hh:du n B b=false:=by simp only [gb] at hf; split at hf <;> first | assumption | cases hf
  obtain ⟨k1,k2⟩:=hb _ _ hh h1;exact .cut b g k q sz l blk cap o k1 (k2.trans h2) h3 h4 h5
 |mv b g g1 k q sz l v h1 h2 h3 =>
  have hh:du n B b=false:=by simp only [gb] at hf; split at hf <;> first | assumption | cases hf
  exact .mv b g g1 k q sz l _ (hb _ _ hh h1).1 h2 h3
 |mw b g k q v h1 h2 =>
  have hh:du n B b=false:=by simp only [gb] at hf; split at hf <;> first | assumption | cases hf
  exact .mw b g k q _ (hb _ _ hh h1).1 h2
 |ptr b off cs blk cap h1 h2 =>
  have hh:du n B b=false:=by simp only [gb] at hf; split at hf <;> first | assumption | cases hf
  obtain ⟨k1,k2⟩:=hb _ _ hh h1;exact .ptr b off cs blk cap k1 (k2.trans h2)
 |jf b off v h1 h2 =>
  have hh:du n B b=false:=by simp only [gb] at hf; split at hf <;> first | assumption | cases hf
  exact .jf b off _ (hb _ _ hh h1).1 h2
 |cK b g i off sz l blk cap h1 h2 h3 =>
  have hh:du n B b=false:=by simp only [gb] at hf; split at hf <;> first | assumption | cases hf
  obtain ⟨k1,k2⟩:=hb _ _ hh h1;exact .cK b g i off sz l blk cap k1 (k2.trans h2) h3
 |lF b g g1 i off sz l v h1 h2 h3 =>
  have hh:du n B b=false:=by simp only [gb] at hf; split at hf <;> first | assumption | cases hf
  exact .lF b g g1 i off sz l _ (hb _ _ hh h1).1 h2 h3
 |lG b g i off v h1 h2 =>
  have hh:du n B b=false:=by simp only [gb] at hf; split at hf <;> first | assumption | cases hf
  exact .lG b g i off _ (hb _ _ hh h1).1 h2
 |b8 e off blk o f h1 h2 h3 h4 =>
  have ai:blk<c.w.heap.size:=by
   obtain ⟨x,r,hx⟩:=List.exists_cons_of_ne_nil h2;exact World.block_lt_of_cell? _ _ (h3 0 x (by rw [hx]; rfl))
  have hk:=hk;have qA:=hk blk ai h1;exact .b8 e off blk o f qA.1 h2 (fun j x hx=>by rw [World.cell?_of_block qA.2]; exact h3 j x hx) (fun j x hx=>(h4 j x hx).mono hk)
 |map b es blk cap h1 h2 =>
  have hh:du n B b=false:=by simp only [gb] at hf; split at hf <;> first | assumption | cases hf
  obtain ⟨k1,k2⟩:=hb _ _ hh h1;exact .map b es blk cap k1 (k2.trans h2)
 |nd b v h1 h2 =>
  have hh:du n B b=false:=by simp only [gb] at hf; split at hf <;> first | assumption | cases hf
  exact .nd b _ (hb _ _ hh h1).1 h2
 |agg a vs h1 h2=>simp [gb] at hf
 |aL a vs h1 h2=>simp [gb] at hf
 |fn f a1 a2 v1 v2 h1 h2 h3 h4=>simp [gb] at hf
theorem NU (hk:∀ b,b<c.w.heap.size→¬ c.bad b→¬ c'.bad b∧c'.w.heap[b]? = c.w.heap[b]?) (hb:∀ i bx,du n B i=false→c.heap[i]? = some bx→c'.heap[i]? = some bx∧c'.own i=c.own i)
  {x:AV} {v:Value} (hf:eH n B x=true) (hv:VR c x v):VR c' x v:=by
 have one:∀ {l:List AV},pL (gb n B) l=true→∀ (vs:List Value),VL c l vs→VL c' l vs:=fun hl vs h=>⟨h.1,fun j x v hx hv=>NT hk hb (Ac hl j x hx) (h.2 j x v hx hv)⟩;unfold eH at hf;split at hf
 ·obtain ⟨vs,rfl,h1⟩:=rR hv; exact x9 (one hf _ h1)
 ·obtain ⟨vs,rfl,h1⟩:=BJ hv; exact BK (one hf _ h1)
 ·split at hf
  ·rename_i q;obtain ⟨v1,v2,rfl,h1,h2⟩:=lP hv;exact E8 (one q _ h1) (one hf _ h2)
  ·cases hf
 ·exact NT hk hb hf hv
def Cx.eC (c:Cx) (n:Nat) (B:List Nat):Cx:=⟨fun i=>match du n B i with | true=>none | false=>c.own i,cU n B 0 c.heap,fun b=>c.au b∨∃ j m,du n B j=true∧c.own j=some (b,m),c.w⟩
theorem oO {i b m:Nat} (h:(c.eC n B).own i=some (b,m)):du n B i=false∧c.own i=some (b,m):=by
 simp only [Cx.eC] at h;split at h
 ·cases h
 ·rename_i q; exact ⟨q,h⟩
theorem uV {i:Nat} (h:du n B i=false):(c.eC n B).own i=c.own i:=by simp only [Cx.eC,h]
theorem NV (b:Nat):(c.eC n B).bad b↔c.bad b:=by
 constructor
 ·rintro ((hb | ⟨j,m,-,hj⟩) | ⟨i,m,hi⟩)
  ·exact .inl hb
  ·exact .inr ⟨j,m,hj⟩
  ·exact .inr ⟨i,m,(oO hi).2⟩
 ·rintro (hb | ⟨j,m,hj⟩)
  ·exact .inl (.inl hb)
  ·cases hh:du n B j
   ·exact .inr ⟨j,m,(uV hh).trans hj⟩
   ·exact .inl (.inr ⟨j,m,hh,hj⟩)
theorem NW (b:Nat) (_:b<c.w.heap.size) (hn:¬ c.bad b):¬ (c.eC n B).bad b∧(c.eC n B).w.heap[b]? = c.w.heap[b]? := ⟨fun h=>hn ((NV b).1 h),rfl⟩
theorem NX {i:Nat} {bx:ag} (hh:du n B i=false) (hi:c.heap[i]? = some bx):(c.eC n B).heap[i]? = some bx∧(c.eC n B).own i=c.own i :=
 ⟨by show (cU n B 0 c.heap)[i]? = _; rw [sS 0 i c.heap (by rwa [Nat.zero_add])]; exact hi,uV hh⟩
theorem xq {x:AV} {v:Value} (hf:eH n B x=true) (hv:VR c x v):VR (c.eC n B) x v:=NU NW (fun _ _=>NX) hf hv
theorem WM {x:DV} {v:Value} (hv:VD c.bad c.w x v):VD (c.eC n B).bad (c.eC n B).w x v:=hv.mono NW
theorem jE.free {i:Nat} {bx:ag} (WN:NS n B bx=true) (lM:∀ x v,eH n B x=true→VR c x v→VR c' x v) (eZ:∀ x v,VD c.bad c.w x v→VD c'.bad c'.w x v) (hb:jE c i bx) (ho:c'.own i=c.own i) (hw:∀ b n,c.own i=some (b,n)→c'.w.heap[b]? = c.w.heap[b]?):jE c' i bx:=by
 cases bx with
 |cells cs =>
  obtain ⟨blk,cap,vs,ty,h1,h2,h3,h4⟩:=hb;exact ⟨blk,cap,vs,ty,ho.trans h1,(hw blk cap h1).trans h2,h3,fun j x v hx hv=>lM x v (Ac WN j x hx) (h4 j x v hx hv)⟩
 |arr g ts l =>
  obtain ⟨h0,h1,h2⟩:=hb;refine ⟨h0,h1,?_⟩;rcases h2 with ⟨h2,h3⟩ | ⟨blk,cap,vs,h2,h3,h4,h5,h6,h7⟩
  ·exact .inl ⟨ho.trans h2,h3⟩
  ·refine .inr ⟨blk,cap,vs,ho.trans h2,(hw blk cap h2).trans h3,h4,h5,h6,fun i j e x he hx=>?_⟩;obtain ⟨v,h8,x8,h9⟩:=h7 i j e x he hx;exact ⟨v,h8,x8,eZ x v h9⟩
 |map es =>
  obtain ⟨blk,cap,en,ck,h1,h2,h3,h4⟩:=hb;exact ⟨blk,cap,en,ck,ho.trans h1,(hw blk cap h1).trans h2,h3,fun j k x m hx hm=>⟨eZ _ _ (h4 j k x m hx hm).1,eZ _ _ (h4 j k x m hx hm).2⟩⟩
 |gone=>exact ho.trans hb
def rv (n:Nat) (B:List Nat) (X:List ag):Bool:=pL (NS n B) X
theorem aE.eC (ho:aE G c) (eh:rv n B (cU n B 0 c.heap)=true):aE G (c.eC n B) where
 bD:=fun b hb=>hb.elim (ho.bD b) fun ⟨j,m,_,hj⟩=>(ho.bI j b m hj).1
 bI:=fun i b m hi=>by
  obtain ⟨h1,h2⟩:=oO hi;obtain ⟨h3,h4⟩:=ho.bI i b m h2;refine ⟨h3,?_⟩;have:(c.eC n B).heap[i]? = c.heap[i]? := sS 0 i c.heap (by rwa [Nat.zero_add]);have h5:(c.eC n B).heap[i]? = some c.heap[i]:=by rw [this]; simp
  exact aZ h5
 inj:=fun i j b m k hi hj=>ho.inj i j b m k (oO hi).2 (oO hj).2
 sep:=fun i b m hi hb=>by
  obtain ⟨h1,h2⟩:=oO hi;rcases hb with hb | ⟨j,k,hj,hk⟩
  ·exact ho.sep i b m h2 hb
  ·have:=ho.inj i j b m k h2 hk;subst this;rw [h1] at hj;cases hj
 box:=fun i bx hi=>by
  cases hh:du n B i
  ·have e:(c.eC n B).heap[i]? = c.heap[i]? := sS 0 i c.heap (by rwa [Nat.zero_add]);have hf:=Ac eh i bx hi;rw [e] at hi;exact (ho.box i bx hi).free hf (fun _ _=>xq) (fun _ _=>WM) (uV hh) (fun _ _ _=>rfl)
  ·obtain rfl:=Hd 0 i c.heap bx (by rwa [Nat.zero_add]) hi;show (c.eC n B).own i=none;simp only [Cx.eC,hh]
 fO:=fun g e hg=>xq rfl (ho.fO g e hg)
def nP (n:Nat) (B:List Nat):List AV→List AV
 | []=>[]
 |x::s=>(match eH n B x with | true=>x | false => .any)::nP n B s
def xr {α:Sort _} (n:Nat) (B:List Nat):List AV→(List AV→α)→α
 | [],k=>k []
 |x::s,k=>match eH n B x with
  |true=>xr n B s fun s'=>k (x::s')
  |false=>xr n B s fun s'=>k (.any::s')
theorem NY {α:Sort _}:∀ (s:List AV) (k:List AV→α),xr n B s k=k (nP n B s)
 | [],_=>rfl
 |x::s,k=>by
  simp only [xr,nP];split <;> rename_i q <;> rw [NY s] <;> simp only [q]
theorem NZ:∀ (s:List AV) (i:Nat) (x:AV),(nP n B s)[i]? = some x→x = .any∨(s[i]? = some x∧eH n B x=true)
 | [],_,_,h=>by simp [nP] at h
 |y::s,0,x,h=>by
  simp only [nP,List.getElem?_cons_zero,Option.some.injEq] at h;split at h
  ·rename_i q; subst h; exact .inr ⟨rfl,q⟩
  ·exact .inl h.symm
 |y::s,i+1,x,h=>by
  rcases NZ s i x (by simpa [nP] using h) with h | h
  ·exact .inl h
  ·exact .inr (by simpa using h)
theorem N0:∀ (s:List AV),(nP n B s).length=s.length
 | []=>rfl
 |_::s=>by simp [nP,N0 s]
theorem VS.eC {s:List AV} {t:Array Value} (h:VS c s t):VS (c.eC n B) (nP n B s) t:=by
 refine ⟨by rw [N0]; exact h.1,fun i x v hx hv=>?_⟩;rcases NZ s i x hx with rfl | ⟨hx,hf⟩
 ·exact .any v
 ·exact xq hf (h.2 i x v hx hv)
theorem aQ.WO {E:Env} {op:Op} {s:List AV} {h:List ag} {v:AV} (eh:rv n B (cU n B 0 h)=true) (hf:eH n B v=true) (H:aQ E op (nP n B s) (cU n B 0 h) v (cU n B 0 h)):aQ E op s h v h:=by
 intro o c a cm hc ho hs;subst hc;obtain ⟨c1,u,d1,e1,k1,r1,st⟩:=H o (c.eC n B) a cm rfl (ho.eC eh) hs.eC;have C8:∀ i,du n B i=false→c1.heap[i]? = c.heap[i]? := fun i hh=>by rw [e1]; exact sS 0 i c.heap (by rwa [Nat.zero_add])
 have nh:∀ i,du n B i=true→c1.own i=none:=fun i hh=>by
  cases hq:c1.heap[i]? with
  |none =>
   cases hw:c1.own i with
   |none=>rfl
   |some p =>
    have h2:=(k1.bI i p.1 p.2 hw).2;rw [List.getElem?_eq_none_iff] at hq;omega
  |some bx =>
   have pa:=hq;rw [e1] at pa;obtain rfl:=Hd 0 i c.heap bx (by rwa [Nat.zero_add]) pa;exact k1.box i _ hq
 have jU:∀ i,du n B i=false→c1.own i=c.own i:=fun i hh=>by
  cases hq:c.heap[i]? with
  |none =>
   have n1:c.own i=none:=by
    cases hw:c.own i with
    |none=>rfl
    |some p=>have h2:=(ho.bI i p.1 p.2 hw).2; rw [List.getElem?_eq_none_iff] at hq; omega
   have WQ:c1.heap[i]? = none:=(C8 i hh).trans hq;rw [n1];cases hw:c1.own i with
   |none=>rfl
   |some p=>have h2:=(k1.bI i p.1 p.2 hw).2; rw [List.getElem?_eq_none_iff] at WQ; omega
  |some bx =>
   have jl:c1.heap[i]? = some bx:=(C8 i hh).trans hq;obtain ⟨g1,g2⟩:=NX (n:=n) (B:=B) hh hq;have hs:=st.boxes i bx g1;cases bx with
   |cells cs =>
    rcases hs with ⟨cs',q1,q2,q3⟩ | q1
    ·exact q2.trans g2
    ·rw [jl] at q1; cases q1
   |arr g sz l =>
    rcases hs with ⟨g',l',q1,q2⟩ | q1
    ·rw [jl] at q1;cases q1;rcases q2 with q2 | ⟨-,-,q2⟩
     ·omega
     ·exact q2.trans g2
    ·rw [jl] at q1; cases q1
   |map es =>
    rcases hs with ⟨ew,q1,q2⟩ | q1
    ·exact q2.trans g2
    ·rw [jl] at q1; cases q1
   |gone =>
    have a1:c1.own i=none:=k1.box i _ jl;have a2:c.own i=none:=ho.box i _ hq;rw [a1,a2]
 have WR:∀ b,c1.bad b↔c.bad b:=fun b=>by
  rw [← NV (c:=c) (n:=n) (B:=B)];constructor
  ·rintro (h | ⟨i,m,h⟩)
   ·exact .inl (by rw [← st.au]; exact h)
   ·cases hh:du n B i
    ·exact .inr ⟨i,m,by rw [uV hh,← jU i hh]; exact h⟩
    ·rw [nh i hh] at h; cases h
  ·rintro (h | ⟨i,m,h⟩)
   ·exact .inl (by rw [st.au]; exact h)
   ·obtain ⟨g1,g2⟩:=oO h;exact .inr ⟨i,m,by rw [jU i g1]; exact g2⟩
 have aR:Step c (c.dN c1.w):=⟨rfl,ho.bD,st.os,st.tape,st.output,st.size,fun b hb hn=>st.keep b hb (fun i m hi=>hn i m (oO hi).2),fun i b m hi _=>⟨m,hi⟩,(Step.refl c ho.bD).boxes⟩;have hk:∀ b,b<c1.w.heap.size→¬ c1.bad b→¬ (c.dN c1.w).bad b∧(c.dN c1.w).w.heap[b]? = c1.w.heap[b]? := fun b _ hn=>⟨fun h=>hn ((WR b).2 h),rfl⟩;have iA:∀ i bx,du n B i=false→c1.heap[i]? = some bx→(c.dN c1.w).heap[i]? = some bx∧(c.dN c1.w).own i=c1.own i:=fun i bx hh hi=>⟨(C8 i hh).symm.trans hi,(jU i hh).symm⟩;have back:∀ x v,eH n B x=true→VR c1 x v→VR (c.dN c1.w) x v:=fun x v hf hv=>NU hk iA hf hv;have WS:∀ x v,VD c1.bad c1.w x v→VD (c.dN c1.w).bad (c.dN c1.w).w x v:=fun x v hv=>hv.mono hk;refine ⟨c.dN c1.w,u,d1,rfl,?_,back v u hf r1,aR⟩
 exact {
  bD:=fun b hb=>Nat.lt_of_lt_of_le (ho.bD b hb) st.size
  bI:=fun i b m hi=>⟨Nat.lt_of_lt_of_le (ho.bI i b m hi).1 st.size,(ho.bI i b m hi).2⟩
  inj:=ho.inj
  sep:=ho.sep
  box:=fun i bx hi=>by
   cases hh:du n B i
   ·have jl:c1.heap[i]? = some bx:=(C8 i hh).trans hi;have vW:=Ac eh i bx (by rw [← e1]; exact jl);exact (k1.box i bx jl).free vW back WS (jU i hh).symm (fun _ _ _=>rfl)
   ·refine (ho.box i bx hi).gen (fun _ _=>aR.vr) (fun _ _=>aR.vd) rfl (fun b m hn=>?_);refine st.keep b (ho.bI i b m hn).1 (fun j k hj=>?_);obtain ⟨g1,g2⟩:=oO hj;have:=ho.inj i j b m k hn g2;subst this;rw [hh] at g1;cases g1
  fO:=fun g e hg=>back _ _ rfl (k1.fO g e hg) }
end
section
variable {E:Env} {ops:Array Oper} {F:List Nat} {n:Nat} {B:List Nat} {X:List ag}
structure xu (ops:Array Oper) (F:List Nat) (J0:Nat):Prop where
 low:∀ j o e,ops[j]? = some o→e∈o.after→Region.binds .any e=true→e.on<j
 pair:∀ i j oi oj,i<j→ops[i]? = some oi→ops[j]? = some oj→jo ops oi oj=true→ku ops i j
 spine:∀ i j oi oj,J0≤i→i<j→ops[i]? = some oi→ops[j]? = some oj→bV i F=false→bV j F=false→ku ops i j
theorem xu.pn {J0:Nat} (h:xu ops F J0):wO ops ops.size:=⟨h.low,h.pair,fun i j oi oj _ hj _ kr=>by
 have:=(Array.getElem?_eq_some_iff.1 kr).1; omega⟩
def C9 (ops:Array Oper) (F:List Nat):Bool :=
 let bs:=bits ops.toList []
 (List.range ops.size).all fun j=>match ops[j]? with
  |none=>true
  |some oj=>(oj.after.toList.all fun e => !Region.binds .any e||decide (e.on<j))&&(List.range j).all fun i=>match ops[i]? with
   |none=>true
   |some oi=>(bs.getD j 0).testBit i||(!jo ops oi oj&&(bV i F||bV j F))
theorem He (h:C9 ops F=true):xu ops F 0:=by
 have hb:=zk ops ops.toList [] rfl (fun j i h=>by simp at h);have aT:∀ j oj,ops[j]? = some oj→(oj.after.toList.all fun e => !Region.binds .any e||decide (e.on<j))=true∧∀ i oi,i<j→ops[i]? = some oi→((bits ops.toList []).getD j 0).testBit i=true∨(jo ops oi oj=false∧(bV i F=true∨bV j F=true)):=fun j oj hj=>by
  have ai:j<ops.size:=(Array.getElem?_eq_some_iff.1 hj).1;have h1:=List.all_eq_true.1 h j (List.mem_range.2 ai);simp only [hj,Bool.and_eq_true] at h1;refine ⟨h1.1,fun i oi hi ec=>?_⟩;have h2:=List.all_eq_true.1 h1.2 i (List.mem_range.2 hi);simp only [ec,Bool.or_eq_true,Bool.and_eq_true,Bool.not_eq_true'] at h2;exact h2
 refine ⟨fun j o e hj he im=>?_,fun i j oi oj dA hi hj hc=>?_,fun i j oi oj _ dA hi hj h1 h2=>?_⟩
 ·have:=List.all_eq_true.1 (aT j o hj).1 e (by simpa using he)
  simpa [im] using this
 ·rcases (aT j oj hj).2 i oi dA hi with h | ⟨h,-⟩
  ·exact hb j i h
  ·rw [hc] at h; cases h
 ·rcases (aT j oj hj).2 i oi dA hi with h | ⟨-,h | h⟩
  ·exact hb j i h
  ·rw [h1] at h; cases h
  ·rw [h2] at h; cases h
@[irreducible] def C' (E : Env) (f : FuncId) (ds : List DV) (h : List ag) (K1 : DV → Prop) (K2 : AV → List ag → Prop) : Prop :=
 (∃ r,aA E f ds (· = r)∧K1 r)∨∃ r h1,aC E f [] (ds.map .d) (fun a b=>a=r∧b=h1)∧K2 (jM [] h r) (fD [] h h1)
def fJ (E:Env) (ops:Array Oper) (F:List Nat) (n:Nat) (B:List Nat) (X:List ag) (K:List AV→List ag→Prop):Nat→List Oper→List AV→List ag→Prop
 |_,[],s,h=>K s h
 |j,o::l,s,h=>match bV j F with
  |true=>∃ v,(∀ h',cU n B 0 h'=X→dB E ops o s h' v)∧fJ E ops F n B X K (j+1) l (bG s o.dst v) h
  |false=>∃ v h',dq E ops o s h v h'∧pq E o h v h'∧cU n B 0 h'=X∧fJ E ops F n B X K (j+1) l (bG s o.dst v) h'
structure GP (E:Env) (ops:Array Oper) (F:List Nat) (n:Nat) (B:List Nat) (X:List ag) (i0:Nat) (s:List AV) (pl:List (Oper × AV)) (hp:Nat→List ag):Prop where
 lV:∀ j o v,bV (i0+j) F=true→pl[j]? = some (o,v)→(∀ h',cU n B 0 h'=X→dB E ops o (cur pl (fun k=>decide (k<j)) 0 s) h' v)∧hp (j+1)=hp j
 sT:∀ j o v,bV (i0+j) F=false→pl[j]? = some (o,v)→dq E ops o (cur pl (fun k=>decide (k<j)) 0 s) (hp j) v (hp (j+1))∧pq E o (hp j) v (hp (j+1))
 hid:∀ j,j≤pl.length→cU n B 0 (hp j)=X
theorem fJ.lay {K:List AV→List ag→Prop}:∀ {l:List Oper} {i0:Nat} {s:List AV} {h:List ag},cU n B 0 h=X→fJ E ops F n B X K i0 l s h →
  ∃ (pl:List (Oper × AV)) (hp:Nat→List ag),pl.map (·.1)=l∧hp 0=h∧K (cur pl (fun k=>decide (k<pl.length)) 0 s) (hp pl.length)∧GP E ops F n B X i0 s pl hp
 | [],i0,s,h,hX,H=>⟨[],fun _=>h,rfl,rfl,H,⟨fun j o v _ hj=>by simp at hj,fun j o v _ hj=>by simp at hj,fun j _=>hX⟩⟩
 |o::l,i0,s,h,hX,H=>by
  simp only [fJ] at H;have shift:∀ (pl:List (Oper × AV)) (n:Nat) (s:List AV),cur pl (fun k=>decide (k<n+1)) (0+1) s=cur pl (fun k=>decide (k<n)) 0 s:=fun pl n s=>by
   rw [wR 1]
   congr 1
   funext k;simp
  have build:∀ (v:AV) (h':List ag),cU n B 0 h'=X→fJ E ops F n B X K (i0+1) l (bG s o.dst v) h'→(bV i0 F=true→(∀ h',cU n B 0 h'=X→dB E ops o s h' v)∧h'=h)→(bV i0 F=false→dq E ops o s h v h'∧pq E o h v h') →
    ∃ (pl:List (Oper × AV)) (hp:Nat→List ag),pl.map (·.1)=o::l∧hp 0=h∧K (cur pl (fun k=>decide (k<pl.length)) 0 s) (hp pl.length)∧GP E ops F n B X i0 s pl hp:=by
   intro v h' Ad H' f1 f2;obtain ⟨pl,hp,k1,k2,k3,k4⟩:=fJ.lay Ad H';refine ⟨(o,v)::pl,fun n=>match n with | 0=>h | n+1=>hp n,by simp [k1],rfl,?_,⟨fun j o' v' hm hj=>?_,fun j o' v' hm hj=>?_,fun j hj=>?_⟩⟩
   ·rw [cur];simp only [List.length_cons,Nat.zero_lt_succ,decide_true,if_true];rw [shift];exact k3
   ·cases j with
    |zero =>
     simp at hj;obtain ⟨rfl,rfl⟩:=hj;rw [jN _ _ _ _ (fun k _=>decide_eq_false (by omega))];obtain ⟨g1,g2⟩:=f1 hm;exact ⟨g1,k2.trans g2⟩
    |succ j =>
     have:=k4.lV j o' v' (by rwa [show i0+1+j=i0+(j+1) by omega]) (by simpa using hj);rw [cur];simp only [Nat.zero_lt_succ,decide_true,if_true];rw [shift];exact this
   ·cases j with
    |zero =>
     simp at hj;obtain ⟨rfl,rfl⟩:=hj;rw [jN _ _ _ _ (fun k _=>decide_eq_false (by omega))];simp only [k2];exact f2 hm
    |succ j =>
     have:=k4.sT j o' v' (by rwa [show i0+1+j=i0+(j+1) by omega]) (by simpa using hj);rw [cur];simp only [Nat.zero_lt_succ,decide_true,if_true];rw [shift];exact this
   ·cases j with
    |zero=>exact hX
    |succ j=>exact k4.hid j (by simpa using hj)
  split at H
  ·rename_i q;obtain ⟨v,h1,h2⟩:=H;exact build v h hX h2 (fun _=>⟨h1,rfl⟩) (fun e=>by rw [q] at e; cases e)
  ·rename_i q;obtain ⟨v,h',h1,fT,h2,h3⟩:=H;exact build v h' h2 h3 (fun e=>by rw [q] at e; cases e) (fun _=>⟨h1,fT⟩)
theorem WT {J0:Nat} (hc:xu ops F J0) {s0:List AV} {pl:List (Oper × AV)} {hp:Nat→List ag} (lL:pl.map (·.1)=ops.toList) (hx:GP E ops F n B X 0 s0 pl hp)
  {Q:Exit→Act→World→Prop} {Kf:List AV→List ag→Prop} {c0:Cx} (fy:Kf (cur pl (fun k=>decide (k<pl.length)) 0 s0) (hp ops.size))
  (hQ:∀ (a:Act) (c:Cx) (s:List AV) (h:List ag),Kf s h→aE E.G c→c.heap=h→a.defers=[]→VS c s a.tmps→Step c0 c→Q .normal a c.w) :
  ∀ (f:Nat) (listed:Array Bool) (a:Act) (c:Cx) (J:Nat),J0≤J→J≤ops.size→aE E.G c→c.heap=hp J→a.defers=[]→VS c (cur pl (aN listed) 0 s0) a.tmps→Step c0 c→DC ops listed →
   (∀ i,i<ops.size→i<J→bV i F=false→aN listed i=true)→(∀ i,J≤i→bV i F=false→aN listed i=false)→(∀ i,ops.size≤i→aN listed i=false)→er (aN listed) ops.size≤f→wpAny E.P .any ops Q f listed a c.w:=by
 obtain ⟨hlen,dH⟩:=qR lL;have same:∀ d J,J+d≤ops.size→(∀ i,J≤i→i<J+d→bV i F=true)→hp (J+d)=hp J:=by
  intro d
  induction d with
  |zero=>intro J _ _; rfl
  |succ d ih =>
   intro J hJ hm;have h1:=ih J (by omega) (fun i h1 h2=>hm i h1 (by omega));have ai:J+d<pl.length:=by omega
   have h2:=(hx.lV (J+d) (pl[J+d]).1 (pl[J+d]).2 (by rw [Nat.zero_add]; exact hm (J+d) (by omega) (by omega)) (by simp [ai])).2;rw [show J+(d+1)=J+d+1 by omega,h2,h1]
 have oP:∀ i,bV i F=true∨bV i F=false:=fun i=>by cases bV i F <;> simp
 have done:∀ (listed:Array Bool) (a:Act) (c:Cx) (J:Nat),J≤ops.size→aE E.G c→c.heap=hp J→a.defers=[]→VS c (cur pl (aN listed) 0 s0) a.tmps→Step c0 c→(∀ i,J≤i→bV i F=false→aN listed i=false)→(∀ i,ops.size≤i→aN listed i=false)→(∀ i,i<ops.size→aN listed i=true)→Q .normal a c.w:=by
  intro listed a c J hJ h1 h2 h3 h4 h5 hn ho aT
  have hs:hp (J+(ops.size - J))=hp J:=same (ops.size - J) J (by omega) (fun i g1 g2=>by
   rcases oP i with h | h
   ·exact h
   ·have:=hn i g1 h; rw [aT i (by omega)] at this; cases this)
  rw [show J+(ops.size - J)=ops.size by omega] at hs;have e:cur pl (aN listed) 0 s0=cur pl (fun k=>decide (k<pl.length)) 0 s0:=by
   congr 1
   funext i;rcases Nat.lt_or_ge i ops.size with h | h
   ·rw [aT i h]; simp [hlen,h]
   ·rw [ho i h]; simp [hlen]; omega
  rw [e] at h4;exact hQ a c _ _ fy h1 (h2.trans hs.symm) h3 h4 h5
 intro f
 induction f with
 |zero =>
  intro listed a c J sU hJ h1 h2 h3 h4 h5 hd gw fa ho iH;have aT:∀ i,i<ops.size→aN listed i=true:=fun i hi=>zq iH hi;refine ⟨?_,done listed a c J hJ h1 h2 h3 h4 h5 fa ho aT⟩;apply List.eq_nil_iff_forall_not_mem.2;intro i hi;obtain ⟨k1,k2⟩:=mJ hd hi;rw [aT i k2] at k1;cases k1
 |succ f ih =>
  intro listed a c J sU hJ h1 h2 h3 h4 h5 hd gw fa ho iH;refine ⟨fun hr=>?_,fun i hi=>?_⟩
  ·refine done listed a c J hJ h1 h2 h3 h4 h5 fa ho (fun i hi=>?_);cases hl:aN listed i with
   |true=>rfl
   |false =>
    obtain ⟨k,-,hk⟩:=uu hc.pn hd hi hl;rw [hr] at hk;cases hk
  obtain ⟨dF,dT⟩:=mJ hd hi;obtain ⟨⟨o,v⟩,dj⟩:∃ p,pl[i]? = some p:=⟨pl[i]'(by omega),by rw [List.getElem?_eq_getElem]⟩;have ec:=dH i o v dj;obtain ⟨lg,kx⟩:=wQ hc.pair dH hd hi dj h4;have bP:i<listed.size:=by rw [hd.1]; exact dT
  have cL:=fun q=>sq (i:=q) bP;have lW:er (aN (listed.setIfInBounds i true)) ops.size≤f:=by
   have:=(uv (L:=aN listed) (L':=aN (listed.setIfInBounds i true)) (j:=i) (fun q hq=>by rw [cL]; simp [hq]) dF (by rw [cL]; simp) ops.size).1 dT;omega
  have mK:∀ u:Value,(a.put o.dst u).defers=[]:=fun u=>by cases gV:o.dst <;> simp [Act.put,h3]
  have cQ:∀ q,ops.size≤q→aN (listed.setIfInBounds i true) q=false:=fun q hq=>by rw [cL,ho q hq]; simp; omega
  rcases oP i with hm | hm
  ·have qQ:=(hx.lV i o v (by rw [Nat.zero_add]; exact hm) dj).1 (hp J) (hx.hid J (by omega));refine qQ c a h1 h2 h3 kx i ec _ _ (fun c' u k1 k2 k3 k4=>?_);refine ih _ _ c' J sU hJ k1 k2 (mK u) (lg c' u (fun _ _=>k3.vr) k4) (h5.trans k3) (hd.set hi) (fun q hq oA eo=>by rw [cL,gw q hq oA eo]; simp) (fun q hq eo=>?_) cQ lW;rw [cL,fa q hq eo];have:q≠i:=fun e=>by subst e; rw [hm] at eo; cases eo
   simp [this]
  ·have aP:J≤i:=by
    rcases Nat.lt_or_ge i J with h | h
    ·have:=gw i dT h hm; rw [dF] at this; cases this
    ·exact h
   have sV:∀ q,J≤q→q<i→bV q F=true:=fun q g1 g2=>by
    rcases oP q with h | h
    ·exact h
    ·have ai:q<ops.size:=by omega
     have h6:=hd.ready hi (hc.spine q i ops[q] o (by omega) g2 (by simp [ai]) ec h hm);rw [fa q g1 h] at h6;cases h6
   have hs:hp (J+(i - J))=hp J:=same (i - J) J (by omega) (fun q g1 g2=>sV q g1 (by omega));rw [show J+(i - J)=i by omega] at hs;refine (hx.sT i o v (by rw [Nat.zero_add]; exact hm) dj).1 c a h1 (h2.trans hs.symm) h3 kx i ec _ _ (fun c' u k1 k2 k3 k4=>?_);refine ih _ _ c' (i+1) (by omega) (by omega) k1 k2 (mK u) (lg c' u (fun _ _=>k3.vr) k4) (h5.trans k3) (hd.set hi) (fun q hq oA eo=>?_) (fun q hq eo=>by rw [cL,fa q (by omega) eo]; simp; omega) cQ lW;by_cases lX:q=i
   ·subst lX; rw [cL]; simp
   ·rcases Nat.lt_or_ge q J with h | h
    ·rw [cL,gw q hq h eo]; simp
    ·have:=sV q h (by omega); rw [eo] at this; cases this
end
@[irreducible] def bw (E : Env) (ae : FuncId) (R : bY) (ops : Array Oper) (k : List aG) (F : List Nat) (n : Nat) (B : List Nat) (X : List ag) (Fq : List Nat) (j : Nat) (aW : List Oper) (s : List AV) (h : List ag) : Prop :=
 fJ E ops F n B X (fun s2 h2=>aa E ae R [] k s2 h2) j aW s h
section
variable {E:Env} {ae:FuncId} {R:bY} {ops:Array Oper} {k:List aG} {F:List Nat} {n:Nat} {B:List Nat} {X:List ag} {lits:List Nat} {j:Nat} {aW:List Oper} {s:List AV} {h:List ag}
theorem bw.is (H:bw E ae R ops k F n B X lits j aW s h):bw E ae R ops k F n B X lits j aW s h:=H
theorem bw.to (H:bw E ae R ops k F n B X lits j aW s h):fJ E ops F n B X (fun s2 h2=>aa E ae R [] k s2 h2) j aW s h:=by unfold bw at H; exact H
end
def pM (n:Nat) (B:List Nat) (v:AV) (stop k:Prop):Prop:=match eH n B v with
 |true=>k
 |false=>stop
def pN (E:Env) (ae:FuncId) (R:bY) (ops:Array Oper) (k:List aG) (F:List Nat) (n:Nat) (B:List Nat) (X:List ag):Nat→List Nat→Nat→List Oper→List AV→List ag→Prop
 | 0,lits,j,aW,s,h=>bw E ae R ops k F n B X lits j aW s h
 |m+1,lits,j,aW,s,h =>
  match aW with
  | []=>aa E ae R [] k s h
  |o::l=>sx (b9 ops o) 0 s fun so =>
   let stop:Prop:=bw E ae R ops k F n B X lits j aW s h
   let next (v:AV):Prop:=bJ s o.dst v fun s'=>bw E ae R ops k F n B X lits (j+1) l s' h
   let run (v:AV):Prop:=bJ s o.dst v fun s'=>pN E ae R ops k F n B X m lits (j+1) l s' h
   let go:Prop:=match bV j F with
    |true=>match jO o with
     |true=>eX E.T E.G o.op so h (kn E o.op so (fU E o.op so h (jn E.G so o stop fun _ _=>stop) fun _ _=>stop) fun _=>stop) fun v _=>run v
     |false=>match jQ o.op with
      |true=>xr n B so fun sf=>eX E.T E.G o.op sf X (kn E o.op sf (fU E o.op sf X stop fun v _=>pM n B v stop (next v)) fun v=>pM n B v stop (run v)) fun v _=>pM n B v stop (run v)
      |false=>stop
    |false=>eX E.T E.G o.op so h (oq E o.op so h (fU E o.op so h (jn E.G so o stop fun f eT=>my eT (su E f eT h stop fun v h'=>cU n B 0 h'=X∧bJ s o.dst v fun s'=>bw E ae R ops k F n B X lits (j+1) l s' h') fun ds=>C' E f ds h (fun v=>next (.d v)) fun v h'=>cU n B 0 h'=X∧bJ s o.dst v fun s'=>bw E ae R ops k F n B X lits (j+1) l s' h')
      fun v h'=>cU n B 0 h'=X∧bJ s o.dst v fun s'=>bw E ae R ops k F n B X lits (j+1) l s' h')
      fun v h'=>cU n B 0 h'=X∧bJ s o.dst v fun s'=>bw E ae R ops k F n B X lits (j+1) l s' h')
     fun v h'=>cU n B 0 h'=X∧bJ s o.dst v fun s'=>bw E ae R ops k F n B X lits (j+1) l s' h'
   sj ops o.guard go stop fun d b=>aV so d stop fun
    | .d (.bool t)=>match bV d lits with
     |false=>kX t (fN s d (.d (.bool true)) fun s'=>bw E ae R ops k F n B X (d::lits) j aW s' h) (fN s d (.d (.bool false)) fun s'=>bw E ae R ops k F n B X (d::lits) j aW s' h)
     |true=>match BX t b with
      |true=>go
      |false=>run (.d .undef)
    | .d .undef=>run (.d .undef)
    |_=>stop
theorem WU {E:Env} (hE:E.OK) {ae:FuncId} {R:bY} {ops:Array Oper} {k:List aG} {F:List Nat} {n:Nat} {B:List Nat} {X:List ag} (eh:rv n B X=true):∀ (m:Nat) (lits:List Nat) (j:Nat) (aW:List Oper) (s:List AV) (h:List ag),
  cU n B 0 h=X→pN E ae R ops k F n B X m lits j aW s h→fJ E ops F n B X (fun s2 h2=>aa E ae R [] k s2 h2) j aW s h:=by
 intro m
 induction m with
 |zero=>intro lits j aW s h _ H; exact bw.to H
 |succ m ih =>
  intro lits j aW s h hX H;unfold pN at H;split at H
  ·exact H
  rename_i o l;rw [zm] at H;have zn:∀ (d:Nat) (x:AV),(bZ (b9 ops o) 0 s)[d]? = some x→x ≠ .any→s[d]? = some x:=fun d x hx aJ=>by
   rcases ur _ 0 d s x hx with h | ⟨-,h⟩
   ·exact absurd h aJ
   ·exact h
  have Hf:∀ (v:AV),(bV j F=true→∀ h',cU n B 0 h'=X→dB E ops o s h' v)→(bV j F=false→dq E ops o s h v h∧pq E o h v h)→fJ E ops F n B X (fun s2 h2=>aa E ae R [] k s2 h2) (j+1) l (bG s o.dst v) h→fJ E ops F n B X (fun s2 h2=>aa E ae R [] k s2 h2) j (o::l) s h:=by
   intro v h1 h2 h3;unfold fJ;cases q:bV j F
   ·exact ⟨v,h,(h2 q).1,(h2 q).2,hX,h3⟩
   ·exact ⟨v,h1 q,h3⟩
  have Ae:∀ (v:AV) (h':List ag),bV j F=false→dq E ops o s h v h'→pq E o h v h'→cU n B 0 h'=X→fJ E ops F n B X (fun s2 h2=>aa E ae R [] k s2 h2) (j+1) l (bG s o.dst v) h'→fJ E ops F n B X (fun s2 h2=>aa E ae R [] k s2 h2) j (o::l) s h:=by
   intro v h' q h1 fT h2 h3;unfold fJ;rw [q];exact ⟨v,h',h1,fT,h2,h3⟩
  have free:∀ {v:AV} {st kk:Prop},pM n B v st kk→st∨(eH n B v=true∧kk):=fun {v st kk} H=>by
   unfold pM at H;split at H
   ·rename_i q; exact .inr ⟨q,H⟩
   ·exact .inl H
  dsimp only at H
  have go:ik ops o (bZ (b9 ops o) 0 s) true→(match bV j F with
    |true=>match jO o with
     |true=>eX E.T E.G o.op (bZ (b9 ops o) 0 s) h (kn E o.op (bZ (b9 ops o) 0 s) (fU E o.op (bZ (b9 ops o) 0 s) h (jn E.G (bZ (b9 ops o) 0 s) o (bw E ae R ops k F n B X lits j (o::l) s h) fun _ _=>bw E ae R ops k F n B X lits j (o::l) s h) fun _ _=>bw E ae R ops k F n B X lits j (o::l) s h) fun _=>bw E ae R ops k F n B X lits j (o::l) s h) fun v _=>bJ s o.dst v fun s'=>pN E ae R ops k F n B X m lits (j+1) l s' h
     |false=>match jQ o.op with
      |true=>xr n B (bZ (b9 ops o) 0 s) fun sf=>eX E.T E.G o.op sf X (kn E o.op sf (fU E o.op sf X (bw E ae R ops k F n B X lits j (o::l) s h) fun v _=>pM n B v (bw E ae R ops k F n B X lits j (o::l) s h) (bJ s o.dst v fun s'=>bw E ae R ops k F n B X lits (j+1) l s' h)) fun v=>pM n B v (bw E ae R ops k F n B X lits j (o::l) s h) (bJ s o.dst v fun s'=>pN E ae R ops k F n B X m lits (j+1) l s' h)) fun v _=>pM n B v (bw E ae R ops k F n B X lits j (o::l) s h) (bJ s o.dst v fun s'=>pN E ae R ops k F n B X m lits (j+1) l s' h)
      |false=>bw E ae R ops k F n B X lits j (o::l) s h
    |false=>eX E.T E.G o.op (bZ (b9 ops o) 0 s) h (oq E o.op (bZ (b9 ops o) 0 s) h (fU E o.op (bZ (b9 ops o) 0 s) h (jn E.G (bZ (b9 ops o) 0 s) o (bw E ae R ops k F n B X lits j (o::l) s h) fun f eT=>my eT (su E f eT h (bw E ae R ops k F n B X lits j (o::l) s h) fun v h'=>cU n B 0 h'=X∧bJ s o.dst v fun s'=>bw E ae R ops k F n B X lits (j+1) l s' h') fun ds=>C' E f ds h (fun v=>bJ s o.dst (.d v) fun s'=>bw E ae R ops k F n B X lits (j+1) l s' h) fun v h'=>cU n B 0 h'=X∧bJ s o.dst v fun s'=>bw E ae R ops k F n B X lits (j+1) l s' h')
      fun v h'=>cU n B 0 h'=X∧bJ s o.dst v fun s'=>bw E ae R ops k F n B X lits (j+1) l s' h')
      fun v h'=>cU n B 0 h'=X∧bJ s o.dst v fun s'=>bw E ae R ops k F n B X lits (j+1) l s' h')
     fun v h'=>cU n B 0 h'=X∧bJ s o.dst v fun s'=>bw E ae R ops k F n B X lits (j+1) l s' h')→fJ E ops F n B X (fun s2 h2=>aa E ae R [] k s2 h2) j (o::l) s h:=by
   intro hw H;split at H
   ·rename_i q;split at H
    ·rename_i hF;have aR:jQ o.op=true:=by
      obtain ⟨dst,op,type,pos,after,guard⟩:=o;cases op <;> first | rfl | (cases guard <;> cases hF)
     have H':(match jQ o.op with
      |true=>eX E.T E.G o.op (bZ (b9 ops o) 0 s) h (kn E o.op (bZ (b9 ops o) 0 s) (fU E o.op (bZ (b9 ops o) 0 s) h (jn E.G (bZ (b9 ops o) 0 s) o (bw E ae R ops k F n B X lits j (o::l) s h) fun _ _=>bw E ae R ops k F n B X lits j (o::l) s h) fun _ _=>bw E ae R ops k F n B X lits j (o::l) s h) fun _=>bw E ae R ops k F n B X lits j (o::l) s h) fun v _=>bJ s o.dst v fun s'=>pN E ae R ops k F n B X m lits (j+1) l s' h
      |false=>bw E ae R ops k F n B X lits j (o::l) s h):=by rw [aR]; exact H
     rcases K9 hF H' id with H | ⟨v,H,ho⟩
     ·exact bw.to H
     ·rw [di] at H;exact Hf v (fun _ h' _=>dB.of hw (ho h')) (fun e=>by rw [q] at e; cases e) (ih _ _ _ _ _ hX H)
    split at H
    ·rename_i aR;rw [NY] at H;have fin:∀ v,eH n B v=true→aQ E o.op (nP n B (bZ (b9 ops o) 0 s)) X v X→fJ E ops F n B X (fun s2 h2=>aa E ae R [] k s2 h2) (j+1) l (bG s o.dst v) h→fJ E ops F n B X (fun s2 h2=>aa E ae R [] k s2 h2) j (o::l) s h:=fun v hv aK H =>
      Hf v (fun _ h' e=>dB.of hw (aQ.WO (by rw [e]; exact eh) hv (by rw [e]; exact aK))) (fun e=>by rw [q] at e; cases e) H
     rcases tE hE (K7 (K:=fun v=>pM n B v (bw E ae R ops k F n B X lits j (o::l) s h) (bJ s o.dst v fun s'=>pN E ae R ops k F n B X m lits (j+1) l s' h)) aR H) with H | ⟨v,h',⟨rfl,H⟩,ho⟩
     ·rcases ER hE H with H | ⟨v,H,ho⟩
      case inr =>
       rcases free H with H | ⟨hv,H⟩
       ·exact bw.to H
       ·rw [di] at H;exact fin v hv (ho _) (ih _ _ _ _ _ hX H)
      rcases tW hE (K8 (K:=fun v=>pM n B v (bw E ae R ops k F n B X lits j (o::l) s h) (bJ s o.dst v fun s'=>bw E ae R ops k F n B X lits (j+1) l s' h)) aR H) with H | ⟨v,h',⟨rfl,H⟩,ho⟩
      ·exact bw.to H
      ·rcases free H with H | ⟨hv,H⟩
       ·exact bw.to H
       ·rw [di] at H;exact fin v hv ho (bw.to H)
     ·rcases free H with H | ⟨hv,H⟩
      ·exact bw.to H
      ·rw [di] at H;exact fin v hv ho (ih _ _ _ _ _ hX H)
    ·exact bw.to H
   ·rename_i q;by_cases hA:∃ t,o.op = .alloc t
    ·obtain ⟨t,e⟩:=hA;simp only [e,eX,oq,kn,yK,fU,lQ,nr,sa,ot,jn] at H;rcases bj H with H | ⟨i,hi,H⟩
     ·exact bw.to H
     split at H
     ·rename_i q1 q2;rw [qb,nf,Nat.zero_add] at H;obtain ⟨e2,H⟩:=H;rw [di] at H;have hz:=Nat.eq_of_beq_eq_true q1;have hp:0<i.size:=r8 q2;exact Ae _ _ q (dq.of hw (by rw [e]; exact Ek hE hi hz hp)) (fun t' e' _=>by rw [e] at e'; cases e'; exact ⟨rfl,i,hi,hz,hp,rfl⟩) e2 (bw.to H)
     ·exact bw.to H
    have pt:∀ (h:List ag) (v:AV) (h':List ag),pq E o h v h':=fun h v h' t e=>absurd ⟨t,e⟩ hA;have fin:∀ v h',aQ E o.op (bZ (b9 ops o) 0 s) h v h'→(cU n B 0 h'=X∧bJ s o.dst v fun s'=>bw E ae R ops k F n B X lits (j+1) l s' h')→fJ E ops F n B X (fun s2 h2=>aa E ae R [] k s2 h2) j (o::l) s h:=fun v h' ho H=>by
     obtain ⟨e,H⟩:=H;rw [di] at H;exact Ae v h' q (dq.of hw ho) (pt _ _ _) e (bw.to H)
    rcases tE hE H with H | ⟨v,h',H,ho⟩
    ·rcases yL hE H with H | ⟨v,h',H,ho⟩
     case inr=>exact fin v h' ho H
     rcases tW hE H with H | ⟨v,h',H,ho⟩
     ·rcases BW H with H | ⟨fx,args,ts,f,a1,av,a2,cm,hv,kq,H⟩
      ·exact bw.to H
      rcases tq (a1++av++a2) (su E f (a1++av++a2) h (bw E ae R ops k F n B X lits j (o::l) s h) fun v h'=>cU n B 0 h'=X∧bJ s o.dst v fun s'=>bw E ae R ops k F n B X lits (j+1) l s' h') (fun ds=>C' E f ds h (fun v=>bJ s o.dst (.d v) fun s'=>bw E ae R ops k F n B X lits (j+1) l s' h) fun v h'=>cU n B 0 h'=X∧bJ s o.dst v fun s'=>bw E ae R ops k F n B X lits (j+1) l s' h') with ⟨ds,e1,e2⟩ | e2
      ·rw [e2] at H;unfold C' at H;rcases H with ⟨r,hc,hk⟩ | ⟨r,h1,hc,e,hk⟩
       ·rw [di] at hk;exact Ae _ h q (dq.call hw cm hv kq e1 hc) (pt _ _ _) hX (bw.to hk)
       ·rw [di] at hk;have e3:(a1++av++a2).map (kW [] h)=ds.map .d:=by rw [e1,List.map_map]; rfl
        exact Ae _ _ q (dq.oy (ah:=[]) hw cm hv kq (by rw [e3]; exact hc) List.nodup_nil (fun j hj=>by simp at hj)) (pt _ _ _) e (bw.to hk)
      ·rw [e2] at H;rcases K6 H with H | ⟨ah,r,hp,hc,hn,ai,hk⟩
       ·exact bw.to H
       obtain ⟨e,hk⟩:=hk;rw [di] at hk;exact Ae _ _ q (dq.oy hw cm hv kq hc hn ai) (pt _ _ _) e (bw.to hk)
     ·exact fin v h' ho H
    ·exact fin v h' ho H
  have skip:ik ops o (bZ (b9 ops o) 0 s) false→o.guard≠none→(bJ s o.dst (.d .undef) fun s'=>pN E ae R ops k F n B X m lits (j+1) l s' h)→fJ E ops F n B X (fun s2 h2=>aa E ae R [] k s2 h2) j (o::l) s h:=fun hw WV H=>by
   rw [di] at H;exact Hf _ (fun _ h' _=>dB.skip hw) (fun _=>⟨dq.skip hw,fun _ _ e=>absurd e WV⟩) (ih _ _ _ _ _ hX H)
  unfold sj at H;split at H
  ·rename_i hg;exact go (eO hg) H
  ·rename_i jj b hg;rcases bj H with H | ⟨oj,kr,H⟩
   ·exact bw.to H
   split at H
   ·rename_i d hd;rcases bj H with H | ⟨x,hx,H⟩
    ·exact bw.to H
    split at H
    ·rename_i t;have n':=zn d _ hx (by simp);split at H
     ·refine y6 H (fun e H2=>?_) (fun e H2=>?_)
      ·subst e;rw [gQ,kY n'] at H2;exact bw.to H2
      ·subst e;rw [gQ,kY n'] at H2;exact bw.to H2
     ·have hw:=Bt hg kr hd hx;split at H
      ·rename_i q;have:(t==b)=true:=by cases t <;> cases b <;> first | rfl | cases q
       rw [this] at hw;exact go hw H
      ·rename_i q;have:(t==b)=false:=by cases t <;> cases b <;> first | rfl | cases q
       rw [this] at hw;exact skip hw (by rw [hg]; simp) H
    ·exact skip (yu hg kr hd hx) (by rw [hg]; simp) H
    ·exact bw.to H
   ·exact bw.to H
section
variable {E:Env} {ae:FuncId} {R:bY} {ops:Array Oper} {k:List aG} {F:List Nat} {n:Nat} {B:List Nat} {X:List ag} {lits:List Nat} {j:Nat} {aW:List Oper} {s:List AV} {h:List ag}
theorem bw.run (hE:E.OK) (m:Nat) (eh:rv n B X=true) (hX:cU n B 0 h=X) (H:pN E ae R ops k F n B X m lits j aW s h):bw E ae R ops k F n B X lits j aW s h:=by
 unfold bw; exact WU hE eh m lits j aW s h hX H
theorem Hg:∀ {l:List Oper} {j:Nat} {s:List AV} {h:List ag},fJ E ops F n B X (fun s2 h2=>aa E ae R [] k s2 h2) j l s h→fJ E ops F n B X (fun s2 h2=>AW E R.fx.f0 ⟨⟨ae,R.fx.cE,R.fx.aH⟩,k,s2⟩ R.fx.cls h2 R) j l s h
 | [],_,_,_,H=>aa.to H
 |o::l,j,s,h,H=>by
  unfold fJ at H ⊢;split at H
  ·obtain ⟨v,h1,h2⟩:=H; exact ⟨v,h1,Hg h2⟩
  ·obtain ⟨v,h',h1,fT,h2,h3⟩:=H; exact ⟨v,h',h1,fT,h2,Hg h3⟩
def Af {α:Sort _} (n:Nat) (B:List Nat):Nat→List ag→(List ag→α)→α
 |_,[],k=>k []
 |i,b::r,k=>match Nat.ble n i with
  |true=>k []
  |false=>match bV i B with
   |true=>Af n B (i+1) r fun r'=>k (.gone::r')
   |false=>Af n B (i+1) r fun r'=>k (b::r')
theorem N1 {α:Sort _}:∀ (i:Nat) (h:List ag) (k:List ag→α),Af n B i h k=k (cU n B i h)
 |_,[],_=>rfl
 |i,b::r,k=>by
  simp only [Af,cU];split
  ·rfl
  ·split <;> rename_i q <;> rw [N1 (i+1) r] <;> simp only [q]
theorem aa.Hh (hE:E.OK) (hm:E.P.follows .mixedOrders=true) (F B:List Nat) (m:Nat) {id:Nat} (jP:C9 ops F=true)
  (H:qI h 0 fun n=>Af n B 0 h fun X=>match rv n B X with
   |true=>bw E ae R ops k F n B X [] 0 ops.toList s h
   |false=>False) (dL:R.fx.cE=none:=by rfl) (dJ:R.fx.aH=[]:=by rfl):aa E ae R lits (.code (.region id ops true)::k) s h:=by
 rw [wu,Nat.zero_add,N1] at H;split at H
 case h_2=>exact H.elim
 rename_i eh;obtain ⟨pl,hp,p1,p2,p3,p4⟩:=fJ.lay (E:=E) (ops:=ops) (F:=F) (n:=h.length) (B:=B) rfl (Hg (bw.to H));obtain ⟨hlen,dH⟩:=qR p1;refine .of (AW.zu hm dL dJ fun c t Q hQ h1 h2 h4=>?_);rw [hlen] at p3;refine WT (He jP) p1 p4 (Kf:=fun s2 h2=>AW E R.fx.f0 ⟨⟨ae,R.fx.cE,R.fx.aH⟩,k,s2⟩ R.fx.cls h2 R) (by rw [hlen]; exact p3) hQ ops.size _ ⟨t,[]⟩ c 0 (Nat.le_refl _) (Nat.zero_le _) h1 (h2.trans p2.symm) rfl ?_ (Step.refl c h1.bD) ⟨by simp,fun j o e _ hl=>by rw [ky] at hl; cases hl⟩ (fun i _ hi=>by omega) (fun i _ _=>ky _ i) (fun i _=>ky _ i) (Ce _ _);rw [jN _ 0 s _ (fun i _=>ky _ _)];exact h4
end
end Go.ax
end
section
namespace Go.ax
open Go Go.RowKit
open Go.ChangeMaps (setBlock)
theorem Ag {c0 c c':Cx} {i:Nat} (hh:∀ x,c.heap[i]? = some x→c'.heap[i]? = some x) (ho:∀ x,c.heap[i]? = some x→c'.own i=c.own i) {bx:ag} (h:yq c0 c i bx):yq c0 c' i bx:=by
 cases bx with
 |cells cs =>
  rcases h with ⟨cs',h1,h2,h3⟩ | h1
  ·exact .inl ⟨cs',hh _ h1,(ho _ h1).trans h2,h3⟩
  ·exact .inr (hh _ h1)
 |arr g sz l =>
  rcases h with ⟨g',l',h1,h2⟩ | h1
  ·refine .inl ⟨g',l',hh _ h1,?_⟩;rcases h2 with h2 | ⟨h2,h3,h4⟩
   ·exact .inl h2
   ·exact .inr ⟨h2,h3,(ho _ h1).trans h4⟩
  ·exact .inr (hh _ h1)
 |map es =>
  rcases h with ⟨ew,h1,h2⟩ | h1
  ·exact .inl ⟨ew,hh _ h1,(ho _ h1).trans h2⟩
  ·exact .inr (hh _ h1)
 |gone=>exact hh _ h
section
variable {G:List (Nat × DV)} {c:Cx} {bx:ag} {blk cap:Nat}
def Cx.dR (c:Cx) (b blk:Nat):Cx:=⟨fun i=>if i=b then none else c.own i,c.heap.set b .gone,fun x=>c.au x∨x=blk,c.w⟩
variable {b:Nat}
theorem xv {i:Nat} {p:Nat × Nat} (hi:(c.dR b blk).own i=some p):i≠b∧c.own i=some p:=by
 simp only [Cx.dR] at hi;split at hi
 ·cases hi
 ·rename_i q; exact ⟨q,hi⟩
theorem WW (hb:c.own b=some (blk,cap)) (x:Nat):(c.dR b blk).bad x↔c.bad x:=by
 constructor
 ·rintro ((h | h) | ⟨i,n,h⟩)
  ·exact .inl h
  ·subst h; exact .inr ⟨b,cap,hb⟩
  ·exact .inr ⟨i,n,(xv h).2⟩
 ·rintro (h | ⟨i,n,h⟩)
  ·exact .inl (.inl h)
  ·by_cases e:i=b
   ·subst e; rw [hb] at h; cases h; exact .inl (.inr rfl)
   ·exact .inr ⟨i,n,by simp only [Cx.dR,if_neg e]; exact h⟩
theorem N2 (hb:c.own b=some (blk,cap)) (x:Nat) (_:x<c.w.heap.size) (hn:¬ c.bad x):¬ (c.dR b blk).bad x∧(c.dR b blk).w.heap[x]? = c.w.heap[x]? := ⟨fun h=>hn ((WW hb x).1 h),rfl⟩
theorem WX {i:Nat} {y:ag} (hi:c.heap[i]? = some y):tj c (c.dR b blk) i y:=by
 by_cases e:i=b
 ·subst e;have hg:(c.dR i blk).heap[i]? = some .gone:=List.getElem?_set_self (aZ hi);cases y with
  |cells cs=>exact .inr hg
  |arr g sz l=>exact .inr hg
  |map es=>exact .inr hg
  |gone=>exact hg
 ·exact ni hi (List.getElem?_set_ne (Ne.symm e)) (by simp only [Cx.dR,if_neg e])
theorem uW (hb:c.own b=some (blk,cap)) {x:AV} {v:Value} (hv:VR c x v):VR (c.dR b blk) x v:=tn (N2 hb) (fun _ _=>WX) hv
theorem Ah (hb:c.own b=some (blk,cap)) {x:DV} {v:Value} (hv:VD c.bad c.w x v):VD (c.dR b blk).bad (c.dR b blk).w x v:=hv.mono (N2 hb)
theorem aE.dR (ho:aE G c) (hb:c.own b=some (blk,cap)):aE G (c.dR b blk) where
 bD:=fun x h=>h.elim (ho.bD x) fun e=>by subst e; exact (ho.bI b _ cap hb).1
 bI:=fun i x n hi=>by
  have:=ho.bI i x n (xv hi).2;refine ⟨this.1,?_⟩;show i<(c.heap.set b .gone).length;rw [List.length_set]; exact this.2
 inj:=fun i j x n m hi hj=>ho.inj i j x n m (xv hi).2 (xv hj).2
 sep:=fun i x n hi h=>by
  obtain ⟨h1,h2⟩:=xv hi;rcases h with h | h
  ·exact ho.sep i x n h2 h
  ·subst h; exact h1 (ho.inj i b x n cap h2 hb)
 box:=fun i y hx=>by
  by_cases e:i=b
  ·subst e;have ai:i<c.heap.length:=(ho.bI i _ cap hb).2;have:(c.dR i blk).heap[i]? = some .gone:=List.getElem?_set_self ai;rw [this] at hx;cases hx;show (c.dR i blk).own i=none;simp [Cx.dR]
  ·have gF:c.heap[i]? = some y:=by
    have:(c.dR b blk).heap[i]? = c.heap[i]? := List.getElem?_set_ne (Ne.symm e)
    rwa [this] at hx
   exact (ho.box i y gF).gen (fun _ _=>uW hb) (fun _ _=>Ah hb) (by simp only [Cx.dR,if_neg e]) (fun _ _ _=>rfl)
 fO:=fun g e hg=>uW hb (ho.fO g e hg)
theorem N3 {c0:Cx} (hr:fw c0 c) (hb:c.own b=some (blk,cap)) (hn:c0.heap.length≤b):c0.w.heap.size≤blk:=by
 rcases Nat.lt_or_ge blk c0.w.heap.size with h | h
 ·obtain ⟨m,hm⟩:=hr.dC b blk cap hb h;have:=hr.nh b _ hm;omega
 ·exact h
theorem fw.dR {c0:Cx} (hr:fw c0 c) (hb:c.own b=some (blk,cap)) (hn:c0.heap.length≤b):fw c0 (c.dR b blk) where
 lim:=hr.lim
 nh:=hr.nh
 au:=fun x h => .inl (hr.au x h)
 qo:=fun x h=>h.elim (hr.qo x) fun e => .inr (by subst e; exact N3 hr hb hn)
 os:=hr.os
 tape:=hr.tape
 output:=hr.output
 size:=hr.size
 keep:=hr.keep
 dC:=fun i x n hi ai=>hr.dC i x n (xv hi).2 ai
 boxes:=fun i bx hi=>by
  have bL:i≠b:=fun e=>by have:=aZ hi; omega
  exact Ag (fun x hx=>(List.getElem?_set_ne (Ne.symm bL)).trans hx) (fun x hx=>by simp only [Cx.dR,if_neg bL]) (hr.boxes i bx hi)
theorem ig.dR {lim:Nat} {rows:List bU} (h:ig lim c rows) (hb:c.own b=some (blk,cap)):ig lim (c.dR b blk) rows :=
 ⟨fun r hr=>(h.each r hr).gen (fun x hx=>⟨.inl ((h.each r hr).au x hx),rfl⟩) (fun _ _=>Ah hb) (fun _ _=>uW hb),h.nodup⟩
theorem N4 {lim:Nat} {rows:List bU} (h:ig lim c rows) (ho:aE G c) (hb:c.own b=some (blk,cap)):blk ∉ rows.flatMap bU.dc:=fun hm=>by
 obtain ⟨r,hr,hx⟩:=List.mem_flatMap.1 hm;exact ho.sep b blk cap hb ((h.each r hr).au blk hx)
theorem WY {α:Type} {a b c:List α} (h:(a++b++c).Nodup):(a++c).Nodup∧∀ x∈b,x ∉ a++c:=by
 have hp:(a++b++c).Perm (b++(a++c)):=by
  rw [List.append_assoc,← List.append_assoc b a c];refine (List.Perm.trans ?_ (List.Perm.append_right c List.perm_append_comm));rw [List.append_assoc]
 have h2:=(hp.nodup_iff).1 h;rw [List.nodup_append] at h2;exact ⟨h2.2.1,fun x hx gF=>h2.2.2 x hx x gF rfl⟩
theorem ig.Ai {lim:Nat} {g1 g2:List bU} {g:bU} (h:ig lim c (g1++g::g2)):ig lim c (g1++g2)∧iO lim c g∧∀ x∈g.dc,x ∉ (g1++g2).flatMap bU.dc:=by
 have hn:=h.nodup;rw [List.flatMap_append,List.flatMap_cons,← List.append_assoc] at hn;obtain ⟨h1,h2⟩:=WY hn;rw [← List.flatMap_append] at h1 h2;refine ⟨⟨fun r hr=>h.each r ?_,h1⟩,h.each g (by simp),h2⟩;rcases List.mem_append.1 hr with hr | hr
 ·exact List.mem_append_left _ hr
 ·exact List.mem_append_right _ (List.mem_cons_of_mem _ hr)
end
theorem ep.Ai {lim:Nat} {c:Cx} {g1 g2 L:List bU} {g:bU} (h:ep lim c (g1++g::g2) L):ep lim c (g1++g2) L∧iO lim c g∧∀ x∈g.dc,x ∉ ((g1++g2)++L).flatMap bU.dc:=by
 have h1:=h.all;rw [List.append_assoc,List.cons_append] at h1;obtain ⟨k1,k2,k3⟩:=h1.Ai;rw [← List.append_assoc] at k1 k3;refine ⟨⟨k1,fun x hx=>h.flat x ?_⟩,k2,k3⟩;rcases List.mem_append.1 hx with hx | hx
 ·exact List.mem_append_left _ hx
 ·exact List.mem_append_right _ (List.mem_cons_of_mem _ hx)
theorem N5 {c:Cx} {s:List AV} {t:Array Value} (hv:VS c s t) {d:Nat} {x:AV} (hx:∀ v,t[d]? = some v→VR c x v):VS c (s.set d x) t:=by
 refine ⟨by simpa using hv.1,fun i y u hy hu=>?_⟩;by_cases hd:d=i
 ·subst hd;have hl:d<s.length:=by have:=aZ hy; simpa using this
  rw [List.getElem?_set_self hl] at hy;cases hy;exact hx u hu
 ·rw [List.getElem?_set_ne hd] at hy;exact hv.2 i y u hy hu
section
variable {E:Env} {ae:FuncId} {R:bY} {td:List aG} {s:List AV} {h:List ag} {lits:List Nat}
theorem aa.dR (d b:Nat) {g:Nat} {ts:Nat × Nat} {l:List DV} (hb:h[b]? = some (.arr g ts l)) (iT:R.n≤b) (hd:s[d]? = some (.own b g))
  (H0:l=[]→aa E ae R lits td (s.set d (.d (.raw (.slice none 0 0)))) (h.set b .gone))
  (H:∀ blk cap,aa E ae ⟨R.n,R.Q,.row ⟨blk,cap,ts,l⟩::R.rows,R.fx⟩ lits td (s.set d (.d (.raw (.slice (some ⟨blk,0,none⟩) l.length cap)))) (h.set b .gone)):aa E ae R lits td s h:=by
 refine .of ?_;unfold AW;intro c0 c t ea h0 h1 h2 h3 hr bX h4 h5 cs;subst h2;obtain ⟨q0,q1,q2⟩:=h3.box b _ hb;rcases q2 with ⟨q2,q3⟩ | ⟨blk,cap,vs,q2,q3,q4,q5,q6,q7⟩
 ·subst q3;have H:=(H0 rfl).to
  let c':Cx:={ c with own:=fun i=>if i=b then none else c.own i,heap:=c.heap.set b .gone }
  have fz:c'.heap[b]? = some .gone:=List.getElem?_set_self (aZ hb);have bC:∀ i,c'.own i=c.own i:=fun i=>by
   simp only [c'];split
   ·rename_i e; subst e; exact q2.symm
   ·rfl
  have gP:∀ x,c'.bad x↔c.bad x:=fun x=>by
   constructor
   ·rintro (h | ⟨i,n,h⟩)
    ·exact .inl h
    ·exact .inr ⟨i,n,(bC i) ▸ h⟩
   ·rintro (h | ⟨i,n,h⟩)
    ·exact .inl h
    ·exact .inr ⟨i,n,(bC i).trans h⟩
  have aR:Step c c':=⟨rfl,h3.bD,rfl,rfl,rfl,Nat.le_refl _,fun _ _ _=>rfl,fun i x n hi _=>⟨n,(bC i) ▸ hi⟩,fun i bx hi=>by
   by_cases e:i=b
   ·subst e;rw [hb] at hi;cases hi;exact .inr fz
   ·exact ni hi (List.getElem?_set_ne (Ne.symm e)) (bC i)⟩
  have aK:aE E.G c':=h3.next aR (fun i x n hi=>by
    have:=h3.bI i x n ((bC i) ▸ hi);refine ⟨this.1,?_⟩;show i<(c.heap.set b .gone).length;rw [List.length_set]; exact this.2) (fun i j x n m hi hj=>h3.inj i j x n m ((bC i) ▸ hi) ((bC j) ▸ hj)) (fun i bx hi=>by
   by_cases e:i=b
   ·subst e;rw [fz] at hi;cases hi;right;show c'.own i=none;simp [c']
   ·have:c'.heap[i]? = c.heap[i]? := List.getElem?_set_ne (Ne.symm e);rw [this] at hi
    exact .inl ⟨hi,bC i,fun _ _ _=>rfl⟩)
  unfold AW at H;refine H c0 c' t ea h0 h1 rfl aK (hr.step aR) (bX.step h3 aR) (N5 (aR.vs h4) fun v hv=>?_) (aR.cr h5) cs;have gR:=h4.2 d _ v hd hv;rcases oh hb gR with ⟨blk,cap,r1,rfl⟩ | ⟨-,rfl,-⟩
  ·rw [q2] at r1; cases r1
  ·exact .d _ _ (.raw _ rfl)
 ·have H:=(H blk cap).to;unfold AW at H;have mE:=N3 hr q2 (by omega);have aK:=h3.dR q2;refine H c0 (c.dR b blk) t ea h0 h1 rfl aK (hr.dR q2 (by omega)) ⟨⟨fun r Hi=>?_,?_⟩,fun g hg=>(List.mem_cons.1 hg).elim (fun e=>by subst e; trivial) (bX.flat g)⟩ (N5 ⟨h4.1,fun i x v hx hv=>uW q2 (h4.2 i x v hx hv)⟩ fun v hv=>?_) (qm (fun _ _=>uW q2) h5) cs
  ·rcases List.mem_cons.1 Hi with rfl | Hi
   ·show qp c0.w.heap.size (c.dR b blk) ⟨blk,cap,ts,l⟩
    exact ⟨Or.inr rfl,mE,q0,q1,vs,q3,q4,q5,q6,fun i j e x he hx=>by
     obtain ⟨v,k1,k2,k3⟩:=q7 i j e x he hx
     exact ⟨v,k1,k2,Ah q2 k3⟩⟩
   ·exact (bX.all.dR q2).each r Hi
  ·rw [List.cons_append,List.flatMap_cons];refine List.nodup_append.2 ⟨by simp [bU.dc],bX.all.nodup,fun x hx y hy e=>?_⟩;simp [bU.dc] at hx;subst hx; subst e;exact N4 bX.all h3 q2 hy
  ·have gR:=h4.2 d _ v hd hv;rcases oh hb gR with ⟨lI,ki,r1,rfl⟩ | ⟨rfl,rfl,r1⟩
   ·rw [q2] at r1; cases r1;exact .d _ _ (.raw _ rfl)
   ·rw [q2] at r1; cases r1
end
end Go.ax
end
section
namespace Go.ax
open Go Go.RowKit
open Go.ChangeMaps (setBlock)
section
variable {G:List (Nat × DV)} {c:Cx} {r:Nat} {w':World}
structure Touch (c:Cx) (r:Nat) (w':World):Prop where
 au:c.au r
 os:w'.os=c.w.os
 tape:w'.tape=c.w.tape
 output:w'.output=c.w.output
 size:w'.heap.size=c.w.heap.size
 other:∀ b,b≠r→w'.heap[b]? = c.w.heap[b]?
theorem Touch.xY (h:Touch c r w') (b:Nat) (_:b<c.w.heap.size) (hn:¬ c.bad b):¬ (c.dN w').bad b∧(c.dN w').w.heap[b]? = c.w.heap[b]? :=
 ⟨hn,h.other b (fun e=>by subst e; exact hn (.inl h.au))⟩
theorem Touch.vr (h:Touch c r w') {x:AV} {v:Value} (hv:VR c x v):VR (c.dN w') x v:=tn h.xY (fun _ _ hi=>ni hi rfl rfl) hv
theorem Touch.vd (h:Touch c r w') {x:DV} {v:Value} (hv:VD c.bad c.w x v):VD (c.dN w').bad (c.dN w').w x v:=hv.mono h.xY
theorem Touch.aK (h:Touch c r w') (ho:aE G c):aE G (c.dN w') where
 bD:=fun b hb=>by show b<w'.heap.size; rw [h.size]; exact ho.bD b hb
 bI:=fun i b n hi=>by show b<w'.heap.size∧_; rw [h.size]; exact ho.bI i b n hi
 inj:=ho.inj
 sep:=ho.sep
 box:=fun i bx hi=>(ho.box i bx hi).gen (fun _ _=>h.vr) (fun _ _=>h.vd) rfl (fun b n hn=>h.other b (fun e=>by subst e; exact ho.sep i _ n hn h.au))
 fO:=fun g e hg=>h.vr (ho.fO g e hg)
theorem Touch.rel (h:Touch c r w') {c0:Cx} (hr:fw c0 c) (hl:c0.w.heap.size≤r):fw c0 (c.dN w') where
 lim:=hr.lim
 nh:=hr.nh
 au:=hr.au
 qo:=hr.qo
 os:=h.os.trans hr.os
 tape:=h.tape.trans hr.tape
 output:=h.output.trans hr.output
 size:=by show _≤w'.heap.size; rw [h.size]; exact hr.size
 keep:=fun b hb hn=>(h.other b (by omega)).trans (hr.keep b hb hn)
 dC:=hr.dC
 boxes:=fun i bx hi=>Ag (fun _ hx=>hx) (fun _ _=>rfl) (hr.boxes i bx hi)
theorem Touch.rows (h:Touch c r w') {lim:Nat} {rows:List bU} (hr:ig lim c rows) (hn:r ∉ rows.flatMap bU.dc):ig lim (c.dN w') rows :=
 ⟨fun g hg=>(hr.each g hg).gen (fun b hb=>⟨(hr.each g hg).au b hb,h.other b (fun e=>hn (List.mem_flatMap.2 ⟨g,hg,e ▸ hb⟩))⟩) (fun _ _=>h.vd) (fun _ _=>h.vr),hr.nodup⟩
variable {o:Obj}
theorem fw.cG {c0:Cx} (hr:fw c0 c):fw c0 (c.cG o) where
 lim:=hr.lim
 nh:=hr.nh
 au:=fun b h => .inl (hr.au b h)
 qo:=fun b h=>h.elim (hr.qo b) fun e => .inr (by rw [e]; exact hr.size)
 os:=hr.os
 tape:=hr.tape
 output:=hr.output
 size:=by have:=hr.size; show _≤(c.w.alloc o).heap.size; simp; omega
 keep:=fun b hb hn=>by
  show (c.w.alloc o).heap[b]? = _;rw [Below.heap_alloc c.w o b (by have:=hr.size; omega)];exact hr.keep b hb hn
 dC:=hr.dC
 boxes:=fun i bx hi=>Ag (fun _ hx=>hx) (fun _ _=>rfl) (hr.boxes i bx hi)
theorem ig.cG {lim:Nat} {rows:List bU} (hr:ig lim c rows) (ho:aE G c):ig lim (c.cG o) rows :=
 ⟨fun g hg=>(hr.each g hg).gen (fun b hb=>⟨.inl ((hr.each g hg).au b hb),Below.heap_alloc c.w o b (ho.bD _ ((hr.each g hg).au b hb))⟩) (fun _ _=>Cc) (fun _ _=>sy),hr.nodup⟩
end
theorem Hj {en:Array MapEntry} {j:Nat} (h:j<en.size):((en[j]?).map (·.born)).getD 0=en[j].born:=by simp [h]
theorem born_inj {en:Array MapEntry} (hn:(en.toList.map (·.born)).Nodup) {i j:Nat} (hi:i<en.size) (hj:j<en.size) (h:en[i].born=en[j].born):i=j:=by
 have h1:(en.toList.map (·.born))[i]? = some en[i].born:=by simp [hi]
 have h2:(en.toList.map (·.born))[j]? = some en[i].born:=by simp [hj,h]
 exact E9 hn h1 h2
theorem N6 {en:Array MapEntry} (hn:(en.toList.map (·.born)).Nodup) {seen:List Nat} (ai:∀ j∈seen,j<en.size) {j:Nat} (hj:j<en.size) :
  en[j]∈(leftOf en ((seen.map fun j=>((en[j]?).map (·.born)).getD 0).toArray)).toList↔j ∉ seen:=by
 simp only [leftOf,Array.toList_filter,List.mem_filter,List.contains_toArray,Bool.not_eq_true',List.contains_eq_mem,decide_eq_false_iff_not,List.mem_map,not_exists,not_and];constructor
 ·rintro ⟨-,h⟩ hm;exact h j hm (Hj hj)
 ·intro h;refine ⟨by simp,fun k hk e=>?_⟩;rw [Hj (ai k hk)] at e;exact h (born_inj hn (ai k hk) hj e ▸ hk)
section
variable {E:Env} {ae:FuncId} {R:bY} {s:List AV} {h:List ag} {lits:List Nat} {ops:Array Oper} {o:Oper} {l:List Oper} {k:List aG}
theorem aa.range (hE:E.OK) {t kt e b:Nat} {m:Operand} {es:List (DV × DV)} {ti:bB} (hg:o.guard=none) (cm:o.op = .range t m) (cj:E.T[t]? = some ti) (hk:ti.k = .map kt e) (hm:bp E.G s m (.map b)) (hb:h[b]? = some (.map es)) (iT:R.n≤b)
  (H:∀ i:Iter,i.seen=[]→i.es=es→i.since≤i.ck→aa E ae ⟨R.n,R.Q,.iter i::R.rows,R.fx⟩ lits (.bE ops l::k) (bG s o.dst (.d (.raw (.pointer (some ⟨i.r,0,none⟩))))) (h.set b .gone)):aa E ae R lits (.bE ops (o::l)::k) s h:=by
 refine .of ?_;unfold AW;intro c0 c t' ea h0 h1 h2 h3 hr bX h4 h5 cs;subst h2;obtain ⟨i,hi,eB,aK⟩:=mB (h1 _ (List.mem_cons_self ..));obtain ⟨nu,d,g1,g2,g3,-⟩:=cM (hE.types t ti cj);have hd:d = .map kt e:=by rw [hk] at g3; cases d <;> first | (cases g3; rfl) | cases g3
 subst hd;have Hk:=hm c ⟨t',marks R.fx.aH⟩ h3 h4;obtain ⟨blk,cap,en,ck,q1,q2,q3,qe,q4⟩:=BI h3 hb Hk;have gu:=h3.dR q2;have Nb:=hr.dR q2 (by omega);have CJ:(c.dR b blk).w=c.w:=rfl
 let it:Obj := .mapIter (some blk) ck #[] ck
 have lj:aE E.G ((c.dR b blk).cG it):=gu.cG;have zZ:fw c0 ((c.dR b blk).cG it):=Nb.cG;have hblk:blk<c.w.heap.size:=(h3.bI b blk cap q2).1
 let gi:Iter:=⟨blk,c.w.heap.size,en,ck,ck,[],es⟩
 have Hl:lN c0.w.heap.size ((c.dR b blk).cG it) gi:=by
  refine ⟨.inl (.inr rfl),.inr rfl,hr.size,?_,⟨ck,Nat.le_refl _,fun _=>rfl,?_⟩,qe.born,qe,fun j kk x mm h1 h2=>?_,fun j hj=>by simp [gi] at hj⟩
  ·show (c.w.alloc it).heap[blk]? = _;rw [Below.heap_alloc c.w it blk hblk]; exact q3
  ·show (c.w.alloc it).heap[c.w.heap.size]? = _;exact heap_alloc_new _ _
  ·have:=q4.2 j kk x mm h1 (by simpa using h2);exact ⟨Cc (Ah q2 this.1),Cc (Ah q2 this.2)⟩
 have Aj:ep c0.w.heap.size ((c.dR b blk).cG it) (.iter gi::R.rows) R.fx.loops:=by
  have hold:=(bX.all.dR (b:=b) (blk:=blk) q2).cG (o:=it) gu;refine ⟨⟨fun g hg=>?_,?_⟩,fun g hg=>(List.mem_cons.1 hg).elim (fun e=>by subst e; trivial) (bX.flat g)⟩
  ·rcases List.mem_cons.1 hg with rfl | hg
   ·exact Hl
   ·exact hold.each g hg
  ·rw [List.cons_append,List.flatMap_cons];refine List.nodup_append.2 ⟨by simp [bU.dc,gi]; omega,bX.all.nodup,fun x hx y hy e=>?_⟩;subst e;simp [bU.dc,gi] at hx;rcases hx with rfl | rfl
   ·exact N4 bX.all h3 q2 hy
   ·obtain ⟨g,hg,hx⟩:=List.mem_flatMap.1 hy;have:=h3.bD _ ((bX.all.each g hg).au _ hx);omega
 have cR:(execOp (⟨t',marks R.fx.aH⟩:Act).eval o).run E.P c.w = .ok (.value (.pointer (some ⟨c.w.heap.size,0,none⟩))) (c.w.alloc it):=by
  simp only [execOp,cm,q1,Instr.range,newObj,Sem.run_bind,run_underlying g2,Result.andThen_ok,wg q3,Sem.run_pure,Sem.run];rfl
 have gh:VS ((c.dR b blk).cG it) (bG s o.dst (.d (.raw (.pointer (some ⟨c.w.heap.size,0,none⟩))))) ((⟨t',marks R.fx.aH⟩:Act).put o.dst (.pointer (some ⟨c.w.heap.size,0,none⟩))).tmps :=
  VS.bG (a:=⟨t',marks R.fx.aH⟩) ⟨h4.1,fun i x v hx hv=>sy (uW q2 (h4.2 i x v hx hv))⟩ o.dst (.d _ _ (.raw _ rfl))
 have H:=(H gi rfl rfl (Nat.le_refl _)).to;unfold AW at H;obtain ⟨c2,fr,rr,u,e1,e2,e3,e4,e5,e6⟩:=H c0 _ _ ea h0 (gq aK (eb h1)) rfl lj zZ Aj gh (qm (fun _ _ hv=>sy (uW q2 hv)) h5) cs;refine ⟨c2,fr,rr,u,e1,e2,e3,e4,.head ?_ e5,e6⟩;simp only [cC.bM,List.map_cons,eB];rw [tI hi (eO hg c t' h4) (.inl cR),put_defers];rfl
theorem aa.next {x:Operand} {it:Iter} {g1 g2:List bU} (hg:o.guard=none) (cm:o.op = .next x false) (ry:it.since≤it.ck) (Aj:R.rows=g1 ++ .iter it::g2) (hx:bp E.G s x (.d (.raw (.pointer (some ⟨it.r,0,none⟩)))))
  (H0:(∀ j,j<it.es.length→j∈it.seen)→aa E ae R lits (.bE ops l::k) (bG s o.dst (.d (.aL [.bool false]))) h)
  (H1:∀ j kk y,it.es[j]? = some (kk,y)→j ∉ it.seen→aa E ae ⟨R.n,R.Q,g1 ++ .iter { it with seen:=it.seen++[j] }::g2,R.fx⟩ lits (.bE ops l::k) (bG s o.dst (.d (.aL [.bool true,kk,y]))) h):aa E ae R lits (.bE ops (o::l)::k) s h:=by
 refine .of ?_;unfold AW;intro c0 c t' ea h0 h1 h2 h3 hr bX h4 h5 cs;subst h2;obtain ⟨i,hi,eB,aK⟩:=mB (h1 _ (List.mem_cons_self ..));have dg:(⟨t',marks R.fx.aH⟩:Act).eval x = .pointer (some ⟨it.r,0,none⟩):=by
  have:=hx c ⟨t',marks R.fx.aH⟩ h3 h4;generalize (⟨t',marks R.fx.aH⟩:Act).eval x=u at this;cases this with
  |d _ _ hq=>cases hq; rfl
 have Da:=bX;rw [Aj] at Da;obtain ⟨r1,r2,r3⟩:=Da.Ai;have r2:lN c0.w.heap.size c it:=r2;obtain ⟨z0,z1,-,z2⟩:=r2.iter;have bP:it.en.size=it.es.length:=r2.qs.size;rcases run_next_at (P:=E.P) c.w o.type it.r it.bm it.since z0 _ it.en it.ck z2 r2.map r2.old z1 with ⟨n1,n2⟩ | ⟨qs,n1,w1,n2,n3⟩
 ·have H:=(H0 fun j hj=>by
   apply Classical.byContradiction;intro hm;have kT:j<it.en.size:=by omega
   have:=(N6 r2.qs.nodup r2.lt kT).2 hm;have hl:(leftOf it.en ((it.seen.map fun j=>((it.en[j]?).map (·.born)).getD 0).toArray)).toList.length=0:=by simpa using n1
   rw [List.eq_nil_of_length_eq_zero hl] at this
   cases this).to
  unfold AW at H;have cR:(execOp (⟨t',marks R.fx.aH⟩:Act).eval o).run E.P c.w = .ok (.value (.tuple #[.bool false])) c.w:=by
   simp only [execOp,cm,dg,Sem.run_bind,n2,Result.andThen_ok,Sem.run_pure]
  have gh:VS c (bG s o.dst (.d (.aL [.bool false]))) ((⟨t',marks R.fx.aH⟩:Act).put o.dst (.tuple #[.bool false])).tmps :=
   VS.bG (a:=⟨t',marks R.fx.aH⟩) h4 o.dst (.d _ _ (.aL _ _ rfl fun j y v hy hv=>by
    match j with
    | 0=>simp at hy hv; subst hy; subst hv; exact .bool _
    |j+1=>simp at hy))
  obtain ⟨c2,fr,rr,u,e1,e2,e3,e4,e5,e6⟩:=H c0 c _ ea h0 (gq aK (eb h1)) rfl h3 hr bX gh h5 cs;refine ⟨c2,fr,rr,u,e1,e2,e3,e4,.head ?_ e5,e6⟩;simp only [cC.bM,List.map_cons,eB];rw [tI hi (eO hg c t' h4) (.inl cR),put_defers];rfl
 ·have fX:qs∈it.en.toList:=by
   simp only [leftOf,Array.toList_filter,List.mem_filter] at n1;exact n1.1
  obtain ⟨j,hj,rfl⟩:=List.getElem_of_mem fX;have kT:j<it.en.size:=by simpa using hj
  have ny:it.en.toList[j]=it.en[j]:=by simp
  rw [ny] at n1 n3;have l5:=(N6 r2.qs.nodup r2.lt kT).1 n1;obtain ⟨⟨kk,y⟩,N7⟩:∃ p,it.es[j]? = some p:=⟨it.es[j]'(by omega),by rw [List.getElem?_eq_getElem]⟩;have H:=(H1 j kk y N7 l5).to;unfold AW at H;have ua:=h3.bD _ r2.yr;have CJ:w1.os=c.w.os∧w1.tape=c.w.tape∧w1.output=c.w.output∧w1.heap=c.w.heap:=by rcases n2 with rfl | rfl <;> exact ⟨rfl,rfl,rfl,rfl⟩
  obtain ⟨a1,a2,a3,a4⟩:=CJ;generalize Br:setBlock w1 it.r (.mapIter (some it.bm) it.since (((it.seen.map fun j=>((it.en[j]?).map (·.born)).getD 0).toArray).push it.en[j].born) it.ck)=w' at n3;have kE:Touch c it.r w':=by
   subst Br;refine ⟨r2.yr,a1,a2,a3,by simp [setBlock,a4],fun b hb=>?_⟩;simp only [setBlock,a4];rw [Array.getElem?_setIfInBounds_ne (Ne.symm hb)]
  have WZ:it.r ∉ ((g1++g2)++R.fx.loops).flatMap bU.dc:=r3 _ (by simp [bU.dc]);have fm:it.bm≠it.r:=by
   have:=Da.all.nodup;rw [List.append_assoc,List.cons_append,List.flatMap_append,List.nodup_append] at this;have h6:=this.2.1;rw [List.flatMap_cons,List.nodup_append] at h6;have h7:=h6.1;simp [bU.dc] at h7;exact h7
  have Hl:lN c0.w.heap.size (c.dN w') { it with seen:=it.seen++[j] }:=by
   refine ⟨r2.Eu,r2.yr,r2.JC,(kE.other _ fm).trans r2.map,⟨it.ck,?_,fun _=>rfl,?_⟩,r2.old,r2.qs,fun p kk x mm h1 h2=>?_,fun p hp=>?_⟩
   ·exact ry
   ·show w'.heap[it.r]? = _;subst Br;simp only [setBlock,a4];rw [Array.getElem?_setIfInBounds_self_of_lt ua];simp [Hj kT]
   ·have:=r2.val p kk x mm h1 h2;exact ⟨kE.vd this.1,kE.vd this.2⟩
   ·rcases List.mem_append.1 hp with hp | hp
    ·exact r2.lt p hp
    ·simp at hp; subst hp; exact kT
  have W5:ep c0.w.heap.size (c.dN w') (g1 ++ .iter { it with seen:=it.seen++[j] }::g2) R.fx.loops:=by
   have hold:=kE.rows r1.all WZ;refine ⟨⟨fun g hg=>?_,?_⟩,fun g hg=>?_⟩
   ·rcases List.mem_append.1 hg with hg | hg
    ·rcases List.mem_append.1 hg with hg | hg
     ·exact hold.each g (List.mem_append_left _ (List.mem_append_left _ hg))
     ·rcases List.mem_cons.1 hg with rfl | hg
      ·exact Hl
      ·exact hold.each g (List.mem_append_left _ (List.mem_append_right _ hg))
    ·exact hold.each g (List.mem_append_right _ hg)
   ·have:=Da.all.nodup;rw [List.append_assoc,List.cons_append,List.flatMap_append,List.flatMap_cons] at this ⊢;exact this
   ·rcases List.mem_append.1 hg with hg | hg
    ·exact r1.flat g (List.mem_append_left _ hg)
    ·rcases List.mem_cons.1 hg with rfl | hg
     ·trivial
     ·exact r1.flat g (List.mem_append_right _ hg)
  have bT:=r2.val j kk y it.en[j] N7 (by simp [kT]);have cR:(execOp (⟨t',marks R.fx.aH⟩:Act).eval o).run E.P c.w = .ok (.value (.tuple #[.bool true,it.en[j].key,it.en[j].val])) w':=by
   simp only [execOp,cm,dg,Sem.run_bind,n3,Result.andThen_ok,Sem.run_pure]
  have gh:VS (c.dN w') (bG s o.dst (.d (.aL [.bool true,kk,y]))) ((⟨t',marks R.fx.aH⟩:Act).put o.dst (.tuple #[.bool true,it.en[j].key,it.en[j].val])).tmps :=
   VS.bG (a:=⟨t',marks R.fx.aH⟩) ⟨h4.1,fun i x v hx hv=>kE.vr (h4.2 i x v hx hv)⟩ o.dst (.d _ _ (.aL _ _ rfl fun p z v hz hv=>by
    match p with
    | 0=>simp at hz hv; subst hz; subst hv; exact .bool _
    | 1=>simp at hz hv; subst hz; subst hv; exact kE.vd bT.1
    | 2=>simp at hz hv; subst hz; subst hv; exact kE.vd bT.2
    |p+3=>simp at hz))
  obtain ⟨c2,fr,rr,u,e1,e2,e3,e4,e5,e6⟩:=H c0 (c.dN w') _ ea h0 (gq aK (eb h1)) rfl (kE.aK h3) (kE.rel hr r2.JC) W5 gh (qm (fun _ _=>kE.vr) h5) cs;refine ⟨c2,fr,rr,u,e1,e2,e3,e4,.head ?_ e5,e6⟩;simp only [cC.bM,List.map_cons,eB];rw [tI hi (eO hg c t' h4) (.inl cR),put_defers];rfl
end
end Go.ax
end
section
namespace Go.ax
open Go Go.RowKit
section
variable {E:Env} {ae:FuncId} {R:bY} {td:List aG} {s:List AV} {h:List ag}
theorem aa.rz {lits:List Nat} (b off:Nat) (ts:Nat × Nat) (mD:0<ts.2) {cs:List AV} (hb:h[b]? = some (.cells cs)) (hd:cs[off]? = some (.d .a8))
  (H:aa E ae R lits td s (h.set b (.cells (cs.set off (.own h.length 0)))++[.arr 0 ts []])):aa E ae R lits td s h:=by
 replace H:=H.to;refine .of (.jJ (fun c t ea h1 h2 h3 h4 h5=>?_) H);subst h2;have ez:=aZ hb
 let c':Cx:={ c with heap:=c.heap.set b (.cells (cs.set off (.own c.heap.length 0)))++[.arr 0 ts []] }
 have dQ:c.own c.heap.length=none:=by
  cases ho:c.own c.heap.length with
  |none=>rfl
  |some p=>have:=(h3.bI _ p.1 p.2 ho).2; omega
 have mE:c'.heap[c.heap.length]? = some (.arr 0 ts []):=by show (c.heap.set b _++_)[_]? = _; rw [List.getElem?_append_right (by simp)]; simp
 have oQ:c'.heap[b]? = some (.cells (cs.set off (.own c.heap.length 0))):=by
  show (c.heap.set b _++_)[b]? = _;rw [List.getElem?_append_left (by simp; omega),List.getElem?_set_self ez]
 have mV:∀ i,i≠b→i<c.heap.length→c'.heap[i]? = c.heap[i]? := fun i hi hl=>by
  show (c.heap.set b _++_)[i]? = _;rw [List.getElem?_append_left (by simp; omega),List.getElem?_set_ne (Ne.symm hi)]
 have aR:Step c c':=⟨rfl,h3.bD,rfl,rfl,rfl,Nat.le_refl _,fun _ _ _=>rfl,fun i x n hi _=>⟨n,hi⟩,fun i bx hi=>by
  by_cases bL:i=b
  ·subst bL;rw [hb] at hi;cases hi;exact .inl ⟨_,oQ,rfl,by simp⟩
  ·exact ni hi (mV i bL (aZ hi)) rfl⟩
 have aK:aE E.G c':=h3.next aR (fun i x n hi=>by
   have:=h3.bI i x n hi;refine ⟨this.1,?_⟩;show i<(c.heap.set b _++_).length;simp; omega) h3.inj (fun i bx hi=>by
  by_cases iM:i=c.heap.length
  ·subst iM;rw [mE] at hi;cases hi;exact .inr ⟨mD,fun i e he=>by simp at he,.inl ⟨dQ,rfl⟩⟩
  ·have ai:i<c.heap.length:=by
    have h1:=aZ hi;have h2:c'.heap.length=c.heap.length+1:=by show (c.heap.set b _++_).length=_; simp
    omega
   by_cases bL:i=b
   ·subst bL;rw [oQ] at hi;cases hi;right;obtain ⟨blk,cap,vs,ty,g1,g2,g3,g4⟩:=h3.box i _ hb;refine ⟨blk,cap,vs,ty,g1,g2,by simpa using g3,fun j x v hx hv=>?_⟩;by_cases hj:j=off
    ·subst hj;rw [List.getElem?_set_self (aZ hd)] at hx;cases hx;have:=g4 j _ v hd hv;cases this with
     |d _ _ hq=>cases hq; exact .iL _ _ ts mE dQ
    ·rw [List.getElem?_set_ne (Ne.symm hj)] at hx;exact aR.vr (g4 j x v hx hv)
   ·rw [mV i bL ai] at hi
    exact .inl ⟨hi,rfl,fun _ _ _=>rfl⟩)
 exact ⟨c',t,ea,h1,rfl,aK,aR.vs h4,aR.cr h5,aR,fun _ => .refl _ _⟩
end
end Go.ax
end
