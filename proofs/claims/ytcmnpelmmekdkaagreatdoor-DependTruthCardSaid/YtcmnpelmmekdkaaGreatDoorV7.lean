/- Lemmas of mine. Conditions: as stated. -/
import Derived.Test.YtcmnpelmmekdkaaGreatDoorV2
import Derived.Maps.RangeRun
import Derived.Lib.BufferMore
import Derived.Lib.LazyBuf
import Derived.Laws.CopyRow
import Derived.Ground.NamesProg
import Derived.Shelf.Small.Strs
import Derived.Shelf.Strings.OnBuilder
import Derived.Test.YtcmnpelmmekdkaaGreatDoorProg
import Derived.Shelf.SlSortCmp.WholeK
import Derived.Shelf.SortM.Plain
import Derived.Shelf.Slices.CompactI
set_option linter.unusedVariables false
set_option linter.unusedSimpArgs false
section
namespace Go.aA
open Go Go.RowKit
def dr(n:Nat)(B:List Nat)(i:Nat):Bool:=match Nat.ble n i with
 |true=>true
 |false=>bW i B
def cS(n:Nat)(B:List Nat):Nat->List af->List af
 |_,[]=>[]
 |i,b::r=>match Nat.ble n i with
  |true=>[]
  |false=>(match bW i B with|true => .gone|false=>b)::cS n B (i+1) r
theorem tq{n:Nat}{B:List Nat}:∀ (i k:Nat) (h:List af),dr n B (i+k)=false->(cS n B i h)[k]?=h[k]?
 |_,_,[],_=>rfl
 |i,0,b::r,hh=>by
  simp only[dr,Nat.add_zero]at hh;split at hh
  ·cases hh
  ·rename_i q;simp only[cS,q,hh];rfl
 |i,k+1,b::r,hh=>by
  have hn:Nat.ble n i=false:=by
   cases q:Nat.ble n i with
   |false=>rfl
   |true =>
    have h1:=Nat.le_of_ble_eq_true q;have h2:Nat.ble n (i+(k+1))=true:=Nat.ble_eq_true_of_le (by omega);simp only[dr,h2]at hh;cases hh
  simp only[cS,hn,List.getElem?_cons_succ];exact tq (i+1) k r (by rwa [show i+1+k=i+(k+1) by omega])
theorem Hz{n:Nat}{B:List Nat}:∀ (i k:Nat) (h:List af) (b:af),dr n B (i+k)=true->(cS n B i h)[k]?=some b->b=.gone
 |_,_,[],_,_,h=>by simp[cS]at h
 |i,k,b'::r,b,hh,h=>by
  simp only[cS]at h;split at h
  ·simp at h
  ·rename_i q;cases k with
   |zero =>
    simp only[dr,Nat.add_zero,q]at hh;simp only[hh,List.getElem?_cons_zero,Option.some.injEq]at h;exact h.symm
   |succ k=>exact Hz (i+1) k r b (by rwa [show i+1+k=i+(k+1) by omega]) (by simpa using h)
def gF(n:Nat)(B:List Nat):AV->Bool
 | .any=>true
 | .d _=>true
 | .b9 _ _=>true
 | .own b _=>match dr n B b with|true=>false|false=>true
 | .ptr b _=>match dr n B b with|true=>false|false=>true
 | .cO b _ _ _=>match dr n B b with|true=>false|false=>true
 | .cut b _ _ _=>match dr n B b with|true=>false|false=>true
 | .map b=>match dr n B b with|true=>false|false=>true
 |_=>false
def qd{β:Type}(f:β->Bool):List β->Bool
 |[]=>true
 |a::l=>match f a with
  |true=>qd f l
  |false=>false
theorem Az{β:Type}{f:β->Bool}:∀ {l:List β},qd f l=true->∀ (j:Nat) (x:β),l[j]?=some x->f x=true
 |[],_,_,_,h=>by simp at h
 |a::l,H,j,x,h=>by
  unfold qd at H;split at H
  ·rename_i q;cases j with
   |zero=>simp at h;subst h;exact q
   |succ j=>exact Az H j x (by simpa using h)
  ·cases H
def eV(n:Nat)(B:List Nat):AV->Bool
 | .agg l=>qd (gF n B) l
 | .aK l=>qd (gF n B) l
 | .fn _ a b=>match qd (gF n B) a with
  |true=>qd (gF n B) b
  |false=>false
 |x=>gF n B x
def Og(n:Nat)(B:List Nat):af->Bool
 | .cells cs=>qd (eV n B) cs
 |_=>true
section
variable {G:List (Nat × DV)} {c c':Cx} {n:Nat} {B:List Nat}
theorem Oh(hk:∀ b,b<c.w.heap.size->¬ c.bad b->¬ c'.bad b/\c'.w.heap[b]?=c.w.heap[b]?)(hb:∀ i bx,dr n B i=false->c.heap[i]?=some bx->c'.heap[i]?=some bx/\c'.own i=c.own i)
  {x:AV} {v:Value} (hf:gF n B x=true) (hv:VR c x v):VR c' x v:=by
 cases hv with
 |any v=>exact .any v
 |d x v hx=>exact .d x v (hx.mono hk)
 |own b g sz l blk cap h1 h2 =>
  have hh:dr n B b=false:=by simp only[gF]at hf;split at hf<;>first|assumption|cases hf
  obtain⟨k1,k2⟩:=hb _ _ hh h1;exact .own b g sz l blk cap k1 (k2.trans h2)
 |iY b g sz h1 h2 =>
  have hh:dr n B b=false:=by simp only[gF]at hf;split at hf<;>first|assumption|cases hf
  obtain⟨k1,k2⟩:=hb _ _ hh h1;exact .iY b g sz k1 (k2.trans h2)
 |kB b g g1 sz l v h1 h2 h3 =>
  have hh:dr n B b=false:=by simp only[gF]at hf;split at hf<;>first|assumption|cases hf
  obtain⟨k1,k2⟩:=hb _ _ hh h1;exact .kB b g g1 sz l _ k1 h2 h3
 |jR b g v h1 h2 =>
  have hh:dr n B b=false:=by simp only[gF]at hf;split at hf<;>first|assumption|cases hf
  exact .jR b g _ (hb _ _ hh h1).1 h2
 |mF b g cs blk cap m h1 h2 h3 =>
  have hh:dr n B b=false:=by simp only[gF]at hf;split at hf<;>first|assumption|cases hf
  obtain⟨k1,k2⟩:=hb _ _ hh h1;exact .mF b g cs blk cap m k1 (k2.trans h2) h3
 |cut b g k q sz l blk cap o h1 h2 h3 h4 h5 =>
  have hh:dr n B b=false:=by simp only[gF]at hf;split at hf<;>first|assumption|cases hf
  obtain⟨k1,k2⟩:=hb _ _ hh h1;exact .cut b g k q sz l blk cap o k1 (k2.trans h2) h3 h4 h5
 |mG b g g1 k q sz l v h1 h2 h3 =>
  have hh:dr n B b=false:=by simp only[gF]at hf;split at hf<;>first|assumption|cases hf
  exact .mG b g g1 k q sz l _ (hb _ _ hh h1).1 h2 h3
 |mH b g k q v h1 h2 =>
  have hh:dr n B b=false:=by simp only[gF]at hf;split at hf<;>first|assumption|cases hf
  exact .mH b g k q _ (hb _ _ hh h1).1 h2
 |ptr b off cs blk cap h1 h2 =>
  have hh:dr n B b=false:=by simp only[gF]at hf;split at hf<;>first|assumption|cases hf
  obtain⟨k1,k2⟩:=hb _ _ hh h1;exact .ptr b off cs blk cap k1 (k2.trans h2)
 |jq b off v h1 h2 =>
  have hh:dr n B b=false:=by simp only[gF]at hf;split at hf<;>first|assumption|cases hf
  exact .jq b off _ (hb _ _ hh h1).1 h2
 |cO b g i off sz l blk cap h1 h2 h3 =>
  have hh:dr n B b=false:=by simp only[gF]at hf;split at hf<;>first|assumption|cases hf
  obtain⟨k1,k2⟩:=hb _ _ hh h1;exact .cO b g i off sz l blk cap k1 (k2.trans h2) h3
 |lW b g g1 i off sz l v h1 h2 h3 =>
  have hh:dr n B b=false:=by simp only[gF]at hf;split at hf<;>first|assumption|cases hf
  exact .lW b g g1 i off sz l _ (hb _ _ hh h1).1 h2 h3
 |lX b g i off v h1 h2 =>
  have hh:dr n B b=false:=by simp only[gF]at hf;split at hf<;>first|assumption|cases hf
  exact .lX b g i off _ (hb _ _ hh h1).1 h2
 |b9 e off blk o f h1 h2 h3 h4 =>
  have ai:blk<c.w.heap.size:=by
   obtain⟨x,r,hx⟩:=List.exists_cons_of_ne_nil h2;exact World.block_lt_of_cell? _ _ (h3 0 x (by rw[hx];rfl))
  have hk:=hk;have qR:=hk blk ai h1;exact .b9 e off blk o f qR.1 h2 (fun j x hx=>by rw[World.cell?_of_block qR.2];exact h3 j x hx) (fun j x hx=>(h4 j x hx).mono hk)
 |map b es blk cap h1 h2 =>
  have hh:dr n B b=false:=by simp only[gF]at hf;split at hf<;>first|assumption|cases hf
  obtain⟨k1,k2⟩:=hb _ _ hh h1;exact .map b es blk cap k1 (k2.trans h2)
 |nA b v h1 h2 =>
  have hh:dr n B b=false:=by simp only[gF]at hf;split at hf<;>first|assumption|cases hf
  exact .nA b _ (hb _ _ hh h1).1 h2
 |agg a vs h1 h2=>simp[gF]at hf
 |aK a vs h1 h2=>simp[gF]at hf
 |fn f a1 a2 v1 v2 h1 h2 h3 h4=>simp[gF]at hf
theorem Oi(hk:∀ b,b<c.w.heap.size->¬ c.bad b->¬ c'.bad b/\c'.w.heap[b]?=c.w.heap[b]?)(hb:∀ i bx,dr n B i=false->c.heap[i]?=some bx->c'.heap[i]?=some bx/\c'.own i=c.own i)
  {x:AV} {v:Value} (hf:eV n B x=true) (hv:VR c x v):VR c' x v:=by
 have one:∀ {l:List AV},qd (gF n B) l=true->∀ (vs:List Value),VL c l vs->VL c' l vs:=fun hl vs h=>⟨h.1,fun j x v hx hv=>Oh hk hb (Az hl j x hx) (h.2 j x v hx hv)⟩;unfold eV at hf;split at hf
 ·obtain⟨vs,rfl,h1⟩:=sr hv;exact yA (one hf _ h1)
 ·obtain⟨vs,rfl,h1⟩:=B4 hv;exact B5 (one hf _ h1)
 ·split at hf
  ·rename_i q;obtain⟨v1,v2,rfl,h1,h2⟩:=l8 hv;exact FB (one q _ h1) (one hf _ h2)
  ·cases hf
 ·exact Oh hk hb hf hv
def Cx.eG(c:Cx)(n:Nat)(B:List Nat):Cx:=⟨fun i=>match dr n B i with|true=>none|false=>c.own i,cS n B 0 c.heap,fun b=>c.ak b\/∃ j m,dr n B j=true/\c.own j=some (b,m),c.w⟩
theorem o9{i b m:Nat}(h:(c.eG n B).own i=some (b,m)):dr n B i=false/\c.own i=some (b,m):=by
 simp only[Cx.eG]at h;split at h
 ·cases h
 ·rename_i q;exact⟨q,h⟩
theorem vI{i:Nat}(h:dr n B i=false):(c.eG n B).own i=c.own i:=by simp only[Cx.eG,h]
theorem Oj(b:Nat):(c.eG n B).bad b↔c.bad b:=by
 constructor
 ·rintro((hb|⟨j,m,-,hj⟩)|⟨i,m,hi⟩)
  ·exact .inl hb
  ·exact .inr ⟨j,m,hj⟩
  ·exact .inr ⟨i,m,(o9 hi).2⟩
 ·rintro(hb|⟨j,m,hj⟩)
  ·exact .inl (.inl hb)
  ·cases hh:dr n B j
   ·exact .inr ⟨j,m,(vI hh).trans hj⟩
   ·exact .inl (.inr ⟨j,m,hh,hj⟩)
theorem Ol(b:Nat)(_:b<c.w.heap.size)(hn:¬ c.bad b):¬ (c.eG n B).bad b/\(c.eG n B).w.heap[b]?=c.w.heap[b]? := ⟨fun h=>hn ((Oj b).1 h),rfl⟩
theorem Om{i:Nat}{bx:af}(hh:dr n B i=false)(hi:c.heap[i]?=some bx):(c.eG n B).heap[i]?=some bx/\(c.eG n B).own i=c.own i :=
 ⟨by show(cS n B 0 c.heap)[i]?=_;rw[tq 0 i c.heap (by rwa [Nat.zero_add])];exact hi,vI hh⟩
theorem xQ{x:AV}{v:Value}(hf:eV n B x=true)(hv:VR c x v):VR (c.eG n B) x v:=Oi Ol (fun _ _=>Om) hf hv
theorem Xy{x:DV}{v:Value}(hv:VD c.bad c.w x v):VD (c.eG n B).bad (c.eG n B).w x v:=hv.mono Ol
theorem jr.free{i:Nat}{bx:af}(Xz:Og n B bx=true)(l6:∀ x v,eV n B x=true->VR c x v->VR c' x v)(fR:∀ x v,VD c.bad c.w x v->VD c'.bad c'.w x v)(hb:jr c i bx)(ho:c'.own i=c.own i)(hw:∀ b n,c.own i=some (b,n)->c'.w.heap[b]?=c.w.heap[b]?):jr c' i bx:=by
 cases bx with
 |cells cs =>
  obtain⟨blk,cap,vs,ty,h1,h2,h3,h4⟩:=hb;exact⟨blk,cap,vs,ty,ho.trans h1,(hw blk cap h1).trans h2,h3,fun j x v hx hv=>l6 x v (Az Xz j x hx) (h4 j x v hx hv)⟩
 |arr g ts l =>
  obtain⟨h0,h1,h2⟩:=hb;refine⟨h0,h1,?_⟩;rcases h2 with⟨h2,h3⟩|⟨blk,cap,vs,h2,h3,h4,h5,h6,h7⟩
  ·exact .inl ⟨ho.trans h2,h3⟩
  ·refine .inr ⟨blk,cap,vs,ho.trans h2,(hw blk cap h2).trans h3,h4,h5,h6,fun i j e x he hx=>?_⟩;obtain⟨v,h8,yz,h9⟩:=h7 i j e x he hx;exact⟨v,h8,yz,fR x v h9⟩
 |map es =>
  obtain⟨blk,cap,en,ck,h1,h2,h3,h4⟩:=hb;exact⟨blk,cap,en,ck,ho.trans h1,(hw blk cap h1).trans h2,h3,fun j k x m hx hm=>⟨fR _ _ (h4 j k x m hx hm).1,fR _ _ (h4 j k x m hx hm).2⟩⟩
 |gone=>exact ho.trans hb
def rR(n:Nat)(B:List Nat)(X:List af):Bool:=qd (Og n B) X
theorem aE.eG(ho:aE G c)(ez:rR n B (cS n B 0 c.heap)=true):aE G (c.eG n B) where
 bE:=fun b hb=>hb.elim (ho.bE b) fun⟨j,m,_,hj⟩=>(ho.bI j b m hj).1
 bI:=fun i b m hi=>by
  obtain⟨h1,h2⟩:=o9 hi;obtain⟨h3,h4⟩:=ho.bI i b m h2;refine⟨h3,?_⟩;have:(c.eG n B).heap[i]?=c.heap[i]? := tq 0 i c.heap (by rwa [Nat.zero_add]);have h5:(c.eG n B).heap[i]?=some c.heap[i]:=by rw[this];simp
  exact a7 h5
 inj:=fun i j b m k hi hj=>ho.inj i j b m k (o9 hi).2 (o9 hj).2
 sep:=fun i b m hi hb=>by
  obtain⟨h1,h2⟩:=o9 hi;rcases hb with hb|⟨j,k,hj,hk⟩
  ·exact ho.sep i b m h2 hb
  ·have:=ho.inj i j b m k h2 hk;subst this;rw[h1]at hj;cases hj
 box:=fun i bx hi=>by
  cases hh:dr n B i
  ·have e:(c.eG n B).heap[i]?=c.heap[i]? := tq 0 i c.heap (by rwa [Nat.zero_add]);have hf:=Az ez i bx hi;rw[e]at hi;exact(ho.box i bx hi).free hf (fun _ _=>xQ) (fun _ _=>Xy) (vI hh) (fun _ _ _=>rfl)
  ·obtain rfl:=Hz 0 i c.heap bx (by rwa [Nat.zero_add]) hi;show(c.eG n B).own i=none;simp only[Cx.eG,hh]
 fB:=fun g e hg=>xQ rfl (ho.fB g e hg)
def ob(n:Nat)(B:List Nat):List AV->List AV
 |[]=>[]
 |x::s=>(match eV n B x with|true=>x|false => .any)::ob n B s
def xR{α:Sort _}(n:Nat)(B:List Nat):List AV->(List AV->α)->α
 |[],k=>k []
 |x::s,k=>match eV n B x with
  |true=>xR n B s fun s'=>k (x::s')
  |false=>xR n B s fun s'=>k (.any::s')
theorem On{α:Sort _}:∀ (s:List AV) (k:List AV->α),xR n B s k=k (ob n B s)
 |[],_=>rfl
 |x::s,k=>by
  simp only[xR,ob];split<;>rename_i q<;>rw[On s]<;>simp only[q]
theorem Oo:∀ (s:List AV) (i:Nat) (x:AV),(ob n B s)[i]?=some x->x=.any\/(s[i]?=some x/\eV n B x=true)
 |[],_,_,h=>by simp[ob]at h
 |y::s,0,x,h=>by
  simp only[ob,List.getElem?_cons_zero,Option.some.injEq]at h;split at h
  ·rename_i q;subst h;exact .inr ⟨rfl,q⟩
  ·exact .inl h.symm
 |y::s,i+1,x,h=>by
  rcases Oo s i x (by simpa [ob]using h)with h|h
  ·exact .inl h
  ·exact .inr (by simpa using h)
theorem Oq:∀ (s:List AV),(ob n B s).length=s.length
 |[]=>rfl
 |_::s=>by simp[ob,Oq s]
theorem VS.eG{s:List AV}{t:Array Value}(h:VS c s t):VS (c.eG n B) (ob n B s) t:=by
 refine⟨by rw[Oq];exact h.1,fun i x v hx hv=>?_⟩;rcases Oo s i x hx with rfl|⟨hx,hf⟩
 ·exact .any v
 ·exact xQ hf (h.2 i x v hx hv)
theorem aZ.XA{E:Env}{op:Op}{s:List AV}{h:List af}{v:AV}(ez:rR n B (cS n B 0 h)=true)(hf:eV n B v=true)(H:aZ E op (ob n B s) (cS n B 0 h) v (cS n B 0 h)):aZ E op s h v h:=by
 intro o c a bX hc ho hs;subst hc;obtain⟨c1,u,d1,e1,k1,r1,st⟩:=H o (c.eG n B) a bX rfl (ho.eG ez) hs.eG;have Dk:∀ i,dr n B i=false->c1.heap[i]?=c.heap[i]? := fun i hh=>by rw[e1];exact tq 0 i c.heap (by rwa [Nat.zero_add])
 have l5:∀ i,dr n B i=true->c1.own i=none:=fun i hh=>by
  cases hq:c1.heap[i]? with
  |none =>
   cases hw:c1.own i with
   |none=>rfl
   |some p =>
    have h2:=(k1.bI i p.1 p.2 hw).2;rw[List.getElem?_eq_none_iff]at hq;omega
  |some bx =>
   have pG:=hq;rw[e1]at pG;obtain rfl:=Hz 0 i c.heap bx (by rwa [Nat.zero_add]) pG;exact k1.box i _ hq
 have km:∀ i,dr n B i=false->c1.own i=c.own i:=fun i hh=>by
  cases hq:c.heap[i]? with
  |none =>
   have n1:c.own i=none:=by
    cases hw:c.own i with
    |none=>rfl
    |some p=>have h2:=(ho.bI i p.1 p.2 hw).2;rw[List.getElem?_eq_none_iff]at hq;omega
   have Dl:c1.heap[i]?=none:=(Dk i hh).trans hq;rw[n1];cases hw:c1.own i with
   |none=>rfl
   |some p=>have h2:=(k1.bI i p.1 p.2 hw).2;rw[List.getElem?_eq_none_iff]at Dl;omega
  |some bx =>
   have iO:c1.heap[i]?=some bx:=(Dk i hh).trans hq;obtain⟨g1,g2⟩:=Om (n:=n) (B:=B) hh hq;have hs:=st.boxes i bx g1;cases bx with
   |cells cs =>
    rcases hs with⟨cs',q1,q2,q3⟩|q1
    ·exact q2.trans g2
    ·rw[iO]at q1;cases q1
   |arr g sz l =>
    rcases hs with⟨g',l',q1,q2⟩|q1
    ·rw[iO]at q1;cases q1;rcases q2 with q2|⟨-,-,q2⟩
     ·omega
     ·exact q2.trans g2
    ·rw[iO]at q1;cases q1
   |map es =>
    rcases hs with⟨eC,q1,q2⟩|q1
    ·exact q2.trans g2
    ·rw[iO]at q1;cases q1
   |gone =>
    have a1:c1.own i=none:=k1.box i _ iO;have a2:c.own i=none:=ho.box i _ hq;rw[a1,a2]
 have XB:∀ b,c1.bad b↔c.bad b:=fun b=>by
  rw[<- Oj (c:=c) (n:=n) (B:=B)];constructor
  ·rintro(h|⟨i,m,h⟩)
   ·exact .inl (by rw[<- st.ak];exact h)
   ·cases hh:dr n B i
    ·exact .inr ⟨i,m,by rw[vI hh,<- km i hh];exact h⟩
    ·rw[l5 i hh]at h;cases h
  ·rintro(h|⟨i,m,h⟩)
   ·exact .inl (by rw[st.ak];exact h)
   ·obtain⟨g1,g2⟩:=o9 h;exact .inr ⟨i,m,by rw[km i g1];exact g2⟩
 have aT:Step c (c.dI c1.w):=⟨rfl,ho.bE,st.os,st.tape,st.output,st.size,fun b hb hn=>st.keep b hb (fun i m hi=>hn i m (o9 hi).2),fun i b m hi _=>⟨m,hi⟩,(Step.refl c ho.bE).boxes⟩;have hk:∀ b,b<c1.w.heap.size->¬ c1.bad b->¬ (c.dI c1.w).bad b/\(c.dI c1.w).w.heap[b]?=c1.w.heap[b]? := fun b _ hn=>⟨fun h=>hn ((XB b).2 h),rfl⟩;have iu:∀ i bx,dr n B i=false->c1.heap[i]?=some bx->(c.dI c1.w).heap[i]?=some bx/\(c.dI c1.w).own i=c1.own i:=fun i bx hh hi=>⟨(Dk i hh).symm.trans hi,(km i hh).symm⟩;have back:∀ x v,eV n B x=true->VR c1 x v->VR (c.dI c1.w) x v:=fun x v hf hv=>Oi hk iu hf hv;have XC:∀ x v,VD c1.bad c1.w x v->VD (c.dI c1.w).bad (c.dI c1.w).w x v:=fun x v hv=>hv.mono hk;refine⟨c.dI c1.w,u,d1,rfl,?_,back v u hf r1,aT⟩
 exact{
  bE:=fun b hb=>Nat.lt_of_lt_of_le (ho.bE b hb) st.size
  bI:=fun i b m hi=>⟨Nat.lt_of_lt_of_le (ho.bI i b m hi).1 st.size,(ho.bI i b m hi).2⟩
  inj:=ho.inj
  sep:=ho.sep
  box:=fun i bx hi=>by
   cases hh:dr n B i
   ·have iO:c1.heap[i]?=some bx:=(Dk i hh).trans hi;have nD:=Az ez i bx (by rw[<- e1];exact iO);exact(k1.box i bx iO).free nD back XC (km i hh).symm (fun _ _ _=>rfl)
   ·refine(ho.box i bx hi).gen (fun _ _=>aT.vr) (fun _ _=>aT.vd) rfl (fun b m hn=>?_);refine st.keep b (ho.bI i b m hn).1 (fun j k hj=>?_);obtain⟨g1,g2⟩:=o9 hj;have:=ho.inj i j b m k hn g2;subst this;rw[hh]at g1;cases g1
  fB:=fun g e hg=>back _ _ rfl (k1.fB g e hg) }
end
section
variable {E:Env} {ops:Array Oper} {F:List Nat} {n:Nat} {B:List Nat} {X:List af}
structure xS(ops:Array Oper)(F:List Nat)(J0:Nat):Prop where
 low:∀ j o e,ops[j]?=some o->e∈o.after->Region.binds .any e=true->e.on<j
 pair:∀ i j oi oj,i<j->ops[i]?=some oi->ops[j]?=some oj->jA ops oi oj=true->kL ops i j
 spine:∀ i j oi oj,J0<=i->i<j->ops[i]?=some oi->ops[j]?=some oj->bW i F=false->bW j F=false->kL ops i j
theorem xS.pO{J0:Nat}(h:xS ops F J0):xi ops ops.size:=⟨h.low,h.pair,fun i j oi oj _ hj _ kK=>by
 have:=(Array.getElem?_eq_some_iff.1 kK).1;omega⟩
def Dm(ops:Array Oper)(F:List Nat):Bool :=
 let bs:=bits ops.toList []
 (List.range ops.size).all fun j=>match ops[j]? with
  |none=>true
  |some oj=>(oj.after.toList.all fun e => !Region.binds .any e||decide (e.on<j))&&(List.range j).all fun i=>match ops[i]? with
   |none=>true
   |some oi=>(bs.getD j 0).testBit i||(!jA ops oi oj&&(bW i F||bW j F))
theorem HE(h:Dm ops F=true):xS ops F 0:=by
 have hb:=zK ops ops.toList [] rfl (fun j i h=>by simp at h);have aX:∀ j oj,ops[j]?=some oj->(oj.after.toList.all fun e => !Region.binds .any e||decide (e.on<j))=true/\∀ i oi,i<j->ops[i]?=some oi->((bits ops.toList []).getD j 0).testBit i=true\/(jA ops oi oj=false/\(bW i F=true\/bW j F=true)):=fun j oj hj=>by
  have ai:j<ops.size:=(Array.getElem?_eq_some_iff.1 hj).1;have h1:=List.all_eq_true.1 h j (List.mem_range.2 ai);simp only[hj,Bool.and_eq_true]at h1;refine⟨h1.1,fun i oi hi ef=>?_⟩;have h2:=List.all_eq_true.1 h1.2 i (List.mem_range.2 hi);simp only[ef,Bool.or_eq_true,Bool.and_eq_true,Bool.not_eq_true']at h2;exact h2
 refine⟨fun j o e hj he gZ=>?_,fun i j oi oj dA hi hj hc=>?_,fun i j oi oj _ dA hi hj h1 h2=>?_⟩
 ·have:=List.all_eq_true.1 (aX j o hj).1 e (by simpa using he)
  simpa [gZ]using this
 ·rcases(aX j oj hj).2 i oi dA hi with h|⟨h,-⟩
  ·exact hb j i h
  ·rw[hc]at h;cases h
 ·rcases(aX j oj hj).2 i oi dA hi with h|⟨-,h|h⟩
  ·exact hb j i h
  ·rw[h1]at h;cases h
  ·rw[h2]at h;cases h
@[irreducible] def tr (E : Env) (f : FuncId) (ds : List DV) (h : List af) (K1 : DV -> Prop) (K2 : AV -> List af -> Prop) : Prop :=
 (∃ r,az E f ds (· = r)/\K1 r)\/∃ r h1,aB E f [] (ds.map .d) (fun a b=>a=r/\b=h1)/\K2 (kb [] h r) (fS [] h h1)
theorem XD{E:Env}{f:FuncId}{ds:List DV}{h:List af}{K1:DV->Prop}{K2:AV->List af->Prop}{r:DV}(H:az E f ds (· = r))(hk:K1 r):tr E f ds h K1 K2:=by unfold tr;exact .inl ⟨r,H,hk⟩
theorem Ot{E:Env}{f:FuncId}{ds:List DV}{h:List af}{K1:DV->Prop}{K2:AV->List af->Prop}{r:AV}{h1:List af}{args:List AV}(hc:aB E f [] args (fun a b=>a=r/\b=h1))(ha:args=ds.map .d)(hk:uO [] h r fun v=>uP [] h h1 fun h'=>K2 v h'):tr E f ds h K1 K2:=by
 unfold tr;rw[Cb,Cd]at hk;exact .inr ⟨r,h1,ha ▸ hc,hk⟩
def fM(E:Env)(ops:Array Oper)(F:List Nat)(n:Nat)(B:List Nat)(X:List af)(K:List AV->List af->Prop):Nat->List Oper->List AV->List af->Prop
 |_,[],s,h=>K s h
 |j,o::l,s,h=>match bW j F with
  |true=>∃ v,(∀ h',cS n B 0 h'=X->dB E ops o s h' v)/\fM E ops F n B X K (j+1) l (bM s o.dst v) h
  |false=>∃ v h',dm E ops o s h v h'/\pP E o h v h'/\cS n B 0 h'=X/\fM E ops F n B X K (j+1) l (bM s o.dst v) h'
structure GP(E:Env)(ops:Array Oper)(F:List Nat)(n:Nat)(B:List Nat)(X:List af)(i0:Nat)(s:List AV)(pl:List (Oper × AV))(hp:Nat->List af):Prop where
 mf:∀ j o v,bW (i0+j) F=true->pl[j]?=some (o,v)->(∀ h',cS n B 0 h'=X->dB E ops o (cur pl (fun k=>decide (k<j)) 0 s) h' v)/\hp (j+1)=hp j
 tu:∀ j o v,bW (i0+j) F=false->pl[j]?=some (o,v)->dm E ops o (cur pl (fun k=>decide (k<j)) 0 s) (hp j) v (hp (j+1))/\pP E o (hp j) v (hp (j+1))
 hid:∀ j,j<=pl.length->cS n B 0 (hp j)=X
theorem fM.lay{K:List AV->List af->Prop}:∀ {l:List Oper} {i0:Nat} {s:List AV} {h:List af},cS n B 0 h=X->fM E ops F n B X K i0 l s h ->
  ∃ (pl:List (Oper × AV)) (hp:Nat->List af),pl.map (·.1)=l/\hp 0=h/\K (cur pl (fun k=>decide (k<pl.length)) 0 s) (hp pl.length)/\GP E ops F n B X i0 s pl hp
 |[],i0,s,h,hX,H=>⟨[],fun _=>h,rfl,rfl,H,⟨fun j o v _ hj=>by simp at hj,fun j o v _ hj=>by simp at hj,fun j _=>hX⟩⟩
 |o::l,i0,s,h,hX,H=>by
  simp only[fM]at H;have shift:∀ (pl:List (Oper × AV)) (n:Nat) (s:List AV),cur pl (fun k=>decide (k<n+1)) (0+1) s=cur pl (fun k=>decide (k<n)) 0 s:=fun pl n s=>by
   rw[xl 1]
   congr 1
   funext k;simp
  have build:∀ (v:AV) (h':List af),cS n B 0 h'=X->fM E ops F n B X K (i0+1) l (bM s o.dst v) h'->(bW i0 F=true->(∀ h',cS n B 0 h'=X->dB E ops o s h' v)/\h'=h)->(bW i0 F=false->dm E ops o s h v h'/\pP E o h v h') ->
    ∃ (pl:List (Oper × AV)) (hp:Nat->List af),pl.map (·.1)=o::l/\hp 0=h/\K (cur pl (fun k=>decide (k<pl.length)) 0 s) (hp pl.length)/\GP E ops F n B X i0 s pl hp:=by
   intro v h' AA H' f1 f2;obtain⟨pl,hp,k1,k2,k3,k4⟩:=fM.lay AA H';refine⟨(o,v)::pl,fun n=>match n with|0=>h|n+1=>hp n,by simp[k1],rfl,?_,⟨fun j o' v' hm hj=>?_,fun j o' v' hm hj=>?_,fun j hj=>?_⟩⟩
   ·rw[cur];simp only[List.length_cons,Nat.zero_lt_succ,decide_true,if_true];rw[shift];exact k3
   ·cases j with
    |zero =>
     simp at hj;obtain⟨rfl,rfl⟩:=hj;rw[kc _ _ _ _ (fun k _=>decide_eq_false (by omega))];obtain⟨g1,g2⟩:=f1 hm;exact⟨g1,k2.trans g2⟩
    |succ j =>
     have:=k4.mf j o' v' (by rwa [show i0+1+j=i0+(j+1) by omega]) (by simpa using hj);rw[cur];simp only[Nat.zero_lt_succ,decide_true,if_true];rw[shift];exact this
   ·cases j with
    |zero =>
     simp at hj;obtain⟨rfl,rfl⟩:=hj;rw[kc _ _ _ _ (fun k _=>decide_eq_false (by omega))];simp only[k2];exact f2 hm
    |succ j =>
     have:=k4.tu j o' v' (by rwa [show i0+1+j=i0+(j+1) by omega]) (by simpa using hj);rw[cur];simp only[Nat.zero_lt_succ,decide_true,if_true];rw[shift];exact this
   ·cases j with
    |zero=>exact hX
    |succ j=>exact k4.hid j (by simpa using hj)
  split at H
  ·rename_i q;obtain⟨v,h1,h2⟩:=H;exact build v h hX h2 (fun _=>⟨h1,rfl⟩) (fun e=>by rw[q]at e;cases e)
  ·rename_i q;obtain⟨v,h',h1,gr,h2,h3⟩:=H;exact build v h' h2 h3 (fun e=>by rw[q]at e;cases e) (fun _=>⟨h1,gr⟩)
theorem XE{J0:Nat}(hc:xS ops F J0){s0:List AV}{pl:List (Oper × AV)}{hp:Nat->List af}(ju:pl.map (·.1)=ops.toList)(hx:GP E ops F n B X 0 s0 pl hp)
  {Q:Exit->Act->World->Prop} {Kf:List AV->List af->Prop} {c0:Cx} (fJ:Kf (cur pl (fun k=>decide (k<pl.length)) 0 s0) (hp ops.size))
  (hQ:∀ (a:Act) (c:Cx) (s:List AV) (h:List af),Kf s h->aE E.G c->c.heap=h->a.defers=[]->VS c s a.tmps->Step c0 c->Q .normal a c.w) :
  ∀ (f:Nat) (listed:Array Bool) (a:Act) (c:Cx) (J:Nat),J0<=J->J<=ops.size->aE E.G c->c.heap=hp J->a.defers=[]->VS c (cur pl (aR listed) 0 s0) a.tmps->Step c0 c->DC ops listed ->
   (∀ i,i<ops.size->i<J->bW i F=false->aR listed i=true)->(∀ i,J<=i->bW i F=false->aR listed i=false)->(∀ i,ops.size<=i->aR listed i=false)->ew (aR listed) ops.size<=f->wpAny E.P .any ops Q f listed a c.w:=by
 obtain⟨hlen,dH⟩:=rp ju;have same:∀ d J,J+d<=ops.size->(∀ i,J<=i->i<J+d->bW i F=true)->hp (J+d)=hp J:=by
  intro d
  induction d with
  |zero=>intro J _ _;rfl
  |succ d ih =>
   intro J hJ hm;have h1:=ih J (by omega) (fun i h1 h2=>hm i h1 (by omega));have ai:J+d<pl.length:=by omega
   have h2:=(hx.mf (J+d) (pl[J+d]).1 (pl[J+d]).2 (by rw[Nat.zero_add];exact hm (J+d) (by omega) (by omega)) (by simp[ai])).2;rw[show J+(d+1)=J+d+1 by omega,h2,h1]
 have pa:∀ i,bW i F=true\/bW i F=false:=fun i=>by cases bW i F<;>simp
 have done:∀ (listed:Array Bool) (a:Act) (c:Cx) (J:Nat),J<=ops.size->aE E.G c->c.heap=hp J->a.defers=[]->VS c (cur pl (aR listed) 0 s0) a.tmps->Step c0 c->(∀ i,J<=i->bW i F=false->aR listed i=false)->(∀ i,ops.size<=i->aR listed i=false)->(∀ i,i<ops.size->aR listed i=true)->Q .normal a c.w:=by
  intro listed a c J hJ h1 h2 h3 h4 h5 hn ho aX
  have hs:hp (J+(ops.size-J))=hp J:=same (ops.size-J) J (by omega) (fun i g1 g2=>by
   rcases pa i with h|h
   ·exact h
   ·have:=hn i g1 h;rw[aX i (by omega)]at this;cases this)
  rw[show J+(ops.size-J)=ops.size by omega]at hs;have e:cur pl (aR listed) 0 s0=cur pl (fun k=>decide (k<pl.length)) 0 s0:=by
   congr 1
   funext i;rcases Nat.lt_or_ge i ops.size with h|h
   ·rw[aX i h];simp[hlen,h]
   ·rw[ho i h];simp[hlen];omega
  rw[e]at h4;exact hQ a c _ _ fJ h1 (h2.trans hs.symm) h3 h4 h5
 intro f
 induction f with
 |zero =>
  intro listed a c J tv hJ h1 h2 h3 h4 h5 hd gU fw ho iR;have aX:∀ i,i<ops.size->aR listed i=true:=fun i hi=>zO iR hi;refine⟨?_,done listed a c J hJ h1 h2 h3 h4 h5 fw ho aX⟩;apply List.eq_nil_iff_forall_not_mem.2;intro i hi;obtain⟨k1,k2⟩:=mV hd hi;rw[aX i k2]at k1;cases k1
 |succ f ih =>
  intro listed a c J tv hJ h1 h2 h3 h4 h5 hd gU fw ho iR;refine⟨fun hr=>?_,fun i hi=>?_⟩
  ·refine done listed a c J hJ h1 h2 h3 h4 h5 fw ho (fun i hi=>?_);cases hl:aR listed i with
   |true=>rfl
   |false =>
    obtain⟨k,-,hk⟩:=vc hc.pO hd hi hl;rw[hr]at hk;cases hk
  obtain⟨dE,dX⟩:=mV hd hi;obtain⟨⟨o,v⟩,dj⟩:∃ p,pl[i]?=some p:=⟨pl[i]'(by omega),by rw[List.getElem?_eq_getElem]⟩;have ef:=dH i o v dj;obtain⟨lJ,kN⟩:=xk hc.pair dH hd hi dj h4;have bT:i<listed.size:=by rw[hd.1];exact dX
  have cP:=fun q=>sS (i:=q) bT;have mg:ew (aR (listed.setIfInBounds i true)) ops.size<=f:=by
   have:=(ve (L:=aR listed) (L':=aR (listed.setIfInBounds i true)) (j:=i) (fun q hq=>by rw[cP];simp[hq]) dE (by rw[cP];simp) ops.size).1 dX;omega
  have mW:∀ u:Value,(a.put o.dst u).defers=[]:=fun u=>by cases iz:o.dst<;>simp[Act.put,h3]
  have cV:∀ q,ops.size<=q->aR (listed.setIfInBounds i true) q=false:=fun q hq=>by rw[cP,ho q hq];simp;omega
  rcases pa i with hm|hm
  ·have rm:=(hx.mf i o v (by rw[Nat.zero_add];exact hm) dj).1 (hp J) (hx.hid J (by omega));refine rm c a h1 h2 h3 kN i ef _ _ (fun c' u k1 k2 k3 k4=>?_);refine ih _ _ c' J tv hJ k1 k2 (mW u) (lJ c' u (fun _ _=>k3.vr) k4) (h5.trans k3) (hd.set hi) (fun q hq oO eO=>by rw[cP,gU q hq oO eO];simp) (fun q hq eO=>?_) cV mg;rw[cP,fw q hq eO];have:q≠i:=fun e=>by subst e;rw[hm]at eO;cases eO
   simp[this]
  ·have aL:J<=i:=by
    rcases Nat.lt_or_ge i J with h|h
    ·have:=gU i dX h hm;rw[dE]at this;cases this
    ·exact h
   have tw:∀ q,J<=q->q<i->bW q F=true:=fun q g1 g2=>by
    rcases pa q with h|h
    ·exact h
    ·have ai:q<ops.size:=by omega
     have h6:=hd.ready hi (hc.spine q i ops[q] o (by omega) g2 (by simp[ai]) ef h hm);rw[fw q g1 h]at h6;cases h6
   have hs:hp (J+(i-J))=hp J:=same (i-J) J (by omega) (fun q g1 g2=>tw q g1 (by omega));rw[show J+(i-J)=i by omega]at hs;refine(hx.tu i o v (by rw[Nat.zero_add];exact hm) dj).1 c a h1 (h2.trans hs.symm) h3 kN i ef _ _ (fun c' u k1 k2 k3 k4=>?_);refine ih _ _ c' (i+1) (by omega) (by omega) k1 k2 (mW u) (lJ c' u (fun _ _=>k3.vr) k4) (h5.trans k3) (hd.set hi) (fun q hq oO eO=>?_) (fun q hq eO=>by rw[cP,fw q (by omega) eO];simp;omega) cV mg;by_cases mh:q=i
   ·subst mh;rw[cP];simp
   ·rcases Nat.lt_or_ge q J with h|h
    ·rw[cP,gU q hq h eO];simp
    ·have:=tw q h (by omega);rw[eO]at this;cases this
end
@[irreducible] def aS (E : Env) (ae : FuncId) (R : bZ) (ops : Array Oper) (k : List aI) (F : List Nat) (n : Nat) (B : List Nat) (X : List af) (FP : List Nat) (j : Nat) (ba : List Oper) (s : List AV) (h : List af) : Prop :=
 fM E ops F n B X (fun s2 h2=>aa E ae R [] k s2 h2) j ba s h
section
variable {E:Env} {ae:FuncId} {R:bZ} {ops:Array Oper} {k:List aI} {F:List Nat} {n:Nat} {B:List Nat} {X:List af} {lits:List Nat} {j:Nat} {ba:List Oper} {s:List AV} {h:List af}
theorem aS.is(H:aS E ae R ops k F n B X lits j ba s h):aS E ae R ops k F n B X lits j ba s h:=H
theorem aS.to(H:aS E ae R ops k F n B X lits j ba s h):fM E ops F n B X (fun s2 h2=>aa E ae R [] k s2 h2) j ba s h:=by unfold aS at H;exact H
end
def qf(n:Nat)(B:List Nat)(v:AV)(stop k:Prop):Prop:=match eV n B v with
 |true=>k
 |false=>stop
def qi(E:Env)(ae:FuncId)(R:bZ)(ops:Array Oper)(k:List aI)(F:List Nat)(n:Nat)(B:List Nat)(X:List af):Nat->List Nat->Nat->List Oper->List AV->List af->Prop
 |0,lits,j,ba,s,h=>aS E ae R ops k F n B X lits j ba s h
 |m+1,lits,j,ba,s,h =>
  match ba with
  |[]=>aa E ae R [] k s h
  |o::l=>sW (ca ops o) 0 s fun so =>
   let stop:Prop:=aS E ae R ops k F n B X lits j ba s h
   let next (v:AV):Prop:=bL s o.dst v fun s'=>aS E ae R ops k F n B X lits (j+1) l s' h
   let run (v:AV):Prop:=bL s o.dst v fun s'=>qi E ae R ops k F n B X m lits (j+1) l s' h
   let go:Prop:=match bW j F with
    |true=>match ke o with
     |true=>fo E.T E.G o.op so h (kG E o.op so (gu E o.op so h (jz E.G so o stop fun _ _=>stop) fun _ _=>stop) fun _=>stop) fun v _=>run v
     |false=>match kg o.op with
      |true=>xR n B so fun sf=>fo E.T E.G o.op sf X (kG E o.op sf (gu E o.op sf X stop fun v _=>qf n B v stop (next v)) fun v=>qf n B v stop (run v)) fun v _=>qf n B v stop (run v)
      |false=>stop
    |false=>fo E.T E.G o.op so h (oE E o.op so h (gu E o.op so h (jz E.G so o stop fun f fe=>mI fe (sV E f fe h stop fun v h'=>cS n B 0 h'=X/\bL s o.dst v fun s'=>aS E ae R ops k F n B X lits (j+1) l s' h') fun ds=>tr E f ds h (fun v=>next (.d v)) fun v h'=>cS n B 0 h'=X/\bL s o.dst v fun s'=>aS E ae R ops k F n B X lits (j+1) l s' h')
      fun v h'=>cS n B 0 h'=X/\bL s o.dst v fun s'=>aS E ae R ops k F n B X lits (j+1) l s' h')
      fun v h'=>cS n B 0 h'=X/\bL s o.dst v fun s'=>aS E ae R ops k F n B X lits (j+1) l s' h')
     fun v h'=>cS n B 0 h'=X/\bL s o.dst v fun s'=>aS E ae R ops k F n B X lits (j+1) l s' h'
   sO ops o.guard go stop fun d b=>aY so d stop fun
    | .d (.bool t)=>match bW d lits with
     |false=>lD t (fI s d (.d (.bool true)) fun s'=>aS E ae R ops k F n B X (d::lits) j ba s' h) (fI s d (.d (.bool false)) fun s'=>aS E ae R ops k F n B X (d::lits) j ba s' h)
     |true=>match Cj t b with
      |true=>go
      |false=>run (.d .undef)
    | .d .undef=>run (.d .undef)
    |_=>stop
theorem XF{E:Env}(hE:E.OK){ae:FuncId}{R:bZ}{ops:Array Oper}{k:List aI}{F:List Nat}{n:Nat}{B:List Nat}{X:List af}(ez:rR n B X=true):∀ (m:Nat) (lits:List Nat) (j:Nat) (ba:List Oper) (s:List AV) (h:List af),
  cS n B 0 h=X->qi E ae R ops k F n B X m lits j ba s h->fM E ops F n B X (fun s2 h2=>aa E ae R [] k s2 h2) j ba s h:=by
 intro m
 induction m with
 |zero=>intro lits j ba s h _ H;exact aS.to H
 |succ m ih =>
  intro lits j ba s h hX H;unfold qi at H;split at H
  ·exact H
  rename_i o l;rw[zL]at H;have rn:∀ (d:Nat) (x:AV),(bY (ca ops o) 0 s)[d]?=some x->x ≠ .any->s[d]?=some x:=fun d x hx aM=>by
   rcases vb _ 0 d s x hx with h|⟨-,h⟩
   ·exact absurd h aM
   ·exact h
  have HJ:∀ (v:AV),(bW j F=true->∀ h',cS n B 0 h'=X->dB E ops o s h' v)->(bW j F=false->dm E ops o s h v h/\pP E o h v h)->fM E ops F n B X (fun s2 h2=>aa E ae R [] k s2 h2) (j+1) l (bM s o.dst v) h->fM E ops F n B X (fun s2 h2=>aa E ae R [] k s2 h2) j (o::l) s h:=by
   intro v h1 h2 h3;unfold fM;cases q:bW j F
   ·exact⟨v,h,(h2 q).1,(h2 q).2,hX,h3⟩
   ·exact⟨v,h1 q,h3⟩
  have AB:∀ (v:AV) (h':List af),bW j F=false->dm E ops o s h v h'->pP E o h v h'->cS n B 0 h'=X->fM E ops F n B X (fun s2 h2=>aa E ae R [] k s2 h2) (j+1) l (bM s o.dst v) h'->fM E ops F n B X (fun s2 h2=>aa E ae R [] k s2 h2) j (o::l) s h:=by
   intro v h' q h1 gr h2 h3;unfold fM;rw[q];exact⟨v,h',h1,gr,h2,h3⟩
  have free:∀ {v:AV} {st kk:Prop},qf n B v st kk->st\/(eV n B v=true/\kk):=fun{v st kk} H=>by
   unfold qf at H;split at H
   ·rename_i q;exact .inr ⟨q,H⟩
   ·exact .inl H
  dsimp only at H
  have go:iF ops o (bY (ca ops o) 0 s) true->(match bW j F with
    |true=>match ke o with
     |true=>fo E.T E.G o.op (bY (ca ops o) 0 s) h (kG E o.op (bY (ca ops o) 0 s) (gu E o.op (bY (ca ops o) 0 s) h (jz E.G (bY (ca ops o) 0 s) o (aS E ae R ops k F n B X lits j (o::l) s h) fun _ _=>aS E ae R ops k F n B X lits j (o::l) s h) fun _ _=>aS E ae R ops k F n B X lits j (o::l) s h) fun _=>aS E ae R ops k F n B X lits j (o::l) s h) fun v _=>bL s o.dst v fun s'=>qi E ae R ops k F n B X m lits (j+1) l s' h
     |false=>match kg o.op with
      |true=>xR n B (bY (ca ops o) 0 s) fun sf=>fo E.T E.G o.op sf X (kG E o.op sf (gu E o.op sf X (aS E ae R ops k F n B X lits j (o::l) s h) fun v _=>qf n B v (aS E ae R ops k F n B X lits j (o::l) s h) (bL s o.dst v fun s'=>aS E ae R ops k F n B X lits (j+1) l s' h)) fun v=>qf n B v (aS E ae R ops k F n B X lits j (o::l) s h) (bL s o.dst v fun s'=>qi E ae R ops k F n B X m lits (j+1) l s' h)) fun v _=>qf n B v (aS E ae R ops k F n B X lits j (o::l) s h) (bL s o.dst v fun s'=>qi E ae R ops k F n B X m lits (j+1) l s' h)
      |false=>aS E ae R ops k F n B X lits j (o::l) s h
    |false=>fo E.T E.G o.op (bY (ca ops o) 0 s) h (oE E o.op (bY (ca ops o) 0 s) h (gu E o.op (bY (ca ops o) 0 s) h (jz E.G (bY (ca ops o) 0 s) o (aS E ae R ops k F n B X lits j (o::l) s h) fun f fe=>mI fe (sV E f fe h (aS E ae R ops k F n B X lits j (o::l) s h) fun v h'=>cS n B 0 h'=X/\bL s o.dst v fun s'=>aS E ae R ops k F n B X lits (j+1) l s' h') fun ds=>tr E f ds h (fun v=>bL s o.dst (.d v) fun s'=>aS E ae R ops k F n B X lits (j+1) l s' h) fun v h'=>cS n B 0 h'=X/\bL s o.dst v fun s'=>aS E ae R ops k F n B X lits (j+1) l s' h')
      fun v h'=>cS n B 0 h'=X/\bL s o.dst v fun s'=>aS E ae R ops k F n B X lits (j+1) l s' h')
      fun v h'=>cS n B 0 h'=X/\bL s o.dst v fun s'=>aS E ae R ops k F n B X lits (j+1) l s' h')
     fun v h'=>cS n B 0 h'=X/\bL s o.dst v fun s'=>aS E ae R ops k F n B X lits (j+1) l s' h')->fM E ops F n B X (fun s2 h2=>aa E ae R [] k s2 h2) j (o::l) s h:=by
   intro hw H;split at H
   ·rename_i q;split at H
    ·rename_i hF;have aT:kg o.op=true:=by
      obtain⟨dst,op,type,pos,after,guard⟩:=o;cases op<;>first|rfl|(cases guard<;>cases hF)
     have H':(match kg o.op with
      |true=>fo E.T E.G o.op (bY (ca ops o) 0 s) h (kG E o.op (bY (ca ops o) 0 s) (gu E o.op (bY (ca ops o) 0 s) h (jz E.G (bY (ca ops o) 0 s) o (aS E ae R ops k F n B X lits j (o::l) s h) fun _ _=>aS E ae R ops k F n B X lits j (o::l) s h) fun _ _=>aS E ae R ops k F n B X lits j (o::l) s h) fun _=>aS E ae R ops k F n B X lits j (o::l) s h) fun v _=>bL s o.dst v fun s'=>qi E ae R ops k F n B X m lits (j+1) l s' h
      |false=>aS E ae R ops k F n B X lits j (o::l) s h):=by rw[aT];exact H
     rcases Lx hF H' id with H|⟨v,H,ho⟩
     ·exact aS.to H
     ·rw[df]at H;exact HJ v (fun _ h' _=>dB.of hw (ho h')) (fun e=>by rw[q]at e;cases e) (ih _ _ _ _ _ hX H)
    split at H
    ·rename_i aT;rw[On]at H;have fin:∀ v,eV n B v=true->aZ E o.op (ob n B (bY (ca ops o) 0 s)) X v X->fM E ops F n B X (fun s2 h2=>aa E ae R [] k s2 h2) (j+1) l (bM s o.dst v) h->fM E ops F n B X (fun s2 h2=>aa E ae R [] k s2 h2) j (o::l) s h:=fun v hv aO H =>
      HJ v (fun _ h' e=>dB.of hw (aZ.XA (by rw[e];exact ez) hv (by rw[e];exact aO))) (fun e=>by rw[q]at e;cases e) H
     rcases uh hE (Lv (K:=fun v=>qf n B v (aS E ae R ops k F n B X lits j (o::l) s h) (bL s o.dst v fun s'=>qi E ae R ops k F n B X m lits (j+1) l s' h)) aT H)with H|⟨v,h',⟨rfl,H⟩,ho⟩
     ·rcases Fk hE H with H|⟨v,H,ho⟩
      case inr =>
       rcases free H with H|⟨hv,H⟩
       ·exact aS.to H
       ·rw[df]at H;exact fin v hv (ho _) (ih _ _ _ _ _ hX H)
      rcases uH hE (Lw (K:=fun v=>qf n B v (aS E ae R ops k F n B X lits j (o::l) s h) (bL s o.dst v fun s'=>aS E ae R ops k F n B X lits (j+1) l s' h)) aT H)with H|⟨v,h',⟨rfl,H⟩,ho⟩
      ·exact aS.to H
      ·rcases free H with H|⟨hv,H⟩
       ·exact aS.to H
       ·rw[df]at H;exact fin v hv ho (aS.to H)
     ·rcases free H with H|⟨hv,H⟩
      ·exact aS.to H
      ·rw[df]at H;exact fin v hv ho (ih _ _ _ _ _ hX H)
    ·exact aS.to H
   ·rename_i q;by_cases hA:∃ t,o.op=.alloc t
    ·obtain⟨t,e⟩:=hA;simp only[e,fo,oE,kG,y9,gu,ma,nH,sE,oF,jz]at H;rcases bp H with H|⟨i,hi,H⟩
     ·exact aS.to H
     split at H
     ·rename_i q1 q2;rw[qE,nB,Nat.zero_add]at H;obtain⟨e2,H⟩:=H;rw[df]at H;have hz:=Nat.eq_of_beq_eq_true q1;have hp:0<i.size:=sD q2;exact AB _ _ q (dm.of hw (by rw[e];exact EI hE hi hz hp)) (fun t' e' _=>by rw[e]at e';cases e';exact⟨rfl,i,hi,hz,hp,rfl⟩) e2 (aS.to H)
     ·exact aS.to H
    have pR:∀ (h:List af) (v:AV) (h':List af),pP E o h v h':=fun h v h' t e=>absurd ⟨t,e⟩ hA;have fin:∀ v h',aZ E o.op (bY (ca ops o) 0 s) h v h'->(cS n B 0 h'=X/\bL s o.dst v fun s'=>aS E ae R ops k F n B X lits (j+1) l s' h')->fM E ops F n B X (fun s2 h2=>aa E ae R [] k s2 h2) j (o::l) s h:=fun v h' ho H=>by
     obtain⟨e,H⟩:=H;rw[df]at H;exact AB v h' q (dm.of hw ho) (pR _ _ _) e (aS.to H)
    rcases uh hE H with H|⟨v,h',H,ho⟩
    ·rcases zb hE H with H|⟨v,h',H,ho⟩
     case inr=>exact fin v h' ho H
     rcases uH hE H with H|⟨v,h',H,ho⟩
     ·rcases Ci H with H|⟨fx,args,ts,f,a1,av,a2,bX,hv,kJ,H⟩
      ·exact aS.to H
      rcases tV (a1++av++a2) (sV E f (a1++av++a2) h (aS E ae R ops k F n B X lits j (o::l) s h) fun v h'=>cS n B 0 h'=X/\bL s o.dst v fun s'=>aS E ae R ops k F n B X lits (j+1) l s' h') (fun ds=>tr E f ds h (fun v=>bL s o.dst (.d v) fun s'=>aS E ae R ops k F n B X lits (j+1) l s' h) fun v h'=>cS n B 0 h'=X/\bL s o.dst v fun s'=>aS E ae R ops k F n B X lits (j+1) l s' h')with⟨ds,e1,e2⟩|e2
      ·rw[e2]at H;unfold tr at H;rcases H with⟨r,hc,hk⟩|⟨r,h1,hc,e,hk⟩
       ·rw[df]at hk;exact AB _ h q (dm.call hw bX hv kJ e1 hc) (pR _ _ _) hX (aS.to hk)
       ·rw[df]at hk;have e3:(a1++av++a2).map (lC [] h)=ds.map .d:=by rw[e1,List.map_map];rfl
        exact AB _ _ q (dm.oI (ah:=[]) hw bX hv kJ (by rw[e3];exact hc) List.nodup_nil (fun j hj=>by simp at hj)) (pR _ _ _) e (aS.to hk)
      ·rw[e2]at H;rcases Lu H with H|⟨ah,r,hp,hc,hn,ai,hk⟩
       ·exact aS.to H
       obtain⟨e,hk⟩:=hk;rw[df]at hk;exact AB _ _ q (dm.oI hw bX hv kJ hc hn ai) (pR _ _ _) e (aS.to hk)
     ·exact fin v h' ho H
    ·exact fin v h' ho H
  have skip:iF ops o (bY (ca ops o) 0 s) false->o.guard≠none->(bL s o.dst (.d .undef) fun s'=>qi E ae R ops k F n B X m lits (j+1) l s' h)->fM E ops F n B X (fun s2 h2=>aa E ae R [] k s2 h2) j (o::l) s h:=fun hw XG H=>by
   rw[df]at H;exact HJ _ (fun _ h' _=>dB.skip hw) (fun _=>⟨dm.skip hw,fun _ _ e=>absurd e XG⟩) (ih _ _ _ _ _ hX H)
  unfold sO at H;split at H
  ·rename_i hg;exact go (eK hg) H
  ·rename_i jj b hg;rcases bp H with H|⟨oj,kK,H⟩
   ·exact aS.to H
   split at H
   ·rename_i d hd;rcases bp H with H|⟨x,hx,H⟩
    ·exact aS.to H
    split at H
    ·rename_i t;have ov:=rn d _ hx (by simp);split at H
     ·refine zA H (fun e H2=>?_) (fun e H2=>?_)
      ·subst e;rw[gJ,lE ov]at H2;exact aS.to H2
      ·subst e;rw[gJ,lE ov]at H2;exact aS.to H2
     ·have hw:=BN hg kK hd hx;split at H
      ·rename_i q;have:(t==b)=true:=by cases t<;>cases b<;>first|rfl|cases q
       rw[this]at hw;exact go hw H
      ·rename_i q;have:(t==b)=false:=by cases t<;>cases b<;>first|rfl|cases q
       rw[this]at hw;exact skip hw (by rw[hg];simp) H
    ·exact skip (yS hg kK hd hx) (by rw[hg];simp) H
    ·exact aS.to H
   ·exact aS.to H
section
variable {E:Env} {ae:FuncId} {R:bZ} {ops:Array Oper} {k:List aI} {F:List Nat} {n:Nat} {B:List Nat} {X:List af} {lits:List Nat} {j:Nat} {ba:List Oper} {s:List AV} {h:List af}
theorem aS.run(hE:E.OK)(m:Nat)(ez:rR n B X=true)(hX:cS n B 0 h=X)(H:qi E ae R ops k F n B X m lits j ba s h):aS E ae R ops k F n B X lits j ba s h:=by
 unfold aS;exact XF hE ez m lits j ba s h hX H
theorem HK:∀ {l:List Oper} {j:Nat} {s:List AV} {h:List af},fM E ops F n B X (fun s2 h2=>aa E ae R [] k s2 h2) j l s h->fM E ops F n B X (fun s2 h2=>AW E R.fx.f0 ⟨⟨ae,R.fx.cG,R.fx.aN⟩,k,s2⟩ R.fx.cls h2 R) j l s h
 |[],_,_,_,H=>aa.to H
 |o::l,j,s,h,H=>by
  unfold fM at H ⊢;split at H
  ·obtain⟨v,h1,h2⟩:=H;exact⟨v,h1,HK h2⟩
  ·obtain⟨v,h',h1,gr,h2,h3⟩:=H;exact⟨v,h',h1,gr,h2,HK h3⟩
def AD{α:Sort _}(n:Nat)(B:List Nat):Nat->List af->(List af->α)->α
 |_,[],k=>k []
 |i,b::r,k=>match Nat.ble n i with
  |true=>k []
  |false=>match bW i B with
   |true=>AD n B (i+1) r fun r'=>k (.gone::r')
   |false=>AD n B (i+1) r fun r'=>k (b::r')
theorem Ou{α:Sort _}:∀ (i:Nat) (h:List af) (k:List af->α),AD n B i h k=k (cS n B i h)
 |_,[],_=>rfl
 |i,b::r,k=>by
  simp only[AD,cS];split
  ·rfl
  ·split<;>rename_i q<;>rw[Ou (i+1) r]<;>simp only[q]
theorem aa.tz(hE:E.OK)(hm:E.P.follows .mixedOrders=true)(F B:List Nat)(m:Nat){id:Nat}(kf:Dm ops F=true)
  (H:qZ h 0 fun n=>AD n B 0 h fun X=>match rR n B X with
   |true=>aS E ae R ops k F n B X [] 0 ops.toList s h
   |false=>False) (dM:R.fx.cG=none:=by rfl) (dK:R.fx.aN=[]:=by rfl):aa E ae R lits (.code (.region id ops true)::k) s h:=by
 rw[wV,Nat.zero_add,Ou]at H;split at H
 case h_2=>exact H.elim
 rename_i ez;obtain⟨pl,hp,p1,p2,p3,p4⟩:=fM.lay (E:=E) (ops:=ops) (F:=F) (n:=h.length) (B:=B) rfl (HK (aS.to H));obtain⟨hlen,dH⟩:=rp p1;refine .of (AW.zR hm dM dK fun c t Q hQ h1 h2 h4=>?_);rw[hlen]at p3;refine XE (HE kf) p1 p4 (Kf:=fun s2 h2=>AW E R.fx.f0 ⟨⟨ae,R.fx.cG,R.fx.aN⟩,k,s2⟩ R.fx.cls h2 R) (by rw[hlen];exact p3) hQ ops.size _ ⟨t,[]⟩ c 0 (Nat.le_refl _) (Nat.zero_le _) h1 (h2.trans p2.symm) rfl ?_ (Step.refl c h1.bE) ⟨by simp,fun j o e _ hl=>by rw[kP]at hl;cases hl⟩ (fun i _ hi=>by omega) (fun i _ _=>kP _ i) (fun i _=>kP _ i) (CC _ _);rw[kc _ 0 s _ (fun i _=>kP _ _)];exact h4
end
end Go.aA
end
section
namespace Go.aA
open Go Go.RowKit
open Go.ChangeMaps (setBlock)
theorem xT{c0 c c':Cx}{i:Nat}(hh:∀ x,c.heap[i]?=some x->c'.heap[i]?=some x)(ho:∀ x,c.heap[i]?=some x->c'.own i=c.own i){bx:af}(h:yP c0 c i bx):yP c0 c' i bx:=by
 cases bx with
 |cells cs =>
  rcases h with⟨cs',h1,h2,h3⟩|h1
  ·exact .inl ⟨cs',hh _ h1,(ho _ h1).trans h2,h3⟩
  ·exact .inr (hh _ h1)
 |arr g sz l =>
  rcases h with⟨g',l',h1,h2⟩|h1
  ·refine .inl ⟨g',l',hh _ h1,?_⟩;rcases h2 with h2|⟨h2,h3,h4⟩
   ·exact .inl h2
   ·exact .inr ⟨h2,h3,(ho _ h1).trans h4⟩
  ·exact .inr (hh _ h1)
 |map es =>
  rcases h with⟨eC,h1,h2⟩|h1
  ·exact .inl ⟨eC,hh _ h1,(ho _ h1).trans h2⟩
  ·exact .inr (hh _ h1)
 |gone=>exact hh _ h
section
variable {G:List (Nat × DV)} {c:Cx} {bx:af} {blk cap:Nat}
def Cx.ff(c:Cx)(bx:af)(blk cap:Nat):Cx:=⟨fun i=>if i=c.heap.length then some (blk,cap)else c.own i,c.heap++[bx],fun b=>c.ak b/\b≠blk,c.w⟩
theorem XH(ho:aE G c)(hb:c.ak blk)(b:Nat):(c.ff bx blk cap).bad b↔c.bad b:=by
 constructor
 ·rintro(h|⟨i,n,h⟩)
  ·exact .inl h.1
  ·simp only[Cx.ff]at h;split at h
   ·cases h;exact .inl hb
   ·exact .inr ⟨i,n,h⟩
 ·rintro(h|⟨i,n,h⟩)
  ·by_cases e:b=blk
   ·subst e;exact .inr ⟨c.heap.length,cap,by simp[Cx.ff]⟩
   ·exact .inl ⟨h,e⟩
  ·refine .inr ⟨i,n,?_⟩;have:=(ho.bI i b n h).2;simp only[Cx.ff];rw[if_neg (by omega)];exact h
theorem Ov(ho:aE G c)(hb:c.ak blk)(b:Nat)(_:b<c.w.heap.size)(hn:¬ c.bad b):¬ (c.ff bx blk cap).bad b/\(c.ff bx blk cap).w.heap[b]?=c.w.heap[b]? := ⟨fun h=>hn ((XH ho hb b).1 h),rfl⟩
theorem Ow{i:Nat}{b:af}(hi:c.heap[i]?=some b):(c.ff bx blk cap).heap[i]?=c.heap[i]? := List.getElem?_append_left (a7 hi)
theorem HO{i:Nat}{b:af}(hi:c.heap[i]?=some b):(c.ff bx blk cap).own i=c.own i:=by
 have:=a7 hi;simp only[Cx.ff];rw[if_neg (by omega)]
theorem HQ(ho:aE G c)(hb:c.ak blk){x:AV}{v:Value}(hv:VR c x v):VR (c.ff bx blk cap) x v:=sm (Ov ho hb) (fun _ _ hi=>mN hi (Ow hi) (HO hi)) hv
theorem Ox(ho:aE G c)(hb:c.ak blk){x:DV}{v:Value}(hv:VD c.bad c.w x v):VD (c.ff bx blk cap).bad (c.ff bx blk cap).w x v:=hv.mono (Ov ho hb)
theorem aE.ff(ho:aE G c)(hb:c.ak blk)(iu:jr (c.ff bx blk cap) c.heap.length bx):aE G (c.ff bx blk cap) where
 bE:=fun b h=>ho.bE b h.1
 bI:=fun i b n hi=>by
  have hl:(c.ff bx blk cap).heap.length=c.heap.length+1:=by simp[Cx.ff]
  simp only[Cx.ff]at hi;split at hi
  ·cases hi;exact⟨ho.bE _ hb,by omega⟩
  ·have:=ho.bI i b n hi;exact⟨this.1,by omega⟩
 inj:=fun i j b n m hi hj=>by
  simp only[Cx.ff]at hi hj;split at hi<;>split at hj
  ·omega
  ·cases hi;exact absurd hb (ho.sep j _ m hj)
  ·cases hj;exact absurd hb (ho.sep i _ n hi)
  ·exact ho.inj i j b n m hi hj
 sep:=fun i b n hi h=>by
  simp only[Cx.ff]at hi;split at hi
  ·cases hi;exact h.2 rfl
  ·exact ho.sep i b n hi h.1
 box:=fun i b hx=>by
  rcases Nat.lt_trichotomy i c.heap.length with hi|rfl|hi
  ·have eS:c.heap[i]?=some b:=by
    have:(c.ff bx blk cap).heap[i]?=c.heap[i]? := List.getElem?_append_left hi
    rwa [this]at hx
   exact(ho.box i b eS).gen (fun _ _=>HQ ho hb) (fun _ _=>Ox ho hb) (HO eS) (fun _ _ _=>rfl)
  ·have:b=bx:=by simp[Cx.ff]at hx;exact hx.symm
   subst this;exact iu
  ·rw[List.getElem?_eq_none (by simp[Cx.ff];omega)]at hx;cases hx
 fB:=fun g e hg=>HQ ho hb (ho.fB g e hg)
theorem eZ.ff{c0:Cx}(hr:eZ c0 c)(hb:c0.w.heap.size<=blk):eZ c0 (c.ff bx blk cap) where
 lim:=hr.lim
 l5:=hr.l5
 ak:=fun b h=>⟨hr.ak b h,fun e=>by subst e;have:=hr.lim _ h;omega⟩
 ow:=fun b h=>hr.ow b h.1
 os:=hr.os
 tape:=hr.tape
 output:=hr.output
 size:=hr.size
 keep:=hr.keep
 dw:=fun i b n hi ai=>by
  simp only[Cx.ff]at hi;split at hi
  ·cases hi;omega
  ·exact hr.dw i b n hi ai
 boxes:=fun i bx hi=>xT (fun x hx=>(Ow hx).trans hx) (fun x hx=>HO hx) (hr.boxes i bx hi)
theorem gN.ff{lim:Nat}{rows:List bV}(h:gN lim c rows)(ho:aE G c)(hb:c.ak blk)(hn:blk ∉ rows.flatMap bV.cZ):gN lim (c.ff bx blk cap) rows :=
 ⟨fun r hr=>(h.each r hr).gen (fun b Oy=>⟨⟨(h.each r hr).ak b Oy,fun e=>hn (List.mem_flatMap.2 ⟨r,hr,e ▸ Oy⟩)⟩,rfl⟩) (fun _ _=>Ox ho hb) (fun _ _=>HQ ho hb),h.nodup⟩
def Cx.dS(c:Cx)(b blk:Nat):Cx:=⟨fun i=>if i=b then none else c.own i,c.heap.set b .gone,fun x=>c.ak x\/x=blk,c.w⟩
variable {b:Nat}
theorem xU{i:Nat}{p:Nat × Nat}(hi:(c.dS b blk).own i=some p):i≠b/\c.own i=some p:=by
 simp only[Cx.dS]at hi;split at hi
 ·cases hi
 ·rename_i q;exact⟨q,hi⟩
theorem XI(hb:c.own b=some (blk,cap))(x:Nat):(c.dS b blk).bad x↔c.bad x:=by
 constructor
 ·rintro((h|h)|⟨i,n,h⟩)
  ·exact .inl h
  ·subst h;exact .inr ⟨b,cap,hb⟩
  ·exact .inr ⟨i,n,(xU h).2⟩
 ·rintro(h|⟨i,n,h⟩)
  ·exact .inl (.inl h)
  ·by_cases e:i=b
   ·subst e;rw[hb]at h;cases h;exact .inl (.inr rfl)
   ·exact .inr ⟨i,n,by simp only[Cx.dS,if_neg e];exact h⟩
theorem Oz(hb:c.own b=some (blk,cap))(x:Nat)(_:x<c.w.heap.size)(hn:¬ c.bad x):¬ (c.dS b blk).bad x/\(c.dS b blk).w.heap[x]?=c.w.heap[x]? := ⟨fun h=>hn ((XI hb x).1 h),rfl⟩
theorem XJ{i:Nat}{y:af}(hi:c.heap[i]?=some y):tT c (c.dS b blk) i y:=by
 by_cases e:i=b
 ·subst e;have hg:(c.dS i blk).heap[i]?=some .gone:=List.getElem?_set_self (a7 hi);cases y with
  |cells cs=>exact .inr hg
  |arr g sz l=>exact .inr hg
  |map es=>exact .inr hg
  |gone=>exact hg
 ·exact mN hi (List.getElem?_set_ne (Ne.symm e)) (by simp only[Cx.dS,if_neg e])
theorem vJ(hb:c.own b=some (blk,cap)){x:AV}{v:Value}(hv:VR c x v):VR (c.dS b blk) x v:=sm (Oz hb) (fun _ _=>XJ) hv
theorem AE(hb:c.own b=some (blk,cap)){x:DV}{v:Value}(hv:VD c.bad c.w x v):VD (c.dS b blk).bad (c.dS b blk).w x v:=hv.mono (Oz hb)
theorem aE.dS(ho:aE G c)(hb:c.own b=some (blk,cap)):aE G (c.dS b blk) where
 bE:=fun x h=>h.elim (ho.bE x) fun e=>by subst e;exact(ho.bI b _ cap hb).1
 bI:=fun i x n hi=>by
  have:=ho.bI i x n (xU hi).2;refine⟨this.1,?_⟩;show i<(c.heap.set b .gone).length;rw[List.length_set];exact this.2
 inj:=fun i j x n m hi hj=>ho.inj i j x n m (xU hi).2 (xU hj).2
 sep:=fun i x n hi h=>by
  obtain⟨h1,h2⟩:=xU hi;rcases h with h|h
  ·exact ho.sep i x n h2 h
  ·subst h;exact h1 (ho.inj i b x n cap h2 hb)
 box:=fun i y hx=>by
  by_cases e:i=b
  ·subst e;have ai:i<c.heap.length:=(ho.bI i _ cap hb).2;have:(c.dS i blk).heap[i]?=some .gone:=List.getElem?_set_self ai;rw[this]at hx;cases hx;show(c.dS i blk).own i=none;simp[Cx.dS]
  ·have eS:c.heap[i]?=some y:=by
    have:(c.dS b blk).heap[i]?=c.heap[i]? := List.getElem?_set_ne (Ne.symm e)
    rwa [this]at hx
   exact(ho.box i y eS).gen (fun _ _=>vJ hb) (fun _ _=>AE hb) (by simp only[Cx.dS,if_neg e]) (fun _ _ _=>rfl)
 fB:=fun g e hg=>vJ hb (ho.fB g e hg)
theorem OA{c0:Cx}(hr:eZ c0 c)(hb:c.own b=some (blk,cap))(hn:c0.heap.length<=b):c0.w.heap.size<=blk:=by
 rcases Nat.lt_or_ge blk c0.w.heap.size with h|h
 ·obtain⟨m,hm⟩:=hr.dw b blk cap hb h;have:=hr.l5 b _ hm;omega
 ·exact h
theorem eZ.dS{c0:Cx}(hr:eZ c0 c)(hb:c.own b=some (blk,cap))(hn:c0.heap.length<=b):eZ c0 (c.dS b blk) where
 lim:=hr.lim
 l5:=hr.l5
 ak:=fun x h => .inl (hr.ak x h)
 ow:=fun x h=>h.elim (hr.ow x) fun e => .inr (by subst e;exact OA hr hb hn)
 os:=hr.os
 tape:=hr.tape
 output:=hr.output
 size:=hr.size
 keep:=hr.keep
 dw:=fun i x n hi ai=>hr.dw i x n (xU hi).2 ai
 boxes:=fun i bx hi=>by
  have bR:i≠b:=fun e=>by have:=a7 hi;omega
  exact xT (fun x hx=>(List.getElem?_set_ne (Ne.symm bR)).trans hx) (fun x hx=>by simp only[Cx.dS,if_neg bR]) (hr.boxes i bx hi)
theorem gN.dS{lim:Nat}{rows:List bV}(h:gN lim c rows)(hb:c.own b=some (blk,cap)):gN lim (c.dS b blk) rows :=
 ⟨fun r hr=>(h.each r hr).gen (fun x hx=>⟨.inl ((h.each r hr).ak x hx),rfl⟩) (fun _ _=>AE hb) (fun _ _=>vJ hb),h.nodup⟩
theorem OB{lim:Nat}{rows:List bV}(h:gN lim c rows)(ho:aE G c)(hb:c.own b=some (blk,cap)):blk ∉ rows.flatMap bV.cZ:=fun hm=>by
 obtain⟨r,hr,hx⟩:=List.mem_flatMap.1 hm;exact ho.sep b blk cap hb ((h.each r hr).ak blk hx)
theorem XK{α:Type}{a b c:List α}(h:(a++b++c).Nodup):(a++c).Nodup/\∀ x∈b,x ∉ a++c:=by
 have hp:(a++b++c).Perm (b++(a++c)):=by
  rw[List.append_assoc,<- List.append_assoc b a c];refine(List.Perm.trans ?_ (List.Perm.append_right c List.perm_append_comm));rw[List.append_assoc]
 have h2:=(hp.nodup_iff).1 h;rw[List.nodup_append]at h2;exact⟨h2.2.1,fun x hx eS=>h2.2.2 x hx x eS rfl⟩
theorem gN.AF{lim:Nat}{g1 g2:List bV}{g:bV}(h:gN lim c (g1++g::g2)):gN lim c (g1++g2)/\ja lim c g/\∀ x∈g.cZ,x ∉ (g1++g2).flatMap bV.cZ:=by
 have hn:=h.nodup;rw[List.flatMap_append,List.flatMap_cons,<- List.append_assoc]at hn;obtain⟨h1,h2⟩:=XK hn;rw[<- List.flatMap_append]at h1 h2;refine⟨⟨fun r hr=>h.each r ?_,h1⟩,h.each g (by simp),h2⟩;rcases List.mem_append.1 hr with hr|hr
 ·exact List.mem_append_left _ hr
 ·exact List.mem_append_right _ (List.mem_cons_of_mem _ hr)
end
theorem ev.AF{lim:Nat}{c:Cx}{g1 g2 L:List bV}{g:bV}(h:ev lim c (g1++g::g2) L):ev lim c (g1++g2) L/\ja lim c g/\∀ x∈g.cZ,x ∉ ((g1++g2)++L).flatMap bV.cZ:=by
 have h1:=h.all;rw[List.append_assoc,List.cons_append]at h1;obtain⟨k1,k2,k3⟩:=h1.AF;rw[<- List.append_assoc]at k1 k3;refine⟨⟨k1,fun x hx=>h.flat x ?_⟩,k2,k3⟩;rcases List.mem_append.1 hx with hx|hx
 ·exact List.mem_append_left _ hx
 ·exact List.mem_append_right _ (List.mem_cons_of_mem _ hx)
theorem OC{c:Cx}{s:List AV}{t:Array Value}(hv:VS c s t){d:Nat}{x:AV}(hx:∀ v,t[d]?=some v->VR c x v):VS c (s.set d x) t:=by
 refine⟨by simpa using hv.1,fun i y u hy hu=>?_⟩;by_cases hd:d=i
 ·subst hd;have hl:d<s.length:=by have:=a7 hy;simpa using this
  rw[List.getElem?_set_self hl]at hy;cases hy;exact hx u hu
 ·rw[List.getElem?_set_ne hd]at hy;exact hv.2 i y u hy hu
section
variable {E:Env} {ae:FuncId} {R:bZ} {td:List aI} {s:List AV} {h:List af} {lits:List Nat}
theorem aa.dS(d b:Nat){g:Nat}{ts:Nat × Nat}{l:List DV}(hb:h[b]?=some (.arr g ts l))(jg:R.n<=b)(hd:s[d]?=some (.own b g))
  (H0:l=[]->aa E ae R lits td (s.set d (.d (.raw (.slice none 0 0)))) (h.set b .gone))
  (H:∀ blk cap,aa E ae ⟨R.n,R.Q,.row ⟨blk,cap,ts,l⟩::R.rows,R.fx⟩ lits td (s.set d (.d (.raw (.slice (some ⟨blk,0,none⟩) l.length cap)))) (h.set b .gone)):aa E ae R lits td s h:=by
 refine .of ?_;unfold AW;intro c0 c t ec h0 h1 h2 h3 hr cb h4 h5 cs;subst h2;obtain⟨q0,q1,q2⟩:=h3.box b _ hb;rcases q2 with⟨q2,q3⟩|⟨blk,cap,vs,q2,q3,q4,q5,q6,q7⟩
 ·subst q3;have H:=(H0 rfl).to
  let c':Cx:={ c with own:=fun i=>if i=b then none else c.own i,heap:=c.heap.set b .gone }
  have fK:c'.heap[b]?=some .gone:=List.getElem?_set_self (a7 hb);have bJ:∀ i,c'.own i=c.own i:=fun i=>by
   simp only[c'];split
   ·rename_i e;subst e;exact q2.symm
   ·rfl
  have iq:∀ x,c'.bad x↔c.bad x:=fun x=>by
   constructor
   ·rintro(h|⟨i,n,h⟩)
    ·exact .inl h
    ·exact .inr ⟨i,n,(bJ i) ▸ h⟩
   ·rintro(h|⟨i,n,h⟩)
    ·exact .inl h
    ·exact .inr ⟨i,n,(bJ i).trans h⟩
  have aT:Step c c':=⟨rfl,h3.bE,rfl,rfl,rfl,Nat.le_refl _,fun _ _ _=>rfl,fun i x n hi _=>⟨n,(bJ i) ▸ hi⟩,fun i bx hi=>by
   by_cases e:i=b
   ·subst e;rw[hb]at hi;cases hi;exact .inr fK
   ·exact mN hi (List.getElem?_set_ne (Ne.symm e)) (bJ i)⟩
  have aO:aE E.G c':=h3.next aT (fun i x n hi=>by
    have:=h3.bI i x n ((bJ i) ▸ hi);refine⟨this.1,?_⟩;show i<(c.heap.set b .gone).length;rw[List.length_set];exact this.2) (fun i j x n m hi hj=>h3.inj i j x n m ((bJ i) ▸ hi) ((bJ j) ▸ hj)) (fun i bx hi=>by
   by_cases e:i=b
   ·subst e;rw[fK]at hi;cases hi;right;show c'.own i=none;simp[c']
   ·have:c'.heap[i]?=c.heap[i]? := List.getElem?_set_ne (Ne.symm e);rw[this]at hi
    exact .inl ⟨hi,bJ i,fun _ _ _=>rfl⟩)
  unfold AW at H;refine H c0 c' t ec h0 h1 rfl aO (hr.step aT) (cb.step h3 aT) (OC (aT.vs h4) fun v hv=>?_) (aT.cr h5) cs;have ir:=h4.2 d _ v hd hv;rcases nI hb ir with⟨blk,cap,r1,rfl⟩|⟨-,rfl,-⟩
  ·rw[q2]at r1;cases r1
  ·exact .d _ _ (.raw _ rfl)
 ·have H:=(H blk cap).to;unfold AW at H;have mS:=OA hr q2 (by omega);have aO:=h3.dS q2;refine H c0 (c.dS b blk) t ec h0 h1 rfl aO (hr.dS q2 (by omega)) ⟨⟨fun r HW=>?_,?_⟩,fun g hg=>(List.mem_cons.1 hg).elim (fun e=>by subst e;trivial) (cb.flat g)⟩ (OC ⟨h4.1,fun i x v hx hv=>vJ q2 (h4.2 i x v hx hv)⟩ fun v hv=>?_) (qK (fun _ _=>vJ q2) h5) cs
  ·rcases List.mem_cons.1 HW with rfl|HW
   ·show qL c0.w.heap.size (c.dS b blk) ⟨blk,cap,ts,l⟩
    exact⟨Or.inr rfl,mS,q0,q1,vs,q3,q4,q5,q6,fun i j e x he hx=>by
     obtain⟨v,k1,k2,k3⟩:=q7 i j e x he hx
     exact⟨v,k1,k2,AE q2 k3⟩⟩
   ·exact(cb.all.dS q2).each r HW
  ·rw[List.cons_append,List.flatMap_cons];refine List.nodup_append.2 ⟨by simp[bV.cZ],cb.all.nodup,fun x hx y hy e=>?_⟩;simp[bV.cZ]at hx;subst hx;subst e;exact OB cb.all h3 q2 hy
  ·have ir:=h4.2 d _ v hd hv;rcases nI hb ir with⟨lk,jS,r1,rfl⟩|⟨rfl,rfl,r1⟩
   ·rw[q2]at r1;cases r1;exact .d _ _ (.raw _ rfl)
   ·rw[q2]at r1;cases r1
end
section
variable {G:List (Nat × DV)} {c:Cx} {r:Nat} {w':World}
structure Touch(c:Cx)(r:Nat)(w':World):Prop where
 ak:c.ak r
 os:w'.os=c.w.os
 tape:w'.tape=c.w.tape
 output:w'.output=c.w.output
 size:w'.heap.size=c.w.heap.size
 other:∀ b,b≠r->w'.heap[b]?=c.w.heap[b]?
theorem Touch.yw(h:Touch c r w')(b:Nat)(_:b<c.w.heap.size)(hn:¬ c.bad b):¬ (c.dI w').bad b/\(c.dI w').w.heap[b]?=c.w.heap[b]? :=
 ⟨hn,h.other b (fun e=>by subst e;exact hn (.inl h.ak))⟩
theorem Touch.vr(h:Touch c r w'){x:AV}{v:Value}(hv:VR c x v):VR (c.dI w') x v:=sm h.yw (fun _ _ hi=>mN hi rfl rfl) hv
theorem Touch.vd(h:Touch c r w'){x:DV}{v:Value}(hv:VD c.bad c.w x v):VD (c.dI w').bad (c.dI w').w x v:=hv.mono h.yw
theorem Touch.aO(h:Touch c r w')(ho:aE G c):aE G (c.dI w') where
 bE:=fun b hb=>by show b<w'.heap.size;rw[h.size];exact ho.bE b hb
 bI:=fun i b n hi=>by show b<w'.heap.size/\_;rw[h.size];exact ho.bI i b n hi
 inj:=ho.inj
 sep:=ho.sep
 box:=fun i bx hi=>(ho.box i bx hi).gen (fun _ _=>h.vr) (fun _ _=>h.vd) rfl (fun b n hn=>h.other b (fun e=>by subst e;exact ho.sep i _ n hn h.ak))
 fB:=fun g e hg=>h.vr (ho.fB g e hg)
theorem Touch.rel(h:Touch c r w'){c0:Cx}(hr:eZ c0 c)(hl:c0.w.heap.size<=r):eZ c0 (c.dI w') where
 lim:=hr.lim
 l5:=hr.l5
 ak:=hr.ak
 ow:=hr.ow
 os:=h.os.trans hr.os
 tape:=h.tape.trans hr.tape
 output:=h.output.trans hr.output
 size:=by show _<=w'.heap.size;rw[h.size];exact hr.size
 keep:=fun b hb hn=>(h.other b (by omega)).trans (hr.keep b hb hn)
 dw:=hr.dw
 boxes:=fun i bx hi=>xT (fun _ hx=>hx) (fun _ _=>rfl) (hr.boxes i bx hi)
theorem Touch.rows(h:Touch c r w'){lim:Nat}{rows:List bV}(hr:gN lim c rows)(hn:r ∉ rows.flatMap bV.cZ):gN lim (c.dI w') rows :=
 ⟨fun g hg=>(hr.each g hg).gen (fun b hb=>⟨(hr.each g hg).ak b hb,h.other b (fun e=>hn (List.mem_flatMap.2 ⟨g,hg,e ▸ hb⟩))⟩) (fun _ _=>h.vd) (fun _ _=>h.vr),hr.nodup⟩
variable {o:Obj}
theorem eZ.cH{c0:Cx}(hr:eZ c0 c):eZ c0 (c.cH o) where
 lim:=hr.lim
 l5:=hr.l5
 ak:=fun b h => .inl (hr.ak b h)
 ow:=fun b h=>h.elim (hr.ow b) fun e => .inr (by rw[e];exact hr.size)
 os:=hr.os
 tape:=hr.tape
 output:=hr.output
 size:=by have:=hr.size;show _<=(c.w.alloc o).heap.size;simp;omega
 keep:=fun b hb hn=>by
  show(c.w.alloc o).heap[b]?=_;rw[Below.heap_alloc c.w o b (by have:=hr.size;omega)];exact hr.keep b hb hn
 dw:=hr.dw
 boxes:=fun i bx hi=>xT (fun _ hx=>hx) (fun _ _=>rfl) (hr.boxes i bx hi)
theorem gN.cH{lim:Nat}{rows:List bV}(hr:gN lim c rows)(ho:aE G c):gN lim (c.cH o) rows :=
 ⟨fun g hg=>(hr.each g hg).gen (fun b hb=>⟨.inl ((hr.each g hg).ak b hb),Below.heap_alloc c.w o b (ho.bE _ ((hr.each g hg).ak b hb))⟩) (fun _ _=>CA) (fun _ _=>sX),hr.nodup⟩
end
theorem HZ{en:Array MapEntry}{j:Nat}(h:j<en.size):((en[j]?).map (·.born)).getD 0=en[j].born:=by simp[h]
theorem born_inj{en:Array MapEntry}(hn:(en.toList.map (·.born)).Nodup){i j:Nat}(hi:i<en.size)(hj:j<en.size)(h:en[i].born=en[j].born):i=j:=by
 have h1:(en.toList.map (·.born))[i]?=some en[i].born:=by simp[hi]
 have h2:(en.toList.map (·.born))[j]?=some en[i].born:=by simp[hj,h]
 exact FC hn h1 h2
theorem OD{en:Array MapEntry}(hn:(en.toList.map (·.born)).Nodup){seen:List Nat}(ai:∀ j∈seen,j<en.size){j:Nat}(hj:j<en.size) :
  en[j]∈(leftOf en ((seen.map fun j=>((en[j]?).map (·.born)).getD 0).toArray)).toList↔j ∉ seen:=by
 simp only[leftOf,Array.toList_filter,List.mem_filter,List.contains_toArray,Bool.not_eq_true',List.contains_eq_mem,decide_eq_false_iff_not,List.mem_map,not_exists,not_and];constructor
 ·rintro⟨-,h⟩ hm;exact h j hm (HZ hj)
 ·intro h;refine⟨by simp,fun k hk e=>?_⟩;rw[HZ (ai k hk)]at e;exact h (born_inj hn (ai k hk) hj e ▸ hk)
section
variable {E:Env} {ae:FuncId} {R:bZ} {s:List AV} {h:List af} {lits:List Nat} {ops:Array Oper} {o:Oper} {l:List Oper} {k:List aI}
theorem aa.range(hE:E.OK){t kt e b:Nat}{m:Operand}{es:List (DV × DV)}{ti:bD}(hg:o.guard=none)(bX:o.op=.range t m)(cm:E.T[t]?=some ti)(hk:ti.k=.map kt e)(hm:bh E.G s m (.map b))(hb:h[b]?=some (.map es))(jg:R.n<=b)
  (H:∀ i:Iter,i.seen=[]->i.es=es->i.since<=i.ck->aa E ae ⟨R.n,R.Q,.iter i::R.rows,R.fx⟩ lits (.bF ops l::k) (bM s o.dst (.d (.raw (.pointer (some ⟨i.r,0,none⟩))))) (h.set b .gone)):aa E ae R lits (.bF ops (o::l)::k) s h:=by
 refine .of ?_;unfold AW;intro c0 c t' ec h0 h1 h2 h3 hr cb h4 h5 cs;subst h2;obtain⟨i,hi,dW,aO⟩:=mP (h1 _ (List.mem_cons_self ..));obtain⟨nL,d,g1,g2,g3,-⟩:=cM (hE.types t ti cm);have hd:d=.map kt e:=by rw[hk]at g3;cases d<;>first|(cases g3;rfl)|cases g3
 subst hd;have H3:=hm c ⟨t',marks R.fx.aN⟩ h3 h4;obtain⟨blk,cap,en,ck,q1,q2,q3,qe,q4⟩:=B3 h3 hb H3;have ea:=h3.dS q2;have ND:=hr.dS q2 (by omega);have C0:(c.dS b blk).w=c.w:=rfl
 let it:Obj := .mapIter (some blk) ck #[] ck
 have nT:aE E.G ((c.dS b blk).cH it):=ea.cH;have Ar:eZ c0 ((c.dS b blk).cH it):=ND.cH;have hblk:blk<c.w.heap.size:=(h3.bI b blk cap q2).1
 let gi:Iter:=⟨blk,c.w.heap.size,en,ck,ck,[],es⟩
 have H4:l7 c0.w.heap.size ((c.dS b blk).cH it) gi:=by
  refine⟨.inl (.inr rfl),.inr rfl,hr.size,?_,⟨ck,Nat.le_refl _,fun _=>rfl,?_⟩,qe.born,qe,fun j kk x mm h1 h2=>?_,fun j hj=>by simp[gi]at hj⟩
  ·show(c.w.alloc it).heap[blk]?=_;rw[Below.heap_alloc c.w it blk hblk];exact q3
  ·show(c.w.alloc it).heap[c.w.heap.size]?=_;exact heap_alloc_new _ _
  ·have:=q4.2 j kk x mm h1 (by simpa using h2);exact⟨CA (AE q2 this.1),CA (AE q2 this.2)⟩
 have AG:ev c0.w.heap.size ((c.dS b blk).cH it) (.iter gi::R.rows) R.fx.loops:=by
  have hold:=(cb.all.dS (b:=b) (blk:=blk) q2).cH (o:=it) ea;refine⟨⟨fun g hg=>?_,?_⟩,fun g hg=>(List.mem_cons.1 hg).elim (fun e=>by subst e;trivial) (cb.flat g)⟩
  ·rcases List.mem_cons.1 hg with rfl|hg
   ·exact H4
   ·exact hold.each g hg
  ·rw[List.cons_append,List.flatMap_cons];refine List.nodup_append.2 ⟨by simp[bV.cZ,gi];omega,cb.all.nodup,fun x hx y hy e=>?_⟩;subst e;simp[bV.cZ,gi]at hx;rcases hx with rfl|rfl
   ·exact OB cb.all h3 q2 hy
   ·obtain⟨g,hg,hx⟩:=List.mem_flatMap.1 hy;have:=h3.bE _ ((cb.all.each g hg).ak _ hx);omega
 have cW:(execOp (⟨t',marks R.fx.aN⟩:Act).eval o).run E.P c.w=.ok (.value (.pointer (some ⟨c.w.heap.size,0,none⟩))) (c.w.alloc it):=by
  simp only[execOp,bX,q1,Instr.range,newObj,Sem.run_bind,run_underlying g2,Result.andThen_ok,wO q3,Sem.run_pure,Sem.run];rfl
 have gK:VS ((c.dS b blk).cH it) (bM s o.dst (.d (.raw (.pointer (some ⟨c.w.heap.size,0,none⟩))))) ((⟨t',marks R.fx.aN⟩:Act).put o.dst (.pointer (some ⟨c.w.heap.size,0,none⟩))).tmps :=
  VS.bM (a:=⟨t',marks R.fx.aN⟩) ⟨h4.1,fun i x v hx hv=>sX (vJ q2 (h4.2 i x v hx hv))⟩ o.dst (.d _ _ (.raw _ rfl))
 have H:=(H gi rfl rfl (Nat.le_refl _)).to;unfold AW at H;obtain⟨c2,fr,rr,u,e1,e2,e3,e4,e5,e6⟩:=H c0 _ _ ec h0 (gP aO (ee h1)) rfl nT Ar AG gK (qK (fun _ _ hv=>sX (vJ q2 hv)) h5) cs;refine⟨c2,fr,rr,u,e1,e2,e3,e4,.head ?_ e5,e6⟩;simp only[cu.bS,List.map_cons,dW];rw[uo hi (eK hg c t' h4) (.inl cW),put_defers];rfl
theorem aa.next{x:Operand}{it:Iter}{g1 g2:List bV}(hg:o.guard=none)(bX:o.op=.next x false)(rS:it.since<=it.ck)(AG:R.rows=g1 ++ .iter it::g2)(hx:bh E.G s x (.d (.raw (.pointer (some ⟨it.r,0,none⟩)))))
  (H0:(∀ j,j<it.es.length->j∈it.seen)->aa E ae R lits (.bF ops l::k) (bM s o.dst (.d (.aK [.bool false]))) h)
  (H1:∀ j kk y,it.es[j]?=some (kk,y)->j ∉ it.seen->aa E ae ⟨R.n,R.Q,g1 ++ .iter { it with seen:=it.seen++[j] }::g2,R.fx⟩ lits (.bF ops l::k) (bM s o.dst (.d (.aK [.bool true,kk,y]))) h):aa E ae R lits (.bF ops (o::l)::k) s h:=by
 refine .of ?_;unfold AW;intro c0 c t' ec h0 h1 h2 h3 hr cb h4 h5 cs;subst h2;obtain⟨i,hi,dW,aO⟩:=mP (h1 _ (List.mem_cons_self ..));have di:(⟨t',marks R.fx.aN⟩:Act).eval x=.pointer (some ⟨it.r,0,none⟩):=by
  have:=hx c ⟨t',marks R.fx.aN⟩ h3 h4;generalize (⟨t',marks R.fx.aN⟩:Act).eval x=u at this;cases this with
  |d _ _ hq=>cases hq;rfl
 have Dn:=cb;rw[AG]at Dn;obtain⟨r1,r2,r3⟩:=Dn.AF;have r2:l7 c0.w.heap.size c it:=r2;obtain⟨z0,z1,-,z2⟩:=r2.iter;have bT:it.en.size=it.es.length:=r2.qM.size;rcases run_next_at (P:=E.P) c.w o.type it.r it.bm it.since z0 _ it.en it.ck z2 r2.map r2.old z1 with⟨n1,n2⟩|⟨qM,n1,w1,n2,n3⟩
 ·have H:=(H0 fun j hj=>by
   apply Classical.byContradiction;intro hm;have lr:j<it.en.size:=by omega
   have:=(OD r2.qM.nodup r2.lt lr).2 hm;have hl:(leftOf it.en ((it.seen.map fun j=>((it.en[j]?).map (·.born)).getD 0).toArray)).toList.length=0:=by simpa using n1
   rw[List.eq_nil_of_length_eq_zero hl]at this
   cases this).to
  unfold AW at H;have cW:(execOp (⟨t',marks R.fx.aN⟩:Act).eval o).run E.P c.w=.ok (.value (.tuple #[.bool false])) c.w:=by
   simp only[execOp,bX,di,Sem.run_bind,n2,Result.andThen_ok,Sem.run_pure]
  have gK:VS c (bM s o.dst (.d (.aK [.bool false]))) ((⟨t',marks R.fx.aN⟩:Act).put o.dst (.tuple #[.bool false])).tmps :=
   VS.bM (a:=⟨t',marks R.fx.aN⟩) h4 o.dst (.d _ _ (.aK _ _ rfl fun j y v hy hv=>by
    match j with
    |0=>simp at hy hv;subst hy;subst hv;exact .bool _
    |j+1=>simp at hy))
  obtain⟨c2,fr,rr,u,e1,e2,e3,e4,e5,e6⟩:=H c0 c _ ec h0 (gP aO (ee h1)) rfl h3 hr cb gK h5 cs;refine⟨c2,fr,rr,u,e1,e2,e3,e4,.head ?_ e5,e6⟩;simp only[cu.bS,List.map_cons,dW];rw[uo hi (eK hg c t' h4) (.inl cW),put_defers];rfl
 ·have ie:qM∈it.en.toList:=by
   simp only[leftOf,Array.toList_filter,List.mem_filter]at n1;exact n1.1
  obtain⟨j,hj,rfl⟩:=List.getElem_of_mem ie;have lr:j<it.en.size:=by simpa using hj
  have nO:it.en.toList[j]=it.en[j]:=by simp
  rw[nO]at n1 n3;have fW:=(OD r2.qM.nodup r2.lt lr).1 n1;obtain⟨⟨kk,y⟩,OE⟩:∃ p,it.es[j]?=some p:=⟨it.es[j]'(by omega),by rw[List.getElem?_eq_getElem]⟩;have H:=(H1 j kk y OE fW).to;unfold AW at H;have uL:=h3.bE _ r2.yR;have C0:w1.os=c.w.os/\w1.tape=c.w.tape/\w1.output=c.w.output/\w1.heap=c.w.heap:=by rcases n2 with rfl|rfl<;>exact⟨rfl,rfl,rfl,rfl⟩
  obtain⟨a1,a2,a3,a4⟩:=C0;generalize uj:setBlock w1 it.r (.mapIter (some it.bm) it.since (((it.seen.map fun j=>((it.en[j]?).map (·.born)).getD 0).toArray).push it.en[j].born) it.ck)=w' at n3;have kV:Touch c it.r w':=by
   subst uj;refine⟨r2.yR,a1,a2,a3,by simp[setBlock,a4],fun b hb=>?_⟩;simp only[setBlock,a4];rw[Array.getElem?_setIfInBounds_ne (Ne.symm hb)]
  have XL:it.r ∉ ((g1++g2)++R.fx.loops).flatMap bV.cZ:=r3 _ (by simp[bV.cZ]);have fE:it.bm≠it.r:=by
   have:=Dn.all.nodup;rw[List.append_assoc,List.cons_append,List.flatMap_append,List.nodup_append]at this;have h6:=this.2.1;rw[List.flatMap_cons,List.nodup_append]at h6;have h7:=h6.1;simp[bV.cZ]at h7;exact h7
  have H4:l7 c0.w.heap.size (c.dI w') { it with seen:=it.seen++[j] }:=by
   refine⟨r2.ET,r2.yR,r2.J3,(kV.other _ fE).trans r2.map,⟨it.ck,?_,fun _=>rfl,?_⟩,r2.old,r2.qM,fun p kk x mm h1 h2=>?_,fun p hp=>?_⟩
   ·exact rS
   ·show w'.heap[it.r]?=_;subst uj;simp only[setBlock,a4];rw[Array.getElem?_setIfInBounds_self_of_lt uL];simp[HZ lr]
   ·have:=r2.val p kk x mm h1 h2;exact⟨kV.vd this.1,kV.vd this.2⟩
   ·rcases List.mem_append.1 hp with hp|hp
    ·exact r2.lt p hp
    ·simp at hp;subst hp;exact lr
  have XM:ev c0.w.heap.size (c.dI w') (g1 ++ .iter { it with seen:=it.seen++[j] }::g2) R.fx.loops:=by
   have hold:=kV.rows r1.all XL;refine⟨⟨fun g hg=>?_,?_⟩,fun g hg=>?_⟩
   ·rcases List.mem_append.1 hg with hg|hg
    ·rcases List.mem_append.1 hg with hg|hg
     ·exact hold.each g (List.mem_append_left _ (List.mem_append_left _ hg))
     ·rcases List.mem_cons.1 hg with rfl|hg
      ·exact H4
      ·exact hold.each g (List.mem_append_left _ (List.mem_append_right _ hg))
    ·exact hold.each g (List.mem_append_right _ hg)
   ·have:=Dn.all.nodup;rw[List.append_assoc,List.cons_append,List.flatMap_append,List.flatMap_cons]at this ⊢;exact this
   ·rcases List.mem_append.1 hg with hg|hg
    ·exact r1.flat g (List.mem_append_left _ hg)
    ·rcases List.mem_cons.1 hg with rfl|hg
     ·trivial
     ·exact r1.flat g (List.mem_append_right _ hg)
  have bQ:=r2.val j kk y it.en[j] OE (by simp[lr]);have cW:(execOp (⟨t',marks R.fx.aN⟩:Act).eval o).run E.P c.w=.ok (.value (.tuple #[.bool true,it.en[j].key,it.en[j].val])) w':=by
   simp only[execOp,bX,di,Sem.run_bind,n3,Result.andThen_ok,Sem.run_pure]
  have gK:VS (c.dI w') (bM s o.dst (.d (.aK [.bool true,kk,y]))) ((⟨t',marks R.fx.aN⟩:Act).put o.dst (.tuple #[.bool true,it.en[j].key,it.en[j].val])).tmps :=
   VS.bM (a:=⟨t',marks R.fx.aN⟩) ⟨h4.1,fun i x v hx hv=>kV.vr (h4.2 i x v hx hv)⟩ o.dst (.d _ _ (.aK _ _ rfl fun p z v hz hv=>by
    match p with
    |0=>simp at hz hv;subst hz;subst hv;exact .bool _
    |1=>simp at hz hv;subst hz;subst hv;exact kV.vd bQ.1
    |2=>simp at hz hv;subst hz;subst hv;exact kV.vd bQ.2
    |p+3=>simp at hz))
  obtain⟨c2,fr,rr,u,e1,e2,e3,e4,e5,e6⟩:=H c0 (c.dI w') _ ec h0 (gP aO (ee h1)) rfl (kV.aO h3) (kV.rel hr r2.J3) XM gK (qK (fun _ _=>kV.vr) h5) cs;refine⟨c2,fr,rr,u,e1,e2,e3,e4,.head ?_ e5,e6⟩;simp only[cu.bS,List.map_cons,dW];rw[uo hi (eK hg c t' h4) (.inl cW),put_defers];rfl
end
end Go.aA
end
section
namespace Go.aA
open Go Go.RowKit
section
variable {E:Env} {ae:FuncId} {R:bZ} {td:List aI} {s:List AV} {h:List af}
theorem aa.tA{lits:List Nat}(b off:Nat)(ts:Nat × Nat)(mR:0<ts.2){cs:List AV}(hb:h[b]?=some (.cells cs))(hd:cs[off]?=some (.d .aW))
  (H:aa E ae R lits td s (h.set b (.cells (cs.set off (.own h.length 0)))++[.arr 0 ts []])):aa E ae R lits td s h:=by
 replace H:=H.to;refine .of (.jX (fun c t ec h1 h2 h3 h4 h5=>?_) H);subst h2;have eD:=a7 hb
 let c':Cx:={ c with heap:=c.heap.set b (.cells (cs.set off (.own c.heap.length 0)))++[.arr 0 ts []] }
 have dR:c.own c.heap.length=none:=by
  cases ho:c.own c.heap.length with
  |none=>rfl
  |some p=>have:=(h3.bI _ p.1 p.2 ho).2;omega
 have mS:c'.heap[c.heap.length]?=some (.arr 0 ts []):=by show(c.heap.set b _++_)[_]?=_;rw[List.getElem?_append_right (by simp)];simp
 have pb:c'.heap[b]?=some (.cells (cs.set off (.own c.heap.length 0))):=by
  show(c.heap.set b _++_)[b]?=_;rw[List.getElem?_append_left (by simp;omega),List.getElem?_set_self eD]
 have np:∀ i,i≠b->i<c.heap.length->c'.heap[i]?=c.heap[i]? := fun i hi hl=>by
  show(c.heap.set b _++_)[i]?=_;rw[List.getElem?_append_left (by simp;omega),List.getElem?_set_ne (Ne.symm hi)]
 have aT:Step c c':=⟨rfl,h3.bE,rfl,rfl,rfl,Nat.le_refl _,fun _ _ _=>rfl,fun i x n hi _=>⟨n,hi⟩,fun i bx hi=>by
  by_cases bR:i=b
  ·subst bR;rw[hb]at hi;cases hi;exact .inl ⟨_,pb,rfl,by simp⟩
  ·exact mN hi (np i bR (a7 hi)) rfl⟩
 have aO:aE E.G c':=h3.next aT (fun i x n hi=>by
   have:=h3.bI i x n hi;refine⟨this.1,?_⟩;show i<(c.heap.set b _++_).length;simp;omega) h3.inj (fun i bx hi=>by
  by_cases iZ:i=c.heap.length
  ·subst iZ;rw[mS]at hi;cases hi;exact .inr ⟨mR,fun i e he=>by simp at he,.inl ⟨dR,rfl⟩⟩
  ·have ai:i<c.heap.length:=by
    have h1:=a7 hi;have h2:c'.heap.length=c.heap.length+1:=by show(c.heap.set b _++_).length=_;simp
    omega
   by_cases bR:i=b
   ·subst bR;rw[pb]at hi;cases hi;right;obtain⟨blk,cap,vs,ty,g1,g2,g3,g4⟩:=h3.box i _ hb;refine⟨blk,cap,vs,ty,g1,g2,by simpa using g3,fun j x v hx hv=>?_⟩;by_cases hj:j=off
    ·subst hj;rw[List.getElem?_set_self (a7 hd)]at hx;cases hx;have:=g4 j _ v hd hv;cases this with
     |d _ _ hq=>cases hq;exact .iY _ _ ts mS dR
    ·rw[List.getElem?_set_ne (Ne.symm hj)]at hx;exact aT.vr (g4 j x v hx hv)
   ·rw[np i bR ai]at hi
    exact .inl ⟨hi,rfl,fun _ _ _=>rfl⟩)
 exact⟨c',t,ec,h1,rfl,aO,aT.vs h4,aT.cr h5,aT,fun _ => .refl _ _⟩
end
end Go.aA
end
section
section
namespace Go.aA
open Go Go.RowKit
section
variable {E:Env} {ae:FuncId} {R:bZ} {s:List AV} {h:List af} {lits:List Nat} {ops:Array Oper} {o:Oper} {l:List Oper} {k:List aI}
theorem XN(op:BinOp)(t:TypeId)(x y:Operand)(p q:Option Addr)(a b c d:Nat):eqGuard op t x y (.slice p a b) (.slice q c d)=pure ():=by
 unfold eqGuard;cases op<;>rfl
theorem aa.vK(hE:E.OK){t e:Nat}{x:Operand}{yt:Nat}{m:List DV}{ti:bD}(hg:o.guard=none)(bX:o.op=.binOp .eql t x (.const (.slice none 0 0)) yt)(cm:E.T[t]?=some ti)(hk:ti.k=.slice e)(hx:bh E.G s x (.d (.sl m)))
  (H:∀ b,(b=true->m=[])->aa E ae R lits (.bF ops l::k) (bM s o.dst (.d (.bool b))) h):aa E ae R lits (.bF ops (o::l)::k) s h:=by
 refine .of ?_;unfold AW;intro c0 c t' ec h0 h1 h2 h3 hr cb h4 h5 cs;subst h2;obtain⟨i,hi,dW,aO⟩:=mP (h1 _ (List.mem_cons_self ..));obtain⟨nL,d,g1,g2,g3,-⟩:=cM (hE.types t ti cm);obtain rfl:=lZ (hk.symm.trans g3);have hv:=hx c ⟨t',marks R.fx.aN⟩ h3 h4;have fin:∀ (p:Option Addr) (n cp:Nat) (b:Bool),(⟨t',marks R.fx.aN⟩:Act).eval x=.slice p n cp->(binOp .eql t (.slice p n cp) (.slice none 0 0)).run E.P c.w=.ok (.bool b) c.w->(execOp (⟨t',marks R.fx.aN⟩:Act).eval o).run E.P c.w=.ok (.value (.bool b)) c.w:=fun p n cp b e1 e2=>by
  have sT:(⟨t',marks R.fx.aN⟩:Act).eval (.const (.slice none 0 0))=.slice none 0 0:=rfl;simp only[execOp,bX,e1,sT,XN,Sem.run_bind,Sem.run_pure,Result.andThen_ok,e2]
 have key:∃ b,(b=true->m=[])/\(execOp (⟨t',marks R.fx.aN⟩:Act).eval o).run E.P c.w=.ok (.value (.bool b)) c.w:=by
  generalize hu:(⟨t',marks R.fx.aN⟩:Act).eval x=u at hv;cases hv with
  |d _ _ hv=>cases hv with
   |slnil=>exact⟨true,fun _=>rfl,fin _ _ _ _ hu (Lib.run_eql_slice_nil_nil c.w 0 0 g2)⟩
   |lg a=>exact⟨false,fun _=>rfl,fin _ _ _ _ hu (Lib.run_eql_slice_some_nil c.w a 0 0 g2)⟩
   |sl _ blk off cap sz f=>exact⟨false,fun q=>(by cases q),fin _ _ _ _ hu (Lib.run_eql_slice_some_nil c.w _ _ _ g2)⟩
 obtain⟨b,hb,cW⟩:=key;have H:=(H b hb).to;unfold AW at H;have gK:VS c (bM s o.dst (.d (.bool b))) ((⟨t',marks R.fx.aN⟩:Act).put o.dst (.bool b)).tmps:=VS.bM (a:=⟨t',marks R.fx.aN⟩) h4 o.dst (.d _ _ (.bool b));obtain⟨c2,fr,rr,u,e1,e2,e3,e4,e5,e6⟩:=H c0 c _ ec h0 (gP aO (ee h1)) rfl h3 hr cb gK h5 cs;refine⟨c2,fr,rr,u,e1,e2,e3,e4,.head ?_ e5,e6⟩;simp only[cu.bS,List.map_cons,dW];rw[uo hi (eK hg c t' h4) (.inl cW),put_defers];rfl
end
end Go.aA
end
section
namespace Go.aA
open Go Go.RowKit
section
variable {G:List (Nat × DV)} {c:Cx}
end
section
variable {E:Env} {ae:FuncId} {R:bZ} {s:List AV} {h:List af} {lits:List Nat} {ops:Array Oper} {o:Oper} {l:List Oper} {k:List aI}
end
end Go.aA
end
section
namespace Go.aA
open Go Go.RowKit
theorem gN.mid{lim:Nat}{c:Cx}{g1 g2:List bV}{g:bV}(h:gN lim c (g1++g2))(hg:ja lim c g)(hn:g.cZ.Nodup)(hd:∀ x∈g.cZ,x ∉ (g1++g2).flatMap bV.cZ):gN lim c (g1++g::g2):=by
 refine⟨fun r hr=>?_,?_⟩
 ·rcases List.mem_append.1 hr with hr|hr
  ·exact h.each r (List.mem_append_left _ hr)
  ·rcases List.mem_cons.1 hr with rfl|hr
   ·exact hg
   ·exact h.each r (List.mem_append_right _ hr)
 ·have hp:((g1++g::g2).flatMap bV.cZ).Perm (g.cZ++(g1++g2).flatMap bV.cZ):=by
   have:=(List.perm_middle (a:=g) (l₁ := g1) (l₂ := g2)).flatMap_right bV.cZ
   simpa using this
  rw[hp.nodup_iff,List.nodup_append];exact⟨hn,h.nodup,fun x hx y hy e=>by subst e;exact hd x hx hy⟩
section
variable {lim:Nat} {c:Cx} {rows L:List bV}
theorem ev.push{g:bV}(h:ev lim c rows L)(hg:ja lim c g)(hn:g.cZ.Nodup)(hd:∀ x∈g.cZ,x ∉ (rows++L).flatMap bV.cZ):ev lim c rows (g::L):=⟨h.all.mid hg hn hd,h.flat⟩
theorem ev.pop{g:bV}(h:ev lim c rows (g::L)):ev lim c rows L/\ja lim c g/\∀ x∈g.cZ,x ∉ (rows++L).flatMap bV.cZ:=by
 obtain⟨h1,h2,h3⟩:=h.all.AF;exact⟨⟨h1,h.flat⟩,h2,h3⟩
theorem ev.old{G:List (Nat × DV)}(h:ev lim c rows L)(ho:aE G c){b:Nat}(hb:b∈(rows++L).flatMap bV.cZ):b<c.w.heap.size:=by
 obtain⟨g,hg,hx⟩:=List.mem_flatMap.1 hb;exact ho.bE _ ((h.all.each g hg).ak _ hx)
theorem Touch.putObj{l:Nat}{o:Obj}(hb:c.ak l):Touch c l (c.w.putObj l o):=⟨hb,rfl,rfl,rfl,World.putObj_size,fun _ h=>World.putObj_heap_other h⟩
theorem ev.OF{n r:Nat}{g g':bV}{w':World}(h:ev lim c rows L)(hl:L[n]?=some g)(hb:g.cZ=[r])(cU:g'.cZ=[r])(ht:Touch c r w')(hg:ja lim (c.dI w') g'):ev lim (c.dI w') rows (L.set n g'):=by
 have ai:=a7 hl;have e1:L=L.take n++g::L.drop (n+1):=by
  have mT:L[n]=g:=(List.getElem?_eq_some_iff.1 hl).2;rw[<- mT,List.getElem_cons_drop,List.take_append_drop]
 have e2:L.set n g'=L.take n++g'::L.drop (n+1):=by
  rw[List.set_eq_take_append_cons_drop,if_pos ai]
 have h1:=h.all;rw[e1,<- List.append_assoc]at h1;obtain⟨k1,k2,k3⟩:=h1.AF;rw[e2];refine⟨?_,h.flat⟩;rw[<- List.append_assoc];refine(ht.rows k1 (k3 r (by rw[hb];simp))).mid hg (by rw[cU];simp) (fun x hx=>?_);rw[cU]at hx;exact k3 x (by rw[hb];exact hx)
end
def xV:List Nat->List AV->List AV->List AV
 |p::ps,a::l,s=>xV ps l (s.set p a)
 |_,_,s=>s
theorem OG{c:Cx}:∀ {ps:List Nat} {l:List AV} {vs:List Value} {s:List AV} {t:Array Value},VS c s t->VL c l vs->VS c (xV ps l s) ((ps.zip vs).foldl (fun t (p,v)=>t.setIfInBounds p v) t)
 |[],_,_,_,_,h,_=>by simpa [xV]using h
 |_::_,[],[],_,_,h,_=>by simpa [xV]using h
 |_::_,_::_,[],_,_,_,hl=>by have:=hl.1;simp at this
 |_::_,[],_::_,_,_,_,hl=>by have:=hl.1;simp at this
 |p::ps,a::l,v::vs,s,t,h,hl=>by
  simp only[xV,List.zip_cons_cons,List.foldl_cons];exact OG (h.put p hl.head.1) hl.head.2
theorem XO {P : Program} {f : FuncId} {fn : Func} {b : Code} (hf : P.funcs[f]? = some fn) (hb : fn.body = some b) (hn : (fn.name == "runtime.NumGoroutine") = false) (args : Array Value) (w : World) : (callFunc f args).run P w = .ok (.enter f args) w := by
 simp only[callFunc,Sem.run_bind,Sem.run_pure,Result.andThen_ok,program,Sem.run,hf,hn,hb,Option.isNone_some,Bool.false_eq_true,if_false]
theorem OH{P:Program}{f:FuncId}{fn:Func}{b:Code}(hf:P.funcs[f]?=some fn)(hb:fn.body=some b)(vs:List Value)(s:List AV):Frame.enter P f vs.toArray .normal=(⟨⟨f,none,[]⟩,[.code b],s⟩:cu).bS (vs.toArray++Array.replicate (fn.ntmps-vs.toArray.size) undef):=by
 simp[Frame.enter,cu.bS,Frame.atR,hf,hb,bf,aI.bS,marks]
theorem XQ{P:Program}{b:Frame}{a:Act}{k:List Item}{cs:List Frame}{w:World}{ops:Array Oper}{i:Nat}{rest:List Nat}{o:Oper}{l:Nat}{f:FuncId}{tmps:Array Value}{assign body:Code}(ho:ops[i]?=some o)(hw:Region.wanted o (yielded ops a.tmps)=true)
  (hr:(execOp a.eval o).run P w=.ok (.round l f tmps assign body) w) :
  step P (lone (b.atR a (.inRegion ops (i::rest)::k)) cs w)=.next (lone (Frame.round l f tmps assign body .normal) (b.atR a (.inRegion ops (i::rest)::k)::cs) w):=by
 have hg:=stepGR_op (P:=P) (b:=b) (k:=k) (cs:=cs) (w:=w) (rest:=rest) ho hw;have ur:=BM (ro:=b.roundOf) hr (by simp);exact step_lone_go (by rw[hg];simp[stepG.apply,ur])
theorem OI{P:Program}{G:List (Nat × DV)}{c0:Cx}{rows L:List bV}{cs:List Frame}:∀ (D:List Nat) (c:Cx) (fr:Frame),aE G c->eZ c0 c->ev c0.w.heap.size c rows (D.map .mark++L)->fr.mode=.returning->fr.defers=marks D ->
  ∃ c':Cx,c'.heap=c.heap/\aE G c'/\eZ c0 c'/\ev c0.w.heap.size c' rows L/\(∀ x v,VR c x v->VR c' x v)/\Steps P (lone fr cs c.w) (lone { fr with defers:=[] } cs c'.w)
 |[],c,fr,h1,h2,h3,_,h5=>by
  refine⟨c,rfl,h1,h2,h3,fun _ _ h=>h,?_⟩;have:{ fr with defers:=[] }=fr:=by cases fr;simp only at h5;subst h5;rfl
  rw[this];exact .refl _ _
 |d::D,c,fr,h1,h2,h3,h4,h5=>by
  obtain⟨k1,k2,k3⟩:=h3.pop;have k2:sy c0.w.heap.size c d:=k2;have ht:Touch c d (c.w.putObj d (.deferred none)) := .putObj k2.ak;have GM:=ht.rows k1.all (k3 d (by simp[bV.cZ]));obtain⟨c',q1,q2,q3,q4,q5,q6⟩:=OI D (c.dI (c.w.putObj d (.deferred none))) { fr with defers:=marks D } (ht.aO h1) (ht.rel h2 k2.new) ⟨GM,k1.flat⟩ h4 rfl;refine⟨c',q1,q2,q3,q4,fun x v hv=>q5 x v (ht.vr hv),.head ?_ q6⟩;exact step_collected (calls:=[]) (by rw[h4];simp) h5 rfl (run_takeDeferred k2.mem)
theorem H5{E:Env}(hE:E.OK){fn:Func}{s:List AV}{h:List af}{K:AV->List af->Prop}(H:nE E.T s h fn.results.toList False K) :
  ∃ r,K r h/\∀ (c:Cx) (t:Array Value),c.heap=h->aE E.G c->VS c s t->∃ v,VR c r v/\(results fn t).run E.P c.w=.ok v c.w:=by
 unfold nE at H;rcases BQ hE H with h'|⟨l,H,hl⟩
 ·cases h'
 split at H
 ·rename_i x;refine⟨x,H,fun c t e1 e2 e3=>?_⟩;obtain⟨vs,g1,g2⟩:=hl c t e1 e2 e3;cases vs with
  |nil=>have:=g1.1;simp at this
  |cons v vs=>cases vs with
   |cons u vs=>have:=g1.1;simp at this
   |nil=>exact⟨v,g1.head.1,E4 g2⟩
 ·rename_i aM;refine⟨_,H,fun c t e1 e2 e3=>?_⟩;obtain⟨vs,g1,g2⟩:=hl c t e1 e2 e3;refine⟨.tuple vs.toArray,.aK _ _ (by simpa using g1.1) fun j x v hx hu=>g1.2 j x v hx (by simpa using hu),?_⟩;have:=E4 g2;cases vs with
  |nil=>exact this
  |cons v vs=>cases vs with
   |nil =>
    have:=g1.1;cases l with
    |nil=>simp at this
    |cons x l=>cases l with
     |nil=>exact absurd rfl (aM x)
     |cons y l=>simp at this
   |cons u vs=>exact this
section
variable {E:Env} {ae:FuncId} {R:bZ} {s:List AV} {h:List af} {lits:List Nat} {ops:Array Oper} {o:Oper} {l:List Oper} {k:List aI}
theorem aa.rangeFunc {g : Operand} {ps : Array Tmp} {assign body OJ : Code} {gf : FuncId} {a1 a2 : List AV} {fn : Func} (hg : bh E.G s g (.fn (.func gf) a1 a2)) (hf : E.P.funcs[gf]? = some fn) (hb : fn.body = some OJ) (hn : (fn.name == "runtime.NumGoroutine") = false) (lN : R.fx.cG = none)
  (H:∀ (ll d:Nat) (t:Array Value),aa E gf ⟨R.n,R.Q,R.rows,⟨R.fx.f0,none,[],⟨⟨ae,none,d::R.fx.aN⟩,.qJ ll::k,s⟩::R.fx.cls,.loop ⟨ll,d,.ready,none,ae,t,ps,assign,body,s⟩ :: .mark d::R.fx.loops,R.fx.inl⟩⟩ [] [.code OJ] (nC (a1++[.fn (.yield ll) [] []]++a2) fn.ntmps) h) :
  aa E ae R lits (.code (.rangeFunc g ps assign body)::k) s h:=by
 have e:(⟨ae,R.fx.cG,R.fx.aN⟩:iE)=⟨ae,none,R.fx.aN⟩:=by rw[lN]
 refine .of ?_;rw[e];unfold AW;intro c0 c t ts h0 h1 h2 h3 hr cb h4 h5 cs;subst h2;obtain⟨v1,v2,e1,e2,e3⟩:=l8 (hg c ⟨t,marks R.fx.aN⟩ h3 h4);obtain⟨i,hi⟩:∃ i:mO,i=⟨c.w.heap.size+1,c.w.heap.size,.ready,none,ae,t,ps,assign,body,s⟩:=⟨_,rfl⟩;have bT:(c.cH (.deferred (some []))).w.heap.size=c.w.heap.size+1:=by simp[Cx.cH]
 have ea:aE E.G (c.cH (.deferred (some []))):=h3.cH;have nT:aE E.G ((c.cH (.deferred (some []))).cH (.loop i.fC)):=ea.cH;have Ar:eZ c0 ((c.cH (.deferred (some []))).cH (.loop i.fC)):=hr.cH.cH;have l6:∀ x v,VR c x v->VR ((c.cH (.deferred (some []))).cH (.loop i.fC)) x v:=fun x v hv=>sX (sX hv);have iZ:i.l=c.w.heap.size+1:=by rw[hi]
 have AH:ev c0.w.heap.size ((c.cH (.deferred (some []))).cH (.loop i.fC)) R.rows (.loop i :: .mark c.w.heap.size::R.fx.loops):=by
  have b0:ev c0.w.heap.size ((c.cH (.deferred (some []))).cH (.loop i.fC)) R.rows R.fx.loops:=⟨(cb.all.cH h3).cH ea,cb.flat⟩;have b1:ev c0.w.heap.size ((c.cH (.deferred (some []))).cH (.loop i.fC)) R.rows (.mark c.w.heap.size::R.fx.loops):=by
   refine b0.push (g := .mark c.w.heap.size) (show sy _ _ _ from ⟨.inl (.inr rfl),hr.size,?_⟩) (by simp[bV.cZ]) (fun x hx hm=>?_)
   ·show((c.w.alloc (.deferred (some []))).alloc (.loop i.fC)).heap[c.w.heap.size]?=_;rw[Below.heap_alloc _ _ _ (by simp)];exact heap_alloc_new _ _
   ·simp[bV.cZ]at hx;subst hx;have:=cb.old h3 hm;omega
  refine b1.push (g := .loop i) (show oz _ _ _ from ⟨.inr (by rw[iZ,bT]),by rw[iZ];have:=hr.size;omega,?_,?_⟩) (by simp[bV.cZ]) (fun x hx hm=>?_)
  ·show((c.w.alloc (.deferred (some []))).alloc (.loop i.fC)).heap[i.l]?=_;rw[iZ,show c.w.heap.size+1=(c.w.alloc (.deferred (some []))).heap.size by simp];exact heap_alloc_new _ _
  ·have es:i.jv=s:=by rw[hi]
   have et:i.tm=t:=by rw[hi]
   rw[es,et];exact⟨h4.1,fun j x v hx hv=>l6 x v (h4.2 j x v hx hv)⟩
  ·simp[bV.cZ]at hx;subst hx;rw[List.flatMap_append,List.mem_append,List.flatMap_cons,List.mem_append]at hm;rcases hm with hm|hm|hm
   ·have:=cb.old h3 (b:=i.l) (by rw[List.flatMap_append];exact List.mem_append_left _ hm);omega
   ·simp[bV.cZ]at hm;omega
   ·have:=cb.old h3 (b:=i.l) (by rw[List.flatMap_append];exact List.mem_append_right _ hm);omega
 have H:=(H (c.w.heap.size+1) c.w.heap.size t).to;rw[<- hi]at H;unfold AW at H;have jZ:VL ((c.cH (.deferred (some []))).cH (.loop i.fC)) (a1++[.fn (.yield (c.w.heap.size+1)) [] []]++a2) (v1++[.func (.yield (c.w.heap.size+1)) #[] #[]]++v2):=by
  have lift:∀ {x:List AV} {u:List Value},VL c x u->VL ((c.cH (.deferred (some []))).cH (.loop i.fC)) x u:=fun hx=>⟨hx.1,fun j x v h1 h2=>l6 x v (hx.2 j x v h1 h2)⟩;exact((lift e2).append (.cons (.fn _ _ _ _ _ rfl rfl (fun j x v hx=>by simp at hx) (fun j x v hx=>by simp at hx)) .nil)).append (lift e3)
 obtain⟨c2,fr,r,v,q1,q2,q3,q4,q5,q6⟩:=H c0 ((c.cH (.deferred (some []))).cH (.loop i.fC)) _ (t::ts) h0 (fun x hx=>by simp at hx;subst hx;trivial) rfl nT Ar AH (EW fn.ntmps jZ) ⟨⟨h4.1,fun j x v hx hv=>l6 x v (h4.2 j x v hx hv)⟩,gP trivial (ee h1),qK l6 h5⟩ cs;refine⟨c2,fr,r,v,q1,q2,q3,q4,.head ?_ q5,q6⟩;have nO:=run_enterLoop_outer (P:=E.P) (w:=c.w) ae t ps assign body;have XR:(Loop.mk .ready none ae t ps assign body c.w.heap.size)=i.fC:=by rw[hi];rfl
 rw[XR]at nO;have H6:(resolve (⟨t,marks R.fx.aN⟩:Act).eval (rangeCall g (c.w.heap.size+1)) 0).run E.P ((c.w.alloc (.deferred (some []))).alloc (.loop i.fC))=.ok { target := .fn (.func gf) v2.toArray,args:=v1.toArray ++ #[.func (.yield (c.w.heap.size+1)) #[] #[]] } ((c.w.alloc (.deferred (some []))).alloc (.loop i.fC)):=by
  have hy:∀ l:Nat,#[Operand.const (Value.func (Fn.yield l) #[] #[])].map (⟨t,marks R.fx.aN⟩:Act).eval = #[.func (.yield l) #[] #[]]:=fun _=>by simp[Act.eval]
  simp only[resolve,rangeCall,e1,Deferred.ofValue,Sem.run_pure,hy]
 have hinv:(invoke (Target.fn (.func gf) v2.toArray) (v1.toArray ++ #[.func (.yield (c.w.heap.size+1)) #[] #[]])).run E.P ((c.w.alloc (.deferred (some []))).alloc (.loop i.fC))=.ok (.enter gf (v1++[Value.func (.yield (c.w.heap.size+1)) #[] #[]]++v2).toArray) ((c.w.alloc (.deferred (some []))).alloc (.loop i.fC)):=by
  simp only[invoke];rw[XO hf hb hn]
  congr 2
  apply Array.ext';simp
 have hs:=stepR_rangeFunc (P:=E.P) (b:=bf ⟨ae,none,R.fx.aN⟩) (a:=⟨t,marks R.fx.aN⟩) (k:=k.map aI.bS) (cs:=fq R.fx.cls ts++cs) nO H6 hinv;rw[OH hf hb _ (nC (a1++[.fn (.yield (c.w.heap.size+1)) [] []]++a2) fn.ntmps)]at hs;exact hs
theorem aa.yield(n:Nat){i:mO}{fx:Operand}{args:Array Operand}{ts:Array TypeId}{av:List AV}(hl:R.fx.loops[n]?=some (.loop i))(hg:o.guard=none)(bX:o.op=.call { callee := .value fx,args:=args,argTypes:=ts })(hf:bh E.G s fx (.fn (.yield i.l) [] []))(ha:iw E.G s args.toList av)(hlen:av.length=i.ps.size)
  (H:aa E i.fn ⟨R.n,R.Q,R.rows,⟨R.fx.f0,some i.l,[],⟨⟨ae,R.fx.cG,R.fx.aN⟩,.bF ops (o::l)::k,s⟩::R.fx.cls,R.fx.loops,R.fx.inl⟩⟩ [] [.code i.assign,.ui,.code i.body] (xV i.ps.toList av i.jv) h):aa E ae R lits (.bF ops (o::l)::k) s h:=by
 refine .of ?_;unfold AW;intro c0 c t tt h0 h1 h2 h3 hr cb h4 h5 cs;subst h2;obtain⟨j,hj,dW,aO⟩:=mP (h1 _ (List.mem_cons_self ..));have hi:oz c0.w.heap.size c i:=cb.all.each _ (List.mem_append_right _ (List.mem_of_getElem? hl));obtain⟨v1,v2,e1,e2,e3⟩:=l8 (hf c ⟨t,marks R.fx.aN⟩ h3 h4);obtain rfl:v1=[]:=List.eq_nil_of_length_eq_zero (by simpa using e2.1.symm);obtain rfl:v2=[]:=List.eq_nil_of_length_eq_zero (by simpa using e3.1.symm);have e4:=ha c ⟨t,marks R.fx.aN⟩ h3 h4;have H:=H.to;unfold AW at H;have gQ:(#[]++args.map (⟨t,marks R.fx.aN⟩:Act).eval).size=i.fC.params.size:=by
  have:=e4.1;simp at this ⊢;rw[<- this,hlen];rfl
 have gK:=OG (ps:=i.ps.toList) hi.jv e4;obtain⟨c2,fr,r,v,q1,q2,q3,q4,q5,q6⟩:=H c0 c _ (t::tt) h0 (fun x hx=>by simp at hx;rcases hx with rfl|rfl|rfl<;>trivial) rfl h3 hr cb gK ⟨h4,h1,h5⟩ cs;refine⟨c2,fr,r,v,q1,q2,q3,q4,.head ?_ q5,q6⟩;have cW:(execOp (⟨t,marks R.fx.aN⟩:Act).eval o).run E.P c.w=.ok (.round i.l i.fn ((i.ps.toList.zip (args.toList.map (⟨t,marks R.fx.aN⟩:Act).eval)).foldl (fun t (p,v)=>t.setIfInBounds p v) i.tm) i.assign i.body) c.w:=by
  have hy:=run_yield (P:=E.P) hi.mem gQ;simp only[execOp,bX,resolve,e1,Deferred.ofValue,invoke,Sem.run_bind,Sem.run_pure,Result.andThen_ok,hy]
  congr 2
  rw[<- Array.foldl_toList,Array.toList_zip];simp[mO.fC]
 have hs:=XQ (P:=E.P) (b:=bf ⟨ae,R.fx.cG,R.fx.aN⟩) (a:=⟨t,marks R.fx.aN⟩) (k:=k.map aI.bS) (cs:=fq R.fx.cls tt++cs) (rest:=(List.range ops.size).drop (ops.size-l.length)) hj (eK hg c t h4) cW;simp only[cu.bS,List.map_cons,fq,dW,List.cons_append];exact hs
theorem aa.begin(n:Nat){i:mO}(hl:R.fx.loops[n]?=some (.loop i))(lN:R.fx.cG=some i.l)(aT:i.st=.ready)
  (H:aa E ae ⟨R.n,R.Q,R.rows,⟨R.fx.f0,some i.l,R.fx.aN,R.fx.cls,R.fx.loops.set n (.loop { i with st := .busy }),R.fx.inl⟩⟩ lits k s h):aa E ae R lits (.ui::k) s h:=by
 have e:(⟨ae,R.fx.cG,R.fx.aN⟩:iE)=⟨ae,some i.l,R.fx.aN⟩:=by rw[lN]
 refine .of ?_;rw[e];unfold AW;intro c0 c t tt h0 h1 h2 h3 hr cb h4 h5 cs;subst h2;have hi:oz c0.w.heap.size c i:=cb.all.each _ (List.mem_append_right _ (List.mem_of_getElem? hl));have ht:Touch c i.l (c.w.putObj i.l (.loop { i with st := .busy }.fC)) := .putObj hi.ak;have ai:=h3.bE _ hi.ak;have AH:ev c0.w.heap.size (c.dI (c.w.putObj i.l (.loop { i with st := .busy }.fC))) R.rows (R.fx.loops.set n (.loop { i with st := .busy })) :=
  cb.OF hl rfl rfl ht (show oz _ _ _ from ⟨hi.ak,hi.new,World.putObj_heap_same ai,⟨hi.jv.1,fun j x v hx hv=>ht.vr (hi.jv.2 j x v hx hv)⟩⟩)
 have H:=H.to;unfold AW at H;obtain⟨c2,fr,r,v,q1,q2,q3,q4,q5,q6⟩:=H c0 (c.dI (c.w.putObj i.l (.loop { i with st := .busy }.fC))) t tt h0 (ee h1) rfl (ht.aO h3) (ht.rel hr hi.new) AH ⟨h4.1,fun j x v hx hv=>ht.vr (h4.2 j x v hx hv)⟩ (qK (fun _ _=>ht.vr) h5) cs;refine⟨c2,fr,r,v,q1,q2,q3,q4,.head ?_ q5,q6⟩;exact stepR_beginRound (b:=bf ⟨ae,some i.l,R.fx.aN⟩) (a:=⟨t,marks R.fx.aN⟩) (k:=k.map aI.bS) rfl (run_beginRound hi.mem aT)
theorem aa.OL(n:Nat){i:mO}(jump:Option Code){td:List aI}{fd:iE}{jM:Array Oper}{o1:Oper}{l1:List Oper}{k1:List aI}{s1:List AV}{jk:List cu}
  (hj:∀ (b:Frame) (a:Act) (cf:Frame) (cs:List Frame) (w w':World) (v:Value),b.roundOf=some i.l->b.kind=.normal->(Instr.endRound i.l jump).run E.P w=.ok v w'->step E.P (lone (b.atR a (td.map aI.bS)) (cf::cs) w)=.next (lone (cf.finish v) cs w'))
  (hl:R.fx.loops[n]?=some (.loop i)) (lN:R.fx.cG=some i.l) (hc:R.fx.cls=⟨fd,.bF jM (o1::l1)::k1,s1⟩::jk)
  (H:aa E fd.f ⟨R.n,R.Q,R.rows,⟨R.fx.f0,fd.cG,fd.aN,jk,R.fx.loops.set n (.loop { i with st:=if jump.isNone then .ready else .done,pe:=jump }),R.fx.inl⟩⟩ [] (.bF jM l1::k1) (bM s1 o1.dst (.d (.bool jump.isNone))) h):aa E ae R lits td s h:=by
 have e:(⟨ae,R.fx.cG,R.fx.aN⟩:iE)=⟨ae,some i.l,R.fx.aN⟩:=by rw[lN]
 refine .of ?_;rw[e,hc];unfold AW;intro c0 c t tt h0 h1 h2 h3 hr cb h4 h5 cs;subst h2;obtain⟨t1,jl,rfl⟩:∃ t1 jl,tt=t1::jl:=by
  cases tt with
  |nil=>exact h5.elim
  |cons t1 jl=>exact⟨_,_,rfl⟩
 obtain⟨c4,c5,c6⟩:=h5;obtain⟨j,C5,dW,aO⟩:=mP (c5 _ (List.mem_cons_self ..));have hi:oz c0.w.heap.size c i:=cb.all.each _ (List.mem_append_right _ (List.mem_of_getElem? hl));obtain⟨i2,lK⟩:∃ i2:mO,i2={ i with st:=if jump.isNone then .ready else .done,pe:=jump }:=⟨_,rfl⟩;rw[<- lK]at H;have Dp:i2.l=i.l:=by rw[lK]
 have es:i2.jv=i.jv:=by rw[lK]
 have et:i2.tm=i.tm:=by rw[lK]
 have ht:Touch c i.l (c.w.putObj i.l (.loop i2.fC)) := .putObj hi.ak;have ai:=h3.bE _ hi.ak;have AH:ev c0.w.heap.size (c.dI (c.w.putObj i.l (.loop i2.fC))) R.rows (R.fx.loops.set n (.loop i2)) :=
  cb.OF hl rfl (by simp[bV.cZ,Dp]) ht (show oz _ _ _ from ⟨by rw[Dp];exact hi.ak,by rw[Dp];exact hi.new,by rw[Dp];exact World.putObj_heap_same ai,by rw[es,et];exact⟨hi.jv.1,fun j x v hx hv=>ht.vr (hi.jv.2 j x v hx hv)⟩⟩)
 have H:=H.to;unfold AW at H;have uu:VS (c.dI (c.w.putObj i.l (.loop i2.fC))) (bM s1 o1.dst (.d (.bool jump.isNone))) ((⟨t1,marks fd.aN⟩:Act).put o1.dst (.bool jump.isNone)).tmps :=
  VS.bM (a:=⟨t1,marks fd.aN⟩) ⟨c4.1,fun j x v hx hv=>ht.vr (c4.2 j x v hx hv)⟩ o1.dst (.d _ _ (.bool _))
 obtain⟨c2,fr,r,v,q1,q2,q3,q4,q5,q6⟩:=H c0 (c.dI (c.w.putObj i.l (.loop i2.fC))) _ jl h0 (gP aO (ee c5)) rfl (ht.aO h3) (ht.rel hr hi.new) AH uu (qK (fun _ _=>ht.vr) c6) cs;refine⟨c2,fr,r,v,q1,q2,q3,q4,.head ?_ q5,q6⟩;have cW:(Instr.endRound i.l jump).run E.P c.w=.ok (.bool jump.isNone) (c.w.putObj i.l (.loop i2.fC)):=by
  have:=run_endRound (P:=E.P) jump hi.mem;rw[lK];exact this
 have hs:=hj (bf ⟨ae,some i.l,R.fx.aN⟩) ⟨t,marks R.fx.aN⟩ ((⟨fd,.bF jM (o1::l1)::k1,s1⟩:cu).bS t1) (fq jk jl++cs) c.w _ _ rfl rfl cW;have fJ:((⟨fd,.bF jM (o1::l1)::k1,s1⟩:cu).bS t1).finish (.bool jump.isNone)=(⟨⟨fd.f,fd.cG,fd.aN⟩,.bF jM l1::k1,bM s1 o1.dst (.d (.bool jump.isNone))⟩:cu).bS ((⟨t1,marks fd.aN⟩:Act).put o1.dst (.bool jump.isNone)).tmps:=by
  simp only[cu.bS,List.map_cons,dW];rw[Frame.finish_atR,C5];simp only[Option.bind_some];rw[put_defers];rfl
 rw[fJ]at hs;exact hs
theorem aa.AI(n:Nat){i:mO}{fd:iE}{jM:Array Oper}{o1:Oper}{l1:List Oper}{k1:List aI}{s1:List AV}{jk:List cu}(hl:R.fx.loops[n]?=some (.loop i))(lN:R.fx.cG=some i.l)(hc:R.fx.cls=⟨fd,.bF jM (o1::l1)::k1,s1⟩::jk)
  (H:aa E fd.f ⟨R.n,R.Q,R.rows,⟨R.fx.f0,fd.cG,fd.aN,jk,R.fx.loops.set n (.loop { i with st := .ready,pe:=none }),R.fx.inl⟩⟩ [] (.bF jM l1::k1) (bM s1 o1.dst (.d (.bool true))) h):aa E ae R lits [] s h :=
 .OL n none (fun b a cf cs w w' v h1 h2 h3=>stepR_round_end h1 h2 h3) hl lN hc H
theorem aa.XS(n:Nat){i:mO}{fd:iE}{jM:Array Oper}{o1:Oper}{l1:List Oper}{k1:List aI}{s1:List AV}{jk:List cu}(hl:R.fx.loops[n]?=some (.loop i))(lN:R.fx.cG=some i.l)(hc:R.fx.cls=⟨fd,.bF jM (o1::l1)::k1,s1⟩::jk)
  (H:aa E fd.f ⟨R.n,R.Q,R.rows,⟨R.fx.f0,fd.cG,fd.aN,jk,R.fx.loops.set n (.loop { i with st := .done,pe:=some .ret }),R.fx.inl⟩⟩ [] (.bF jM l1::k1) (bM s1 o1.dst (.d (.bool false))) h):aa E ae R lits (.code .ret::k) s h :=
 .OL n (some .ret) (fun b a cf cs w w' v h1 h2 h3=>stepR_round_ret h1 h2 h3) hl lN hc H
theorem aa.oc {fx : Operand} {args : Array Operand} {ts : Array TypeId} {f : FuncId} {fn : Func} {b : Code} {a1 a2 av : List AV} (hg : o.guard = none) (bX : o.op = .call { callee := .value fx, args := args, argTypes := ts }) (XT : bh E.G s fx (.fn (.func f) a1 a2)) (ha : iw E.G s args.toList av) (hf : E.P.funcs[f]? = some fn) (hb : fn.body = some b) (hn : (fn.name == "runtime.NumGoroutine") = false)
  (H:aa E f ⟨R.n,R.Q,R.rows,⟨R.fx.f0,none,[],⟨⟨ae,R.fx.cG,R.fx.aN⟩,.bF ops (o::l)::k,s⟩::R.fx.cls,R.fx.loops,R.fx.inl⟩⟩ [] [.code b] (nC (a1++av++a2) fn.ntmps) h):aa E ae R lits (.bF ops (o::l)::k) s h:=by
 refine .of ?_;unfold AW;intro c0 c t tt h0 h1 h2 h3 hr cb h4 h5 cs;subst h2;obtain⟨j,hj,dW,aO⟩:=mP (h1 _ (List.mem_cons_self ..));obtain⟨v1,v2,e1,e2,e3⟩:=l8 (XT c ⟨t,marks R.fx.aN⟩ h3 h4);have e4:=ha c ⟨t,marks R.fx.aN⟩ h3 h4;have e5:=(e2.append e4).append e3;have H:=H.to;unfold AW at H;obtain⟨c2,fr,r,v,q1,q2,q3,q4,q5,q6⟩:=H c0 c _ (t::tt) h0 (fun x hx=>by simp at hx;subst hx;trivial) rfl h3 hr cb (EW fn.ntmps e5) ⟨h4,h1,h5⟩ cs;refine⟨c2,fr,r,v,q1,q2,q3,q4,.head ?_ q5,q6⟩;have cW:=yT (P:=E.P) (w:=c.w) (a:=⟨t,marks R.fx.aN⟩) bX e1 ⟨fn,hf,by rw[hb];rfl,hn⟩;have jZ:(v1.toArray++args.map (⟨t,marks R.fx.aN⟩:Act).eval++v2.toArray)=(v1++args.toList.map (⟨t,marks R.fx.aN⟩:Act).eval++v2).toArray:=by
  apply Array.ext';simp
 rw[jZ]at cW;have hs:=EX (P:=E.P) (b:=bf ⟨ae,R.fx.cG,R.fx.aN⟩) (a:=⟨t,marks R.fx.aN⟩) (k:=k.map aI.bS) (cs:=fq R.fx.cls tt++cs) (rest:=(List.range ops.size).drop (ops.size-l.length)) hj (eK hg c t h4) cW;rw[OH hf hb _ (nC (a1++av++a2) fn.ntmps)]at hs;simp only[cu.bS,List.map_cons,fq,dW,List.cons_append]at hs ⊢;exact hs
def xW:List aI->Bool
 |[]=>true
 | .code .ret::_=>true
 |_=>false
theorem XU{P:Program}{fd:iE}(hr:fd.cG=none){td:List aI}(h:xW td=true)(a:Act)(cs:List Frame)(w:World):step P (lone ((bf fd).atR a (td.map aI.bS)) cs w)=.next (lone { (bf fd).atR a (td.map aI.bS)with mode := .returning } cs w):=by
 unfold xW at h;split at h
 ·exact stepR_end hr
 ·exact stepR_ret hr
 ·cases h
theorem H7{P:Program}{G:List (Nat × DV)}{c0 c:Cx}{ae:FuncId}{fn:Func}{aN:List Nat}{rows L:List bV}{td:List aI}{s:List AV}{t:Array Value}{r:AV}(hf:P.funcs[ae]?=some fn)(oA:xW td=true)(ho:aE G c)(hr:eZ c0 c)(cb:ev c0.w.heap.size c rows (aN.map .mark++L))(hs:VS c s t)
  (H6:∀ (c':Cx) (t:Array Value),c'.heap=c.heap->aE G c'->VS c' s t->∃ v,VR c' r v/\(results fn t).run P c'.w=.ok v c'.w) (cs:List Frame) :
  ∃ (c':Cx) (fr:Frame) (v:Value),c'.heap=c.heap/\aE G c'/\eZ c0 c'/\ev c0.w.heap.size c' rows L/\(∀ x u,VR c x u->VR c' x u)/\VR c' r v/\Steps P (lone ((⟨⟨ae,none,aN⟩,td,s⟩:cu).bS t) cs c.w) (lone fr cs c'.w)/\fr.fn=ae/\fr.leaving P c'.w (.returned v):=by
 obtain⟨c',q1,q2,q3,q4,q5,q6⟩:=OI (P:=P) (cs:=cs) aN c { (bf ⟨ae,none,aN⟩).atR ⟨t,marks aN⟩ (td.map aI.bS)with mode := .returning } ho hr cb rfl rfl;obtain⟨v,p1,p2⟩:=H6 c' t q1 q2 ⟨hs.1,fun j x v hx hv=>q5 x v (hs.2 j x v hx hv)⟩;exact⟨c',_,v,q1,q2,q3,q4,q5,p1,.head (XU rfl oA _ _ _) q6,rfl,rfl,rfl,rfl,fn,hf,p2⟩
theorem aa.H8(hE:E.OK){fn:Func}{L:List bV}{td:List aI}(hf:E.P.funcs[ae]?=some fn)(oA:xW td=true)(lN:R.fx.cG=none)(hc:R.fx.cls=[])(h0:R.fx.f0=ae)(hL:R.fx.loops=R.fx.aN.map .mark++L)(H:nE E.T s h fn.results.toList False R.Q):aa E ae R lits td s h:=by
 have e:(⟨ae,R.fx.cG,R.fx.aN⟩:iE)=⟨ae,none,R.fx.aN⟩:=by rw[lN]
 refine .of ?_;rw[e,hc,h0];unfold AW;intro c0 c t tt h0 h1 h2 h3 hr cb h4 h5 cs;obtain⟨r,k1,k2⟩:=H5 hE H;subst h2;rw[hL]at cb;obtain⟨c',fr,v,q1,q2,q3,q4,q5,q6,q7,q8,q9⟩:=H7 hf oA h3 hr cb h4 k2 (fq [] tt++cs);have mR:fq [] tt=[]:=by cases tt<;>rfl
 rw[mR]at q7 ⊢;exact⟨c',fr,r,v,by rw[q1];exact k1,q6,q2,q3,q7,q8,q9⟩
theorem aa.od(hE:E.OK){fn:Func}{L:List bV}{td:List aI}{fd:iE}{jM:Array Oper}{o1:Oper}{l1:List Oper}{k1:List aI}{s1:List AV}{jk:List cu}(hf:E.P.funcs[ae]?=some fn)(oA:xW td=true)(lN:R.fx.cG=none)(hc:R.fx.cls=⟨fd,.bF jM (o1::l1)::k1,s1⟩::jk)(hL:R.fx.loops=R.fx.aN.map .mark++L)
  (H:nE E.T s h fn.results.toList False fun r h'=>bL s1 o1.dst r fun s'=>aa E fd.f ⟨R.n,R.Q,R.rows,⟨R.fx.f0,fd.cG,fd.aN,jk,L,R.fx.inl⟩⟩ [] (.bF jM l1::k1) s' h'):aa E ae R lits td s h:=by
 have e:(⟨ae,R.fx.cG,R.fx.aN⟩:iE)=⟨ae,none,R.fx.aN⟩:=by rw[lN]
 refine .of ?_;rw[e,hc];unfold AW;intro c0 c t tt h0 h1 h2 h3 hr cb h4 h5 cs;obtain⟨r,H,k2⟩:=H5 hE H;subst h2;rw[hL]at cb;obtain⟨t1,jl,rfl⟩:∃ t1 jl,tt=t1::jl:=by
  cases tt with
  |nil=>exact h5.elim
  |cons t1 jl=>exact⟨_,_,rfl⟩
 obtain⟨c4,c5,c6⟩:=h5;obtain⟨j,C5,dW,aO⟩:=mP (c5 _ (List.mem_cons_self ..));obtain⟨c',fr,v,q1,q2,q3,q4,q5,q6,q7,q8,q9⟩:=H7 hf oA h3 hr cb h4 k2 (fq (⟨fd,.bF jM (o1::l1)::k1,s1⟩::jk) (t1::jl)++cs);rw[df]at H;have H:=H.to;unfold AW at H;have uu:VS c' (bM s1 o1.dst r) ((⟨t1,marks fd.aN⟩:Act).put o1.dst v).tmps:=VS.bM (a:=⟨t1,marks fd.aN⟩) ⟨c4.1,fun j x v hx hv=>q5 x v (c4.2 j x v hx hv)⟩ o1.dst q6;obtain⟨c2,uv,r2,v2,p1,p2,p3,p4,p5,p6⟩:=H c0 c' _ jl h0 (gP aO (ee c5)) q1 q2 q3 q4 uu (qK q5 c6) cs;refine⟨c2,uv,r2,v2,p1,p2,p3,p4,q7.trans (.head ?_ p5),p6⟩;have hs:=step_leave_returned (c:=(⟨fd,.bF jM (o1::l1)::k1,s1⟩:cu).bS t1) (cs:=fq jk jl++cs) q9;have fJ:((⟨fd,.bF jM (o1::l1)::k1,s1⟩:cu).bS t1).finish v=(⟨⟨fd.f,fd.cG,fd.aN⟩,.bF jM l1::k1,bM s1 o1.dst r⟩:cu).bS ((⟨t1,marks fd.aN⟩:Act).put o1.dst v).tmps:=by
  simp only[cu.bS,List.map_cons,dW];rw[Frame.finish_atR,C5];simp only[Option.bind_some];rw[put_defers];rfl
 rw[fJ]at hs;exact hs
def H9:Option Code->List aI->List aI
 |some c,k => .code c::k
 |none,k=>k
theorem aa.xX(hE:E.OK){fn:Func}{L:List bV}{td:List aI}{i:mO}{fd:iE}{k1:List aI}{s1:List AV}{jk:List cu}(hf:E.P.funcs[ae]?=some fn)(oA:xW td=true)(lN:R.fx.cG=none)(hc:R.fx.cls=⟨fd,.qJ i.l::k1,s1⟩::jk)(hL:R.fx.loops=R.fx.aN.map .mark ++ .loop i::L)(aT:i.st ≠ .busy)
  (H:nE E.T s h fn.results.toList False fun _ _=>aa E fd.f ⟨R.n,R.Q,R.rows,⟨R.fx.f0,fd.cG,fd.aN,jk,L,R.fx.inl⟩⟩ [] (H9 i.pe k1) s1 h):aa E ae R lits td s h:=by
 have e:(⟨ae,R.fx.cG,R.fx.aN⟩:iE)=⟨ae,none,R.fx.aN⟩:=by rw[lN]
 refine .of ?_;rw[e,hc];unfold AW;intro c0 c t tt h0 h1 h2 h3 hr cb h4 h5 cs;obtain⟨r,H,k2⟩:=H5 hE H;subst h2;rw[hL]at cb;obtain⟨t1,jl,rfl⟩:∃ t1 jl,tt=t1::jl:=by
  cases tt with
  |nil=>exact h5.elim
  |cons t1 jl=>exact⟨_,_,rfl⟩
 obtain⟨c4,c5,c6⟩:=h5;obtain⟨c',fr,v,q1,q2,q3,q4,q5,q6,q7,q8,q9⟩:=H7 hf oA h3 hr cb h4 k2 (fq (⟨fd,.qJ i.l::k1,s1⟩::jk) (t1::jl)++cs);obtain⟨g1,g2,g3⟩:=q4.pop;have g2:oz c0.w.heap.size c' i:=g2;obtain⟨o2,xj⟩:∃ o2:Obj,o2=.loop { i.fC with state := .exhausted }:=⟨_,rfl⟩;have ht:Touch c' i.l (c'.w.putObj i.l o2) := .putObj g2.ak;have H:=H.to;unfold AW at H;have XV:(∀ x∈H9 i.pe k1,x.ok):=by
  cases i.pe with
  |none=>exact ee c5
  |some c=>exact gP trivial (ee c5)
 obtain⟨c2,uv,r2,v2,p1,p2,p3,p4,p5,p6⟩:=H c0 (c'.dI (c'.w.putObj i.l o2)) t1 jl h0 XV q1 (ht.aO q2) (ht.rel q3 g2.new) ⟨ht.rows g1.all (g3 i.l (by simp[bV.cZ])),g1.flat⟩ ⟨c4.1,fun j x v hx hv=>ht.vr (q5 x v (c4.2 j x v hx hv))⟩ (qK (fun x v hv=>ht.vr (q5 x v hv)) c6) cs;refine⟨c2,uv,r2,v2,p1,p2,p3,p4,q7.trans (.head (step_leave_returned q9) (.head ?_ p5)),p6⟩;have fJ:((⟨fd,.qJ i.l::k1,s1⟩:cu).bS t1).finish v=(bf fd).atR ⟨t1,marks fd.aN⟩ (.endRangeFunc i.l::k1.map aI.bS):=by
  simp only[cu.bS,List.map_cons,aI.bS];exact finish_atR_inRangeFunc _ _
 have XW:(Instr.endLoop i.l).run E.P c'.w=.ok i.pe (c'.w.putObj i.l o2):=by
  have:=run_endLoop (P:=E.P) g2.mem aT;rw[xj];exact this
 have hs:=stepR_endRangeFunc (P:=E.P) (b:=bf fd) (a:=⟨t1,marks fd.aN⟩) (k:=k1.map aI.bS) (cs:=fq jk jl++cs) XW;rw[<- fJ]at hs;have Fw:(i.pe.map Item.code).toList++k1.map aI.bS=(H9 i.pe k1).map aI.bS:=by cases i.pe<;>rfl
 rw[Fw]at hs;exact hs
end
end Go.aA
end
section
namespace Go.aA
open Go Go.RowKit
section
variable {E:Env} {s:List AV} {h:List af}
end
section
variable {E:Env} {ae:FuncId} {R:bZ} {td:List aI} {s:List AV} {h:List af} {lits:List Nat} {ops:Array Oper} {o:Oper} {l:List Oper} {k:List aI}
theorem aa.entry{x:Operand}{it:Iter}{g1 g2:List bV}{pre:List Nat}{j:Nat}{kk y:DV}(hg:o.guard=none)(bX:o.op=.entry x)(AG:R.rows=g1 ++ .iter it::g2)(Ia:it.seen=pre++[j])(hj:it.es[j]?=some (kk,y))(hx:bh E.G s x (.d (.raw (.pointer (some ⟨it.r,0,none⟩)))))
  (H:aa E ae R lits (.bF ops l::k) (bM s o.dst (.d (.aK [kk,y]))) h):aa E ae R lits (.bF ops (o::l)::k) s h:=by
 refine .of ?_;unfold AW;intro c0 c t' ec h0 h1 h2 h3 hr cb h4 h5 cs;subst h2;obtain⟨i,hi,dW,aO⟩:=mP (h1 _ (List.mem_cons_self ..));have di:(⟨t',marks R.fx.aN⟩:Act).eval x=.pointer (some ⟨it.r,0,none⟩):=by
  have:=hx c ⟨t',marks R.fx.aN⟩ h3 h4;generalize (⟨t',marks R.fx.aN⟩:Act).eval x=u at this;cases this with
  |d _ _ hq=>cases hq;rfl
 have r2:l7 c0.w.heap.size c it:=cb.all.each (.iter it) (by rw[AG];simp);obtain⟨z0,z1,z3,z2⟩:=r2.iter;obtain rfl:=z3 (by rw[Ia];simp);have lr:j<it.en.size:=r2.lt j (by rw[Ia];simp);have nO:it.en[j]?=some it.en[j]:=by simp[lr]
 have bQ:=r2.val j kk y it.en[j] hj nO;have xH:((it.seen.map fun j=>((it.en[j]?).map (·.born)).getD 0).toArray).back?=some j:=by
  rw[Ia];simp[nO,r2.qM.idx j _ nO]
 have dq:it.en.find? (fun e=>e.born==j)=some it.en[j]:=by
  rw[Array.find?_eq_some_iff_getElem];refine⟨by simp[r2.qM.idx j _ nO],j,lr,rfl,fun q hq=>?_⟩;have:=r2.qM.idx q it.en[q] (by rw[Array.getElem?_eq_getElem]);simp[this];omega
 have fa:(getObj it.r).run E.P c.w=.ok (.mapIter (some it.bm) it.since ((it.seen.map fun j=>((it.en[j]?).map (·.born)).getD 0).toArray) it.ck) c.w:=by simp[getObj,Sem.run,z2]
 have cW:(execOp (⟨t',marks R.fx.aN⟩:Act).eval o).run E.P c.w=.ok (.value (.tuple #[it.en[j].key,it.en[j].val])) c.w:=by
  simp only[execOp,bX,di,Instr.entry,Sem.run_bind,Sem.run_pure,Result.andThen_ok,fa,xH,wO r2.map,bne_self_eq_false,Bool.false_eq_true,if_false,dq]
 have gK:VS c (bM s o.dst (.d (.aK [kk,y]))) ((⟨t',marks R.fx.aN⟩:Act).put o.dst (.tuple #[it.en[j].key,it.en[j].val])).tmps :=
  VS.bM (a:=⟨t',marks R.fx.aN⟩) h4 o.dst (.d _ _ (.aK _ _ rfl fun p z v hz hv=>by
   match p with
   |0=>simp at hz hv;subst hz;subst hv;exact bQ.1
   |1=>simp at hz hv;subst hz;subst hv;exact bQ.2
   |p+2=>simp at hz))
 have H:=H.to;unfold AW at H;obtain⟨c2,fr,rr,u,e1,e2,e3,e4,e5,e6⟩:=H c0 c _ ec h0 (gP aO (ee h1)) rfl h3 hr cb gK h5 cs;refine⟨c2,fr,rr,u,e1,e2,e3,e4,.head ?_ e5,e6⟩;simp only[cu.bS,List.map_cons,dW];rw[uo hi (eK hg c t' h4) (.inl cW),put_defers];rfl
theorem aa.OM{b:Code}{κ:Type}(fD:List Nat)(vars:κ->List (Nat × AV))(boxes:κ->List (Nat × af))(rows:κ->List bV)(Φ:κ->Prop)(μ:κ->Nat)(x0:κ)(h0:Φ x0)(hR:R.rows=rows x0)
  (sQ:rj fD (mU (boxes x0)) (vars x0) (boxes x0) s h fun s' h'=>xc h h' R.fx (uU R.n h s h' s'))
  (sR:∀ x,Φ x->(∀ y,Φ y->μ y<μ x->aa E ae ⟨R.n,R.Q,rows y,R.fx⟩ [] (.inLoop b::k) (lG (vars y) (anyS fD (lI (mU (boxes x0)) s))) (lH (boxes y) h))->aa E ae ⟨R.n,R.Q,rows x,R.fx⟩ [] (.code b :: .inLoop b::k) (lG (vars x) (anyS fD (lI (mU (boxes x0)) s))) (lH (boxes x) h)) :
  aa E ae R lits (.code (.loop b)::k) s h:=by
 have e:R=⟨R.n,R.Q,rows x0,R.fx⟩:=by cases R;simp only at hR;subst hR;rfl
 have main:∀ n x,μ x<n->Φ x->aa E ae ⟨R.n,R.Q,rows x,R.fx⟩ [] (.inLoop b::k) (lG (vars x) (anyS fD (lI (mU (boxes x0)) s))) (lH (boxes x) h):=by
  intro n
  induction n with
  |zero=>intro x hx;omega
  |succ n ih=>intro x hx hP;exact .of (.inLoop (sR x hP fun y hy hm=>ih y (by omega) hy).to)
 rw[xe]at sQ;rw[e];exact .of (.loop (.weaken sQ (sR x0 h0 fun y hy _=>main (μ y+1) y (by omega) hy).to))
end
end Go.aA
end
section
namespace Go.aA
open Go Go.RowKit
section
variable {E:Env} {ae:FuncId} {R:bZ} {s:List AV} {h:List af} {ops:Array Oper} {o:Oper} {l:List Oper} {k:List aI}
end
end Go.aA
end
section
namespace Go.aA
open Go Go.RowKit
section
variable {E:Env} {ae:FuncId} {R:bZ} {s:List AV} {h:List af} {lits:List Nat} {ops:Array Oper} {o:Oper} {l:List Oper} {k:List aI}
end
section
variable {E:Env} {ae:FuncId} {R:bZ} {s:List AV} {h:List af} {td:List aI}
end
mutual
def kW:DV->DV
 | .aW => .sl []
 | .sl l => .sl (xY l)
 | .agg c => .agg (xY c)
 | .aK c => .aK (xY c)
 |x=>x
def xY:List DV->List DV
 |[]=>[]
 |x::l=>kW x::xY l
end
theorem AJ:∀ (l:List DV),xY l=l.map kW
 |[]=>rfl
 |x::l=>by rw[xY,AJ l];rfl
theorem ON(x:DV):(kW x).cells=x.cells.map kW:=by
 cases x<;>simp[kW,DV.cells,AJ]
theorem XX{bad:Nat->Prop}{w:World}{x:DV}{v:Value}(h:VD bad w x v):VD bad w (kW x) v:=by
 induction h with
 |aW=>exact .slnil
 |agg c vs hlen bQ ih =>
  rw[kW,AJ];refine .agg _ _ (by simpa using hlen) fun j y v hy hv=>?_;rw[List.getElem?_map]at hy;cases hc:c[j]? with
  |none=>rw[hc]at hy;cases hy
  |some z=>rw[hc]at hy;cases hy;exact ih j z v hc hv
 |aK c vs hlen bQ ih =>
  rw[kW,AJ];refine .aK _ _ (by simpa using hlen) fun j y v hy hv=>?_;rw[List.getElem?_map]at hy;cases hc:c[j]? with
  |none=>rw[hc]at hy;cases hy
  |some z=>rw[hc]at hy;cases hy;exact ih j z v hc hv
 |undef=>exact .undef
 |bool b=>exact .bool b
 |int k n=>exact .int k n
 |str l=>exact .str l
 |slnil=>exact .slnil
 |lg a=>exact .lg a
 |sl l blk off cap sz f hb bT jo hlen dQ bQ cj ih =>
  rw[kW,AJ];have hl:(l.map kW).length=l.length:=by simp
  have key:∀ (i j:Nat) (e x:DV),(l.map kW)[i]?=some e->e.cells[j]?=some x->∃ e0 x0,l[i]?=some e0/\e0.cells[j]?=some x0/\x=kW x0:=fun i j e x he hx=>by
   rw[List.getElem?_map]at he;cases hc:l[i]? with
   |none=>rw[hc]at he;cases he
   |some e0 =>
    rw[hc]at he;cases he;rw[ON,List.getElem?_map]at hx;cases hd:e0.cells[j]? with
    |none=>rw[hd]at hx;cases hx
    |some x0=>rw[hd]at hx;cases hx;exact⟨e0,x0,rfl,hd,rfl⟩
  have:=VD.sl (bad:=bad) (w:=w) (l.map kW) blk off cap sz f (fun aM=>hb (fun h0=>aM (by rw[h0];rfl))) bT (by rw[hl];exact jo)
   (fun i e he=>by
    rw[List.getElem?_map]at he;cases hc:l[i]? with
    |none=>rw[hc]at he;cases he
    |some e0=>rw[hc]at he;cases he;rw[ON,List.length_map];exact hlen i e0 hc)
   (fun i j e x he hx=>by obtain⟨e0,x0,h1,h2,_⟩:=key i j e x he hx;exact dQ i j e0 x0 h1 h2)
   (fun i j e x he hx=>by obtain⟨e0,x0,h1,h2,h3⟩:=key i j e x he hx;rw[h3];exact ih i j e0 x0 h1 h2)
   (fun i j e x he hx=>by obtain⟨e0,x0,h1,h2,_⟩:=key i j e x he hx;exact cj i j e0 x0 h1 h2)
  rw[hl]at this;exact this
 |eJ=>exact .eJ
 |aF=>exact .aF
 |im=>exact .im
 |mE=>exact .mE
 |fn f=>exact .fn f
 |raw v h=>exact .raw v h
theorem az.kW{E:Env}{f:FuncId}{args:List DV}{y:DV}(H:az E f args (fun r=>aA.kW r=y)):az E f args (· = y):=by
 unfold az at H ⊢;exact⟨H.1,fun ak w vs h1 h2 h3=>(H.2 ak w vs h1 h2 h3).mono fun e w' ⟨v,r,k1,k2,k3,k4⟩=>⟨v,y,k1,rfl,k2 ▸ XX k3,k4⟩⟩
end Go.aA
end
end
section
namespace Go.aA
open Go Go.RowKit
section
variable {E:Env} {ae:FuncId} {R:bZ} {s:List AV} {h:List af} {lits:List Nat} {ops:Array Oper} {o:Oper} {l ba:List Oper} {k:List aI}
theorem dB.oI{fx:Operand}{args:Array Operand}{ts:Array TypeId}{f:FuncId}{a1 a2 av:List AV}{ah:List Nat}{r:AV}{h1:List af}(hw:iF ops o (bY (ca ops o) 0 s) true)(ho:o.op=.call { callee := .value fx,args:=args,argTypes:=ts })
  (hf:bh E.G (bY (ca ops o) 0 s) fx (.fn (.func f) a1 a2)) (ha:iw E.G (bY (ca ops o) 0 s) args.toList av) (hc:aB E f (ka ah h) ((a1++av++a2).map (lC ah h)) (fun a b=>a=r/\b=h1)) (hn:ah.Nodup) (ai:∀ j∈ah,j<h.length) (hr:fS ah h h1=h) :
  dB E ops o s h (kb ah h r):=fun c a k1 h2 h3 h4 j hj K Q hK=>dm.oI hw ho hf ha hc hn ai c a k1 h2 h3 h4 j hj K Q fun c' u q1 q2 q3 q4=>hK c' u q1 (q2.trans hr) q3 q4
theorem cg.oI{fx:Operand}{args:Array Operand}{ts:Array TypeId}{f:FuncId}{a1 a2 av:List AV}{ah:List Nat}{r:AV}{h1:List af}(hc:aB E f (ka ah h) ((a1++av++a2).map (lC ah h)) (fun a b=>a=r/\b=h1))(hg:o.guard=none)(ho:o.op=.call { callee := .value fx,args:=args,argTypes:=ts })
  (hf:bh E.G (bY (ca ops o) 0 s) fx (.fn (.func f) a1 a2)) (ha:iw E.G (bY (ca ops o) 0 s) args.toList av) (hn:ah.Nodup) (ai:∀ j∈ah,j<h.length) (hr:fS ah h h1=h)
  (H:cg E ae R ops k lits l ba (bM s o.dst (kb ah h r)) h):cg E ae R ops k lits (o::l) ba s h:=by
 have H:=H.to;unfold cg;refine⟨_,dB.oI (eK hg) ho hf ha hc hn ai hr,fun e=>?_,H⟩;obtain⟨dst,op,type,pos,after,guard⟩:=o;simp only at ho;subst ho;cases guard<;>cases e
theorem aE.AK{G:List (Nat × DV)}{c:Cx}{ak:Nat->Prop}(ho:aE G c)(hb:∀ b,ak b->c.ak b):aE G ⟨c.own,c.heap,ak,c.w⟩/\(∀ x v,VR c x v->VR ⟨c.own,c.heap,ak,c.w⟩ x v):=by
 have iq:∀ b,b<c.w.heap.size->¬ c.bad b->¬ (⟨c.own,c.heap,ak,c.w⟩:Cx).bad b/\(⟨c.own,c.heap,ak,c.w⟩:Cx).w.heap[b]?=c.w.heap[b]? := fun b _ hn=>⟨fun h=>hn (h.elim (fun h => .inl (hb b h)) .inr),rfl⟩;have l6:∀ x v,VR c x v->VR ⟨c.own,c.heap,ak,c.w⟩ x v:=fun x v=>sm iq (fun _ _ hi=>mN hi rfl rfl);exact⟨⟨fun b h=>ho.bE b (hb b h),ho.bI,ho.inj,fun i b n hi h=>ho.sep i b n hi (hb b h),fun i bx hx=>(ho.box i bx hx).gen l6 (fun _ _ h=>h.mono iq) rfl (fun _ _ _=>rfl),fun g e hg=>l6 _ _ (ho.fB g e hg)⟩,l6⟩
theorem forget{G:List (Nat × DV)}{c c':Cx}{h h2:List af}{v:AV}{u:Value}(hc:c.heap=h)(k1:aE G c')(k2:c'.heap=h2)(k3:Step c c')(k4:VR c' v u)(hr:cS h.length [] 0 h2=h)(ez:rR h.length [] h=true)(hv:eV h.length [] v=true) :
  ∃ AL:Cx,AL.w=c'.w/\aE G AL/\AL.heap=h/\Step c AL/\VR AL v u:=by
 have a1:=k1.eG (n:=h.length) (B:=[]) (by rw[k2,hr];exact ez);have a2:=xQ (n:=h.length) (B:=[]) hv k4;obtain⟨b1,b2⟩:=a1.AK (ak:=c'.ak) (fun b hb => .inl hb);refine⟨⟨(c'.eG h.length []).own,(c'.eG h.length []).heap,c'.ak,c'.w⟩,rfl,b1,by show cS _ _ 0 c'.heap=h;rw[k2,hr],?_,b2 _ _ a2⟩;have hid:∀ i,i<h.length->dr h.length [] i=false:=fun i hi=>by
  have:Nat.ble h.length i=false:=by
   cases q:Nat.ble h.length i
   ·rfl
   ·have:=Nat.le_of_ble_eq_true q;omega
  simp only[dr,this];rfl
 exact{
  ak:=k3.ak
  bE:=k3.bE
  os:=k3.os
  tape:=k3.tape
  output:=k3.output
  size:=k3.size
  keep:=k3.keep
  dw:=fun i b n hi hb=>k3.dw i b n (o9 hi).2 hb
  boxes:=fun i bx hi=>by
   have ai:i<h.length:=by rw[<- hc];exact a7 hi
   have e1:(cS h.length [] 0 c'.heap)[i]?=c'.heap[i]? := tq 0 i c'.heap (by rw[Nat.zero_add];exact hid i ai)
   exact Gi rfl e1 (vI (hid i ai)) (k3.boxes i bx hi) }
theorem cg.kq{fx:Operand}{args:Array Operand}{ts:Array TypeId}{f:FuncId}{a1 a2 av:List AV}{ah:List Nat}{r:AV}{h1:List af}(hc:aB E f (ka ah h) ((a1++av++a2).map (lC ah h)) (fun a b=>a=r/\b=h1))(hg:o.guard=none)(ho:o.op=.call { callee := .value fx,args:=args,argTypes:=ts })
  (hf:bh E.G (bY (ca ops o) 0 s) fx (.fn (.func f) a1 a2)) (ha:iw E.G (bY (ca ops o) 0 s) args.toList av) (hn:ah.Nodup) (ai:∀ j∈ah,j<h.length) (hr:cS h.length [] 0 (fS ah h h1)=h) (ez:rR h.length [] h=true) (hv:eV h.length [] (kb ah h r)=true)
  (H:cg E ae R ops k lits l ba (bM s o.dst (kb ah h r)) h):cg E ae R ops k lits (o::l) ba s h:=by
 have H:=H.to;unfold cg;refine⟨_,fun c a k1 h2 h3 h4 j hj K Q hK=>dm.oI (eK hg) ho hf ha hc hn ai c a k1 h2 h3 h4 j hj K Q fun c' u q1 q2 q3 q4=>?_,fun e=>?_,H⟩
 ·obtain⟨c2,e,p1,p2,p3,p4⟩:=forget h2 q1 q2 q3 q4 hr ez hv;rw[<- e];exact hK c2 u p1 p2 p3 p4
 ·obtain⟨dst,op,type,pos,after,guard⟩:=o;simp only at ho;subst ho;cases guard<;>cases e
end
theorem Step.AK{c c':Cx}{ak:Nat->Prop}(h:Step c c')(hb:∀ b,ak b->b<c.w.heap.size):Step (c.oy ak) (c'.oy ak) :=
 { ak:=rfl,bE:=hb,os:=h.os,tape:=h.tape,output:=h.output,size:=h.size,keep:=h.keep,dw:=h.dw,boxes:=h.boxes }
structure vL(c0:Cx)(dx dy:Nat)(ux uy:List Value)(tx ty:TypeId)(lx ly:Bool)(a:Act)(c:Cx):Prop where
 ex:∃ X Y:Option Nat,X.isSome=lx/\Y.isSome=ly/\(∀ b,X=some b->Y≠some b)/\(∀ b,c.ak b↔c0.ak b\/X=some b\/Y=some b) /\
  (∀ b,X=some b->c0.w.heap.size<=b/\b<c.w.heap.size/\c.w.heap[b]?=some (.cells ux.toArray tx (0,0))/\(dx<a.tmps.size->a.tmps[dx]?=some (.pointer (some ⟨b,0,none⟩)))) /\
  (∀ b,Y=some b->c0.w.heap.size<=b/\b<c.w.heap.size/\c.w.heap[b]?=some (.cells uy.toArray ty (0,0))/\(dy<a.tmps.size->a.tmps[dy]?=some (.pointer (some ⟨b,0,none⟩)))) /\
  Step c0 (c.oy c0.ak)
section
variable {G:List (Nat × DV)} {c0 c c':Cx} {dx dy:Nat} {ux uy:List Value} {tx ty:TypeId} {lx ly:Bool} {a a':Act}
theorem vL.start(hb:∀ b,c.ak b->b<c.w.heap.size):vL c dx dy ux uy tx ty false false a c :=
 { ex:=⟨none,none,rfl,rfl,fun b h=>(nomatch h),fun b=>⟨.inl,fun h=>h.elim id (fun h=>h.elim (fun h=>nomatch h) (fun h=>nomatch h))⟩,fun b h=>(nomatch h),fun b h=>(nomatch h),Step.refl c hb⟩ }
theorem vL.step(h:vL c0 dx dy ux uy tx ty lx ly a c)(ho:aE G c)(hs:Step c c')(bT:a'.tmps.size=a.tmps.size)(hx:lx=true->a'.tmps[dx]?=a.tmps[dx]?)(hy:ly=true->a'.tmps[dy]?=a.tmps[dy]?):vL c0 dx dy ux uy tx ty lx ly a' c':=by
 obtain⟨X,Y,h1,h2,h3,h4,h5,h6,h7⟩:=h.ex;have oB:∀ b,c.ak b->c'.w.heap[b]?=c.w.heap[b]? := fun b hb=>hs.keep b (ho.bE b hb) (fun i n hi=>ho.sep i b n hi hb);refine⟨X,Y,h1,h2,h3,fun b=>by rw[hs.ak];exact h4 b,fun b e=>?_,fun b e=>?_,h7.trans (hs.AK (fun b hb=>ho.bE b ((h4 b).2 (.inl hb))))⟩
 ·obtain⟨k1,k2,k3,k4⟩:=h5 b e;refine⟨k1,Nat.lt_of_lt_of_le k2 hs.size,(oB b ((h4 b).2 (.inr (.inl e)))).trans k3,fun hl=>?_⟩;rw[hx (by rw[<- h1,e];rfl)];exact k4 (by omega)
 ·obtain⟨k1,k2,k3,k4⟩:=h6 b e;refine⟨k1,Nat.lt_of_lt_of_le k2 hs.size,(oB b ((h4 b).2 (.inr (.inr e)))).trans k3,fun hl=>?_⟩;rw[hy (by rw[<- h2,e];rfl)];exact k4 (by omega)
theorem vL.done(h:vL c0 dx dy ux uy tx ty true true a c)(ho:aE G c)(h0:aE G c0){zx zy:List AV}(OO:∀ c:Cx,VL c zx ux)(OP:∀ c:Cx,VL c zy uy) :
  ∃ cF:Cx,cF.w=c.w/\aE G cF/\cF.heap=c.heap++[.cells zx]++[.cells zy]/\Step c0 cF/\(∀ x v,VR c x v->VR cF x v) /\
   (∀ v,dx<a.tmps.size->a.tmps[dx]?=some v->VR cF (.ptr c.heap.length 0) v)/\(∀ v,dy<a.tmps.size->a.tmps[dy]?=some v->VR cF (.ptr (c.heap.length+1) 0) v):=by
 obtain⟨X,Y,h1,h2,h3,h4,h5,h6,h7⟩:=h.ex;obtain⟨bx,rfl⟩:∃ b,X=some b:=Option.isSome_iff_exists.1 h1;obtain⟨b_,rfl⟩:∃ b,Y=some b:=Option.isSome_iff_exists.1 h2;have aM:bx≠b_:=fun e=>h3 bx rfl (by rw[e]);obtain⟨x1,x2,x3,x4⟩:=h5 bx rfl;obtain⟨y1,y2,y3,y4⟩:=h6 b_ rfl;have Db:¬ c0.ak bx:=fun hb=>by have:=h0.bE _ hb;omega
 have Hq:¬ c0.ak b_:=fun hb=>by have:=h0.bE _ hb;omega
 have OQ:∀ b,c.ak b↔(c0.ak b\/b=b_)\/b=bx:=fun b=>by
  rw[h4 b];constructor
  ·rintro(h|h|h)
   ·exact .inl (.inl h)
   ·cases h;exact .inr rfl
   ·cases h;exact .inl (.inr rfl)
  ·rintro((h|rfl)|rfl)
   ·exact .inl h
   ·exact .inr (.inr rfl)
   ·exact .inr (.inl rfl)
 let c1:=c.bare (.cells zx) bx (fun b=>c0.ak b\/b=b_)
 have km:c1.own c.heap.length=some (bx,0):=by simp[c1,Cx.bare]
 have XY:c1.heap[c.heap.length]?=some (.cells zx):=by simp[c1,Cx.bare]
 have sH:aE G c1:=ho.bare OQ (fun hb=>hb.elim Db aM) ⟨bx,0,ux.toArray,tx,km,x3,by simpa using(OO c1).1.symm,fun j x v hx hu=>(OO _).2 j x v hx (by simpa using hu)⟩;have XZ:∀ x v,VR c x v->VR c1 x v:=fun _ _=>zM ho OQ;have X0:c1.heap.length=c.heap.length+1:=by simp[c1,Cx.bare]
 have OR:∀ b,c1.ak b↔c0.ak b\/b=b_:=fun b=>Iff.rfl
 let c2:=c1.bare (.cells zy) b_ c0.ak
 have OS:c2.own c1.heap.length=some (b_,0):=by simp[c2,Cx.bare]
 have X1:c2.heap[c1.heap.length]?=some (.cells zy):=by simp[c2,Cx.bare]
 have xj:aE G c2:=sH.bare OR Hq ⟨b_,0,uy.toArray,ty,OS,y3,by simpa using(OP c2).1.symm,fun j x v hx hu=>(OP _).2 j x v hx (by simpa using hu)⟩;have OU:∀ x v,VR c1 x v->VR c2 x v:=fun _ _=>zM sH OR;refine⟨c2,rfl,xj,rfl,?_,fun x v hv=>OU _ _ (XZ _ _ hv),fun v hl hv=>?_,fun v hl hv=>?_⟩
 ·exact{
   ak:=rfl
   bE:=h0.bE
   os:=h7.os
   tape:=h7.tape
   output:=h7.output
   size:=h7.size
   keep:=h7.keep
   dw:=fun i b n hi hb=>by
    simp only[c2,c1,Cx.bare]at hi;split at hi
    ·cases hi;omega
    ·split at hi
     ·cases hi;omega
     ·exact h7.dw i b n hi hb
   boxes:=fun i OV hi=>by
    have h8:=h7.boxes i OV hi;have ai:i<c.heap.length:=by
     cases OV with
     |cells cs=>rcases h8 with⟨_,h8,_⟩|h8<;>exact a7 h8
     |arr g sz l=>rcases h8 with⟨_,_,h8,_⟩|h8<;>exact a7 h8
     |map es=>rcases h8 with⟨_,h8,_⟩|h8<;>exact a7 h8
     |gone=>exact a7 h8
    refine Gi (c1:=c0) rfl ?_ ?_ h8
    ·show(c.heap++[.cells zx]++[.cells zy])[i]?=c.heap[i]?;rw[List.append_assoc,List.getElem?_append_left ai]
    ·show(if i=c1.heap.length then _ else if i=c.heap.length then _ else c.own i)=c.own i
     rw[if_neg (by omega),if_neg (by omega)] }
 ·rw[x4 hl]at hv;cases hv;exact OU _ _ (.ptr _ _ zx _ 0 XY km)
 ·rw[y4 hl]at hv;cases hv;rw[<- X0];exact .ptr _ _ zy _ 0 X1 OS
end
section
variable {E:Env} {ops:Array Oper}
variable {ae:FuncId} {R:bZ} {s:List AV} {h:List af} {k:List aI} {lits:List Nat}
end
section
variable {E:Env} {ops:Array Oper} {n:Nat} {B:List Nat} {X:List af}
variable {ae:FuncId} {R:bZ} {s:List AV} {h:List af} {k:List aI} {lits:List Nat}
end
section
variable {E:Env} {ops:Array Oper}
end
section
variable {E:Env} {ae:FuncId} {R:bZ} {ops:Array Oper} {k:List aI} {lits:List Nat} {s:List AV} {h:List af}
end
end Go.aA
end
section
namespace Go.aA
open Go Go.RowKit
section
variable {E:Env} {ae:FuncId} {R:bZ} {s:List AV} {h:List af} {ops:Array Oper} {o:Oper} {l:List Oper} {k:List aI}
end
end Go.aA
namespace Go.aA
open Go Go.RowKit
theorem bg{G:List (Nat × DV)}{s:List AV}{i:Nat}{v:AV}(h:s[i]?=some v):bh G s (.tmp i) v:=fun c a _ hs=>by
 have hl:i<a.tmps.size:=by rw[<- hs.1];exact a7 h
 have:a.eval (.tmp i)=a.tmps[i]:=by simp[Act.eval,hl]
 rw[this];exact hs.2 i v _ h (by simp[hl])
end Go.aA
end
section
namespace Go.aA
open Go Go.RowKit
def Pt(H:List af)(r:AV):Bool:=rR H.length [] H&&eV H.length [] r
theorem aB.rX{E:Env}{f:FuncId}{H H1:List af}{args:List AV}{r0:AV}(hc:aB E f H args (fun a b=>a=r0/\b=H1))(hr:cS H.length [] 0 H1=H)(hk:Pt H r0=true):aB E f H args (fun a b=>a=r0/\b=H):=by
 simp only[Pt,Bool.and_eq_true]at hk;obtain⟨ez,hv⟩:=hk;unfold aB at hc ⊢;refine⟨hc.1,hc.2.1,fun c vs h1 h2 h3=>(hc.2.2 c vs h1 h2 h3).mono fun e w' ⟨c',r,v,k1,k2,⟨k3,AR⟩,k4,k5,k6⟩=>?_⟩;subst k3;have a1:=k5.eG (n:=H.length) (B:=[]) (by rw[AR,hr];exact ez);have a2:=xQ (n:=H.length) (B:=[]) hv k4;obtain⟨b1,b2⟩:=a1.AK (ak:=c'.ak) (fun b hb => .inl hb);refine⟨⟨(c'.eG H.length []).own,(c'.eG H.length []).heap,c'.ak,c'.w⟩,r,v,k1,k2,⟨rfl,by show cS _ _ 0 c'.heap=H;rw[AR,hr]⟩,b2 _ _ a2,b1,?_⟩;have hid:∀ i,i<H.length->dr H.length [] i=false:=fun i hi=>by
  have:Nat.ble H.length i=false:=by
   cases q:Nat.ble H.length i
   ·rfl
   ·have:=Nat.le_of_ble_eq_true q;omega
  simp only[dr,this];rfl
 exact{
  ak:=k6.ak
  os:=k6.os
  tape:=k6.tape
  output:=k6.output
  size:=k6.size
  keep:=k6.keep
  dw:=fun i b n hi hb=>k6.dw i b n (o9 hi).2 hb
  boxes:=fun i bx hi=>by
   have ai:i<H.length:=by rw[<- h1];exact a7 hi
   have e1:(cS H.length [] 0 c'.heap)[i]?=c'.heap[i]? := tq 0 i c'.heap (by rw[Nat.zero_add];exact hid i ai)
   exact xT (c:=c') (fun x hx=>e1.trans hx) (fun x _=>vI (hid i ai)) (k6.boxes i bx hi) }
theorem fz{G:List (Nat × DV)}{s:List AV}{f:FuncId}:bh G s (.func f) (.fn (.func f) [] []):=fun c a _ _=>by
 have:a.eval (.func f)=.func (.func f) #[] #[]:=rfl;rw[this];exact .fn _ [] [] #[] #[] rfl rfl (fun j x v hx=>by simp at hx) (fun j x v hx=>by simp at hx)
theorem qo{G:List (Nat × DV)}{s:List AV}{k:IntKind}{n:Int}:bh G s (.const (.int k n)) (.d (.int k n)):=fun c a _ _ => .d _ _ (.int _ _)
theorem Yw{G:List (Nat × DV)}{s:List AV}:iw G s [] []:=fun c a _ _ => .nil
theorem Iq{G:List (Nat × DV)}{s:List AV}{x:Operand}{v:AV}{xs:List Operand}{vs:List AV}(h:bh G s x v)(k:iw G s xs vs):iw G s (x::xs) (v::vs):=fun c a h3 h4=>VL.cons (h c a h3 h4) (k c a h3 h4)
theorem kv{G:List (Nat × DV)}{s:List AV}{x:Operand}{v:AV}(h:bh G s x v):iw G s [x] [v]:=Iq h Yw
theorem mw{G:List (Nat × DV)}{s:List AV}{x y:Operand}{v w:AV}(h:bh G s x v)(k:bh G s y w):iw G s [x,y] [v,w]:=Iq h (kv k)
theorem qp{G:List (Nat × DV)}{s:List AV}{x y z:Operand}{v w u:AV}(h:bh G s x v)(k:bh G s y w)(l:bh G s z u):iw G s [x,y,z] [v,w,u]:=Iq h (mw k l)
end Go.aA
end
section
namespace Go.Proofs
open Go.Shelf
def Tryz.YF:Go.Shelf.Ren:=⟨fun|137=>142|217=>209|266=>241|n=>n,fun|9=>9|5=>5|3=>3|n=>n,fun|n=>n⟩
theorem Tryz.YG:Go.Proofs.Lays.n137 Tryz.prog Tryz.YF:={
 mixed:=by kernel_rfl
 f137:=Tryz.func142.trans (congrArg some (by kernel_rfl))
 f217:=Tryz.func209.trans (congrArg some (by kernel_rfl))
 f266:=Tryz.func241.trans (congrArg some (by kernel_rfl))
 t3:=Tryz.underlying3
 a3:=Tryz.isAgg3
 z3:=Tryz.sizeOf3
 v3:=Tryz.zeroValue3
 t5:=Tryz.underlying5
 a5:=Tryz.isAgg5
 z5:=Tryz.sizeOf5
 v5:=Tryz.zeroValue5
 t9:=Tryz.underlying9
 a9:=Tryz.isAgg9
 z9:=Tryz.sizeOf9
 v9:=Tryz.zeroValue9 }
def Tryz.Px:Go.Shelf.Ren:=⟨fun|156=>213|165=>242|166=>243|169=>244|240=>252|241=>253|276=>255|277=>256|n=>n,fun|31=>32|9=>9|3=>3|4=>4|0=>0|20=>20|72=>274|76=>278|70=>271|37=>272|75=>277|127=>287|164=>289|5=>5|80=>168|n=>n,fun|n=>n⟩
theorem Tryz.Dw:Go.Proofs.Lays.n156 Tryz.prog Tryz.Px:={
 mixed:=by kernel_rfl
 f156:=Tryz.func213.trans (congrArg some (by kernel_rfl))
 f165:=Tryz.func242.trans (congrArg some (by kernel_rfl))
 f166:=Tryz.func243.trans (congrArg some (by kernel_rfl))
 f169:=Tryz.func244.trans (congrArg some (by kernel_rfl))
 f240:=Tryz.func252.trans (congrArg some (by kernel_rfl))
 f241:=Tryz.func253.trans (congrArg some (by kernel_rfl))
 f276:=Tryz.func255.trans (congrArg some (by kernel_rfl))
 f277:=Tryz.func256.trans (congrArg some (by kernel_rfl))
 t0:=Tryz.underlying0
 a0:=Tryz.isAgg0
 z0:=Tryz.sizeOf0
 v0:=Tryz.zeroValue0
 t3:=Tryz.underlying3
 a3:=Tryz.isAgg3
 z3:=Tryz.sizeOf3
 v3:=Tryz.zeroValue3
 t4:=Tryz.underlying4
 a4:=Tryz.isAgg4
 z4:=Tryz.sizeOf4
 v4:=Tryz.zeroValue4
 t9:=Tryz.underlying9
 a9:=Tryz.isAgg9
 z9:=Tryz.sizeOf9
 v9:=Tryz.zeroValue9
 t20:=Tryz.underlying20
 a20:=Tryz.isAgg20
 z20:=Tryz.sizeOf20
 v20:=Tryz.zeroValue20
 t31:=Tryz.underlying32
 a31:=Tryz.isAgg32
 z31:=Tryz.sizeOf32
 v31:=Tryz.zeroValue32
 t37:=Tryz.underlying272
 a37:=Tryz.isAgg272
 z37:=Tryz.sizeOf272
 v37:=Tryz.zeroValue272
 t70:=Tryz.underlying271
 a70:=Tryz.isAgg271
 z70:=Tryz.sizeOf271
 v70:=Tryz.zeroValue271
 t72:=Tryz.underlying274
 a72:=Tryz.isAgg274
 z72:=Tryz.sizeOf274
 v72:=Tryz.zeroValue274
 t75:=Tryz.underlying277
 a75:=Tryz.isAgg277
 z75:=Tryz.sizeOf277
 v75:=Tryz.zeroValue277
 t76:=Tryz.underlying278
 a76:=Tryz.isAgg278
 z76:=Tryz.sizeOf278
 v76:=Tryz.zeroValue278
 t127:=Tryz.underlying287
 a127:=Tryz.isAgg287
 z127:=Tryz.sizeOf287
 v127:=Tryz.zeroValue287
 t164:=Tryz.underlying289
 a164:=Tryz.isAgg289
 z164:=Tryz.sizeOf289
 v164:=Tryz.zeroValue289 }
theorem Tryz.Dx:Builder.Extra Tryz.prog Tryz.Px:={
 sizeBuilder:=by kernel_rfl
 liesBuilder:=by kernel_rfl
 t5:=Tryz.underlying5
 a5:=Tryz.isAgg5
 z5:=Tryz.sizeOf5
 v5:=Tryz.zeroValue5
 infoByte:=by kernel_rfl
 cellsByte:=by kernel_rfl
 sizeByte:=by kernel_rfl
 neB5:=by decide }
end Go.Proofs
end
section
namespace Go.aA
open Go Go.RowKit
theorem aB.jP{E:Env}{f:FuncId}{H H2:List af}{args:List AV}{r0:AV}(hc:aB E f H args (fun a b=>a=r0/\cS H.length [] 0 b=H2))(hk:(rR H.length [] H2&&eV H.length [] r0)=true):aB E f H args (fun a b=>a=r0/\b=H2):=by
 simp only[Bool.and_eq_true]at hk;obtain⟨ez,hv⟩:=hk;unfold aB at hc ⊢;refine⟨hc.1,hc.2.1,fun c vs h1 h2 h3=>(hc.2.2 c vs h1 h2 h3).mono fun e w' ⟨c',r,v,k1,k2,⟨k3,AR⟩,k4,k5,k6⟩=>?_⟩;subst k3;have a1:=k5.eG (n:=H.length) (B:=[]) (by rw[AR];exact ez);have a2:=xQ (n:=H.length) (B:=[]) hv k4;obtain⟨b1,b2⟩:=a1.AK (ak:=c'.ak) (fun b hb => .inl hb);refine⟨⟨(c'.eG H.length []).own,(c'.eG H.length []).heap,c'.ak,c'.w⟩,r,v,k1,k2,⟨rfl,by show cS _ _ 0 c'.heap=H2;rw[AR]⟩,b2 _ _ a2,b1,?_⟩;have hid:∀ i,i<H.length->dr H.length [] i=false:=fun i hi=>by
  have:Nat.ble H.length i=false:=by
   cases q:Nat.ble H.length i
   ·rfl
   ·have:=Nat.le_of_ble_eq_true q;omega
  simp only[dr,this];rfl
 exact{
  ak:=k6.ak
  os:=k6.os
  tape:=k6.tape
  output:=k6.output
  size:=k6.size
  keep:=k6.keep
  dw:=fun i b n hi hb=>k6.dw i b n (o9 hi).2 hb
  boxes:=fun i bx hi=>by
   have ai:i<H.length:=by rw[<- h1];exact a7 hi
   have e1:(cS H.length [] 0 c'.heap)[i]?=c'.heap[i]? := tq 0 i c'.heap (by rw[Nat.zero_add];exact hid i ai)
   exact xT (c:=c') (fun x hx=>e1.trans hx) (fun x _=>vI (hid i ai)) (k6.boxes i bx hi) }
section
variable {E:Env} {s:List AV} {h:List af} {c:Cx} {G:List (Nat × DV)}
theorem Y4(hE:E.OK){t e len:Nat}{i ei:bD}(hi:E.T[t]?=some i)(cd:E.T[e]?=some ei)(hk:i.k=.slice e){parts:Array (Nat × Operand)}{ps:List (Nat × AV)}(eT:yJ E.G s parts.toList ps)
  {z:DV} (hz:ei.zero=[z]) (bT:ei.size=1) (hlen:0<len) (BL:len<=16777216) {l:List AV} (hl:l.length=len)
  (h4:∀ (c:Cx) (vs us:List Value),VL c (List.replicate len (AV.d z)) vs->VL c (ps.map (·.2)) us->∃ cQ:List Value,Instr.fill (fun i=>some (i*1,1)) vs.toArray ((ps.map (·.1)).zip us)=some cQ.toArray/\VL c l cQ) :
  aZ E (.buildSlice t len parts) s h (.own h.length 0) (h++[.cells l]):=fun o c ac e1 e2 e3 e4=>by
 subst e2;have cD:0<ei.size:=by omega
 obtain⟨ti,zv,g1,g2,g3,g4⟩:=zeroOf (hE.types e ei cd) (by rw[hz,bT];rfl) cD;obtain⟨zs,yL,jV⟩:=g4 c;obtain⟨p1,p2⟩:=eT c ac e3 e4;have l4:zs.length=1:=by rw[<- jV.1,hz];rfl
 have AU:ti.size=1:=by omega
 have yM:VL c (List.replicate len (AV.d z)) ((Array.range (len*ti.size)).map (zv.cells[· % zv.cells.size]!)).toList:=by
  refine⟨by simp[AU],fun j x v hx hv=>?_⟩;rw[List.getElem?_replicate]at hx;split at hx
  ·rename_i hj;cases hx;have ir:v=zs[0]'(by omega):=by
    simp[AU,hj,yL,l4]at hv;rw[<- hv];simp[l4,Nat.mod_one]
   rw[ir];exact jV.2 0 _ _ (by rw[hz];rfl) (by simp[l4])
  ·cases hx
 obtain⟨cQ,f1,f2⟩:=h4 c _ _ yM p2;obtain⟨yN,d,q1,q2,q3,-⟩:=cM (hE.types t i hi);obtain rfl:=lZ (hk.symm.trans q3);have eq:(parts.map fun(i,x)=>(i,ac.eval x)).toList=(ps.map (·.1)).zip (parts.toList.map fun p=>ac.eval p.2):=by
  rw[p1,Array.toList_map];generalize parts.toList=q
  induction q with
  |nil=>rfl
  |cons a q ih=>simp only[List.map_cons,List.zip_cons_cons,ih]
 have yO:Instr.fill (fun i=>some (i*ti.size,ti.size)) ((Array.range (len*ti.size)).map (zv.cells[· % zv.cells.size]!)) (parts.map fun(i,x)=>(i,ac.eval x)).toList=some cQ.toArray:=by
  rw[eq,<- f1,Array.toArray_toList,AU]
 have cW:=run_buildSlice (P:=E.P) c.w t e len (parts.map fun(i,x)=>(i,ac.eval x)) cQ.toArray ti zv q2 g1 g2 (by rw[AU];omega) (by rw[AU];omega) yO;obtain⟨w1,w2,w3⟩:=e3.EG f2 e;refine⟨_,.slice (some ⟨c.w.heap.size,0,none⟩) len len,.inl (by simp only[execOp,e1,Sem.run_bind,cW,Result.andThen_ok,Sem.run_pure];rfl),rfl,w1,?_,w2⟩;exact .mF _ _ l c.w.heap.size 0 len (by simp[Cx.add]) (by simp[Cx.add]) hl
theorem aa.Y5(hE:E.OK){ae:FuncId}{R:bZ}{lits:List Nat}{ops:Array Oper}{o:Oper}{l:List Oper}{r:List aI}{t e len:Nat}{i ei:bD}{parts:Array (Nat × Operand)}(hg:o.guard=none)(bX:o.op=.buildSlice t len parts)
  (hi:E.T[t]?=some i) (hk:i.k=.slice e) (cd:E.T[e]?=some ei) {z:DV} (hz:ei.zero=[z]) (bT:ei.size=1) (hlen:Nat.blt 0 len=true) (BL:Nat.ble len 16777216=true)
  (H:tY E.G s parts.toList False fun ps=>wv (fun i=>some (i*1,1)) ps (List.replicate len (AV.d z)) False fun cs=>match Nat.beq cs.length len with
   |true=>bL s o.dst (.own h.length 0) fun s'=>aa E ae R lits (.bF ops l::r) s' (h++[.cells cs])
   |false=>False):aa E ae R lits (.bF ops (o::l)::r) s h:=by
 rcases yK H with h'|⟨ps,eT,H⟩
 ·exact h'.elim
 rcases BI H with h'|⟨cs,H,hf⟩
 ·exact h'.elim
 split at H
 ·rename_i q;have ho:=Y4 (h:=h) hE hi cd hk eT hz bT (ix hlen) (Nat.le_of_ble_eq_true BL) (Nat.eq_of_beq_eq_true q) hf;rw[<- bX]at ho;rw[df]at H;exact .of (.op (eK hg) ho H.to)
 ·exact H.elim
theorem PF{b g:Nat}{cs:List AV}(hb:c.heap[b]?=some (.cells cs)){v:Value}(hv:VR c (.own b g) v):∃ blk cap,c.own b=some (blk,cap)/\v=.slice (some ⟨blk,0,none⟩) cs.length cs.length:=by
 cases hv with
 |own _ _ _ l' blk cap k1 k2=>rw[hb]at k1;cases k1
 |iY _ _ _ k1 k2=>rw[hb]at k1;cases k1
 |kB _ _ g' _ _ _ k1 k2 _=>rw[hb]at k1;cases k1
 |jR _ _ _ k1 _=>rw[hb]at k1;cases k1
 |mF _ _ _ blk cap n k1 k2 k3=>rw[hb]at k1;cases k1;subst k3;exact⟨blk,cap,k2,rfl⟩
theorem aa.Y6(hE:E.OK){ae:FuncId}{R:bZ}{lits:List Nat}{ops:Array Oper}{o:Oper}{l:List Oper}{r:List aI}{t e b g:Nat}{i:bD}{x:Operand}{args:Array Operand}{ts:Array TypeId}{cs:List AV}(hg:o.guard=none)
  (bX:o.op=.call { callee := .builtin .len,args:=args,argTypes:=ts }) (hx:args.toList[0]?=some x) (ht:ts.toList[0]?=some t) (hi:E.T[t]?=some i) (hk:i.k=.slice e) (hv:bh E.G s x (.own b g)) (hb:h[b]?=some (.cells cs))
  (H:bL s o.dst (.d (.int .i64 cs.length)) fun s'=>aa E ae R lits (.bF ops l::r) s' h):aa E ae R lits (.bF ops (o::l)::r) s h:=by
 have ho:aZ E o.op s h (.d (.int .i64 cs.length)) h:=by
  rw[bX];refine .quiet fun o c ac h1 h2 h3 h4=>?_;subst h2;obtain⟨blk,cap,-,q⟩:=PF hb (hv c ac h3 h4);exact⟨_,wC h1 hx ht (hE.types t i hi) q (.inl ⟨e,_,_,hk,rfl⟩),.d _ _ (.int _ _)⟩
 rw[df]at H;exact .of (.op (eK hg) ho H.to)
theorem aa.qs(hE:E.OK){ae:FuncId}{R:bZ}{lits:List Nat}{ops:Array Oper}{o:Oper}{l:List Oper}{r:List aI}{t e b g n:Nat}{ti ei:bD}{x y:Operand}{cs:List AV}{j:IntKind}(hg:o.guard=none)
  (bX:o.op=.indexAddr t x y) (hi:E.T[t]?=some ti) (hk:ti.k=.slice e) (cd:E.T[e]?=some ei) (bT:ei.size=1) (hv:bh E.G s x (.own b g)) (hy:bh E.G s y (.d (.int j n))) (hb:h[b]?=some (.cells cs)) (hn:n<cs.length)
  (H:bL s o.dst (.ptr b n) fun s'=>aa E ae R lits (.bF ops l::r) s' h):aa E ae R lits (.bF ops (o::l)::r) s h:=by
 have ho:aZ E o.op s h (.ptr b n) h:=by
  rw[bX];refine .quiet fun o c ac h1 h2 h3 h4=>?_;subst h2;obtain⟨blk,cap,q1,q2⟩:=PF hb (hv c ac h3 h4);refine⟨_,wL h1 (v := .pointer (some ⟨blk,0+(n:Int).toNat*ei.size,none⟩)) ?_,?_⟩
  ·rw[q2,gb (hy c ac h3 h4)];exact BY (hE.types t ti hi) (hE.types e ei cd) hk (by omega) (by omega)
  ·rw[bT]
   simpa using VR.ptr (c:=c) b n cs blk cap hb q1
 rw[df]at H;exact .of (.op (eK hg) ho H.to)
end
section
variable {E:Env} {s:List AV} {h:List af} {c:Cx} {G:List (Nat × DV)} {P:Program}
theorem A'{b g k:Nat}{q:Option Nat}{ts:Nat × Nat}{l:List DV}(hb:c.heap[b]?=some (.arr g ts l)){v:Value}(hv:VR c (.cut b g k q) v):∃ blk cap o,c.own b=some (blk,cap)/\v=.slice (some ⟨blk,o,none⟩) (l.length-k) (cap-k)/\k<=l.length/\(k<cap->o=k*ts.2)/\(∀ n,q=some n->n=cap):=by
 cases hv with
 |cut _ _ _ _ _ l' blk cap o k1 k2 k3 k4 k5=>rw[hb]at k1;cases k1;exact⟨blk,cap,o,k2,rfl,k3,k4,k5⟩
 |mG _ _ g' _ _ _ _ _ k1 k2 _=>rw[hb]at k1;cases k1;omega
 |mH _ _ _ _ _ k1 _=>rw[hb]at k1;cases k1
theorem aE.I2(ho:aE G c){b g:Nat}{ts:Nat × Nat}{l:List DV}(hb:c.heap[b]?=some (.arr g ts l)){blk cap:Nat}(bJ:c.own b=some (blk,cap)) :
  0<ts.2/\gM ts.2 l/\∃ vs:Array Value,c.w.heap[blk]?=some (.cells vs ts.1 (0,0))/\vs.size=cap*ts.2/\l.length<=cap/\cap<=maxLen/\iN c l vs.toList:=by
 obtain⟨q0,q1,q2⟩:=ho.box b _ hb;rcases q2 with⟨q2,-⟩|⟨lk,jS,vs,q2,q3,q4,q5,q6,q7⟩
 ·rw[bJ]at q2;cases q2
 ·rw[bJ]at q2;cases q2;exact⟨q0,q1,vs,q3,q4,q5,q6,iN.Ke q0 q1 q7⟩
def Qd(E:Env)(op:Op)(s:List AV)(h:List af)(S:AV->List af->Prop):Prop :=
 ∀ (o:Oper) (c:Cx) (a:Act),o.op=op->c.heap=h->aE E.G c->VS c s a.tmps ->
  ∃ (c':Cx) (v:Value) (x:AV) (h':List af),S x h'/\EC E.P o a c.w v c'.w/\c'.heap=h'/\aE E.G c'/\VR c' x v/\Step c c'
theorem AW.ZE{f0:FuncId}{ae:iE}{k:List aI}{cls:List cu}{R:bZ}{ops:Array Oper}{o:Oper}{l:List Oper}{S:AV->List af->Prop}(hw:iF ops o s true)(ho:Qd E o.op s h S)(H:∀ x h',S x h'->AW E f0 ⟨ae,.bF ops l::k,bM s o.dst x⟩ cls h' R):AW E f0 ⟨ae,.bF ops (o::l)::k,s⟩ cls h R:=by
 unfold AW;intro c0 c t ts h0 h1 h2 h3 hr cb h4 h5 cs;obtain⟨i,hi,hc,aO⟩:=mP (h1 _ (List.mem_cons_self ..));obtain⟨c',u,x,h',hS,k1,k2,k3,k4,k5⟩:=ho o c ⟨t,marks ae.aN⟩ rfl h2 h3 h4;have H':=H x h' hS;unfold AW at H';obtain⟨c2,fr,r,v,e1,e2,e3,e4,e5,e6⟩:=H' c0 c' ((⟨t,marks ae.aN⟩:Act).put o.dst u).tmps ts h0 (gP aO (ee h1)) k2 k3 (hr.step k5) (cb.step h3 k5) (VS.bM (a:=⟨t,marks ae.aN⟩) (k5.vs h4) o.dst k4) (k5.cr h5) cs;refine⟨c2,fr,r,v,e1,e2,e3,e4,.head ?_ e5,e6⟩;simp only[cu.bS,List.map_cons,hc];rw[uo hi (hw c t h4) k1,put_defers];rfl
theorem aa.Qe(hE:E.OK){ae:FuncId}{R:bZ}{lits:List Nat}{ops:Array Oper}{o:Oper}{l:List Oper}{r:List aI}{t e b g k:Nat}{qq:Option Nat}{i:bD}{x:Operand}{args:Array Operand}{Qf:Array TypeId}{ts:Nat × Nat}{m:List DV}(hg:o.guard=none)
  (bX:o.op=.call { callee := .builtin .len,args:=args,argTypes:=Qf }) (hx:args.toList[0]?=some x) (ht:Qf.toList[0]?=some t) (hi:E.T[t]?=some i) (hk:i.k=.slice e) (hv:bh E.G s x (.cut b g k qq)) (hb:h[b]?=some (.arr g ts m))
  (H:k<=m.length->bL s o.dst (.d (.int .i64 ((m.length-k:Nat):Int))) fun s'=>aa E ae R lits (.bF ops l::r) s' h):aa E ae R lits (.bF ops (o::l)::r) s h:=by
 have ho:Qd E o.op s h fun v h'=>k<=m.length/\v=.d (.int .i64 ((m.length-k:Nat):Int))/\h'=h:=by
  rw[bX];intro o c ac h1 h2 h3 h4;subst h2;obtain⟨blk,cap,off,-,q,oh,-,-⟩:=A' hb (hv c ac h3 h4);exact⟨c,_,_,_,⟨oh,rfl,rfl⟩,.inl (wC h1 hx ht (hE.types t i hi) q (.inl ⟨e,_,_,hk,rfl⟩)),rfl,h3,.d _ _ (.int _ _),Step.refl c h3.bE⟩
 refine .of (.ZE (eK hg) ho fun v h' ⟨q0,q1,q2⟩=>?_);subst q1;subst q2;have H:=H q0;rw[df]at H;exact H.to
theorem aa.ZF(hE:E.OK){ae:FuncId}{R:bZ}{lits:List Nat}{ops:Array Oper}{o:Oper}{l:List Oper}{r:List aI}{t e b g k n:Nat}{qq:Option Nat}{ti ei:bD}{x y:Operand}{ts:Nat × Nat}{m:List DV}{j:IntKind}(hg:o.guard=none)
  (bX:o.op=.indexAddr t x y) (hi:E.T[t]?=some ti) (hk:ti.k=.slice e) (cd:E.T[e]?=some ei) (bT:ei.size=ts.2) (hv:bh E.G s x (.cut b g k qq)) (hy:bh E.G s y (.d (.int j n))) (hb:h[b]?=some (.arr g ts m)) (hn:k+n<m.length)
  (H:bL s o.dst (.cO b g (k+n) 0) fun s'=>aa E ae R lits (.bF ops l::r) s' h):aa E ae R lits (.bF ops (o::l)::r) s h:=by
 have ho:aZ E o.op s h (.cO b g (k+n) 0) h:=by
  rw[bX];refine .quiet fun o c ac h1 h2 h3 h4=>?_;subst h2;obtain⟨blk,cap,off,q1,q2,-,q3,-⟩:=A' hb (hv c ac h3 h4);obtain⟨-,-,vs,-,-,q4,-⟩:=h3.I2 hb q1;refine⟨_,wL h1 (v := .pointer (some ⟨blk,off+(n:Int).toNat*ei.size,none⟩)) ?_,?_⟩
  ·rw[q2,gb (hy c ac h3 h4)];exact BY (hE.types t ti hi) (hE.types e ei cd) hk (by omega) (by omega)
  ·have:=VR.cO (c:=c) b g (k+n) 0 ts m blk cap hb q1 hn;rw[q3 (by omega),bT,Int.toNat_natCast,<- Nat.add_mul];exact this
 rw[df]at H;exact .of (.op (eK hg) ho H.to)
theorem aa.ZG(hE:E.OK){ae:FuncId}{R:bZ}{lits:List Nat}{ops:Array Oper}{o:Oper}{l:List Oper}{r:List aI}{t e b g k n:Nat}{qq:Option Nat}{ti ei:bD}{x y:Operand}{ts:Nat × Nat}{m:List DV}{j:IntKind}(hg:o.guard=none)
  (bX:o.op=.slice t x (some y) none none) (hi:E.T[t]?=some ti) (hk:ti.k=.slice e) (cd:E.T[e]?=some ei) (bT:ei.size=ts.2) (hv:bh E.G s x (.cut b g k qq)) (hy:bh E.G s y (.d (.int j n))) (hb:h[b]?=some (.arr g ts m)) (hn:k+n<=m.length)
  (H:bL s o.dst (.cut b g (k+n) qq) fun s'=>aa E ae R lits (.bF ops l::r) s' h):aa E ae R lits (.bF ops (o::l)::r) s h:=by
 have ho:aZ E o.op s h (.cut b g (k+n) qq) h:=by
  rw[bX];refine .quiet fun o c ac e1 h2 h3 h4=>?_;subst h2;obtain⟨nL,d,g1,g2,g3,-⟩:=cM (hE.types t ti hi);obtain rfl:=lZ (hk.symm.trans g3);obtain⟨blk,cap,off,q1,q2,q5,q3,q6⟩:=A' hb (hv c ac h3 h4);obtain⟨-,-,vs,-,-,q4,-⟩:=h3.I2 hb q1;have nK:=gb (hy c ac h3 h4);have tC:=Fb (P:=E.P) (w:=c.w) (isSlice:=true) (len:=m.length-k) (cap:=cap-k) (lo:=some (.int j n)) (hi:=none) (l:=some (n:Int)) (u:=none) ⟨j,rfl⟩ rfl (by simp) (by simp;omega) (by simp) (by omega);simp only[Option.getD_some,Option.getD_none,Int.toNat_natCast]at tC;refine⟨_,?_,VR.cut b g (k+n) qq ts m blk cap (if cap-k=n then off else off+n*ts.2) hb q1 hn (fun h=>?_) q6⟩
  ·rw[show m.length-(k+n)=m.length-k-n by omega,show cap-(k+n)=cap-k-n by omega];simp only[execOp,e1,q2,nK,Instr.sliceAt,Instr.slice,Sem.run_bind,Sem.run_pure,Result.andThen_ok,run_underlying g2,Option.map_none,Option.map_some,tC,run_sizeOf (hE.types e ei cd),bT,lj];split<;>rfl
  ·rw[if_neg (by omega),q3 (by omega),Nat.add_mul]
 rw[df]at H;exact .of (.op (eK hg) ho H.to)
theorem ZH{t0 t1 e:TypeId}{i:TypeInfo}{d1:TypeDesc}(h0:P.underlying t0=some (.slice e))(h1:P.underlying t1=some d1)(jb:∀ k,d1 ≠ .int k)(hi:P.info? e=some i){w:World}{g off n m cap:Nat}{cur:Array Value}{x:Value}{news:List Value}
  (hg:w.heap[g]?=some (.cells cur e (0,0))) (hs:Src P i.size w x m news) (kD:n+m<=cap) (dJ:off+n*i.size+news.length<=cur.size) (ty:TypeId) :
  (Builtin.append_ #[t0,t1] ty #[.slice (some ⟨g,off,none⟩) n cap,x]).run P w=.ok (.slice (some ⟨g,off,none⟩) (n+m) cap) (w.setCells g (off+n*i.size) news):=by
 have aT:=run_storeCells_cells (P:=P) g (off+n*i.size) news 0 w (fun j hj=>by
   simp only[World.cell?,hg]
   simp;omega) (fun j hj=>by simp[World.frozen?,hg]) hs.one
 simp only[Nat.add_zero]at aT;have hc:=hs.cells w.drawn;simp[Builtin.append_,run_underlying h0,run_underlying h1,Go.sizeOf,typeInfo,hi,hs.len,kD,hc,lj,aT]
theorem ZI{sz:Nat}{l:List DV}(dN:gM sz l)(k:Nat)(hk:k<=l.length):flat l=flat (l.take k)++flat (l.drop k)/\(flat (l.take k)).length=k*sz:=by
 refine⟨by rw[<- BJ,List.take_append_drop],?_⟩
 have:=ln (sz:=sz) (l:=l.take k) (fun i e he=>by
  rw[List.getElem?_take]at he;split at he
  ·exact dN i e he
  ·cases he)
 rw[this,List.length_take,Nat.min_eq_left hk]
theorem ZJ{sz:Nat}{l:List DV}(dN:gM sz l)(k:Nat):gM sz (l.drop k):=fun i e he=>by
 rw[List.getElem?_drop]at he;exact dN _ e he
def ye(l m:List DV)(k cp:Nat):List DV:=if l.length+m.length<=cp then l++m else l.drop k++m
def yf(b g:Nat)(l m:List DV)(k cp:Nat):AV:=if l.length+m.length<=cp then .cut b (g+1) k (some cp)else .cut b (g+1) 0 none
theorem ZK(aO:aE G c){t0 t1:TypeId}{i:TypeInfo}{z:Value}{d1:TypeDesc}{ts:Nat × Nat}(h0:P.underlying t0=some (.slice ts.1))(h1:P.underlying t1=some d1)(jb:∀ k,d1 ≠ .int k)(hi:P.info? ts.1=some i)(hz:i.zero=some z)(gL:z.cells.size=i.size)(gQ:i.size=ts.2)(jc:i.bytes<=65536)
  {b g k cp:Nat} {l m:List DV} (hb:c.heap[b]?=some (.arr g ts l)) {v x:Value} (hv:VR c (.cut b g k (some cp)) v) {news:List Value} (hs:Src P i.size c.w x m.length news) (hn:∀ (j:Nat) (y:DV) (v:Value),(flat m)[j]?=some y->news[j]?=some v->VD c.bad c.w y v) (hm:∀ e∈m,e.cells.length=ts.2) (uA:m≠[]) (lp:l.length+m.length<=2147483648) (ty:TypeId) :
  ∃ (c':Cx) (v':Value),(Builtin.append_ #[t0,t1] ty #[v,x]).run P c.w=.ok v' c'.w/\c'.heap=c.heap.set b (.arr (g+1) ts (ye l m k cp))/\aE G c'/\VR c' (yf b g l m k cp) v'/\Step c c':=by
 obtain⟨blk,jS,off,r1,rfl,hk,tS,ZL⟩:=A' hb hv;obtain rfl:cp=jS:=ZL _ rfl;obtain⟨q0,q1,vs,q3,q4,q5,q6,gj⟩:=aO.I2 hb r1;have eD:=a7 hb;have hmp:0<m.length:=List.length_pos_iff.2 uA;have qP:(flat m).length=m.length*ts.2:=ln (fun i e he=>hm e (List.mem_of_getElem? he));have nJ:news.length=(flat m).length:=by rw[hs.size,qP,gQ]
 have kE:∀ L own w,(c.gm b (g+1) ts L own w).heap[b]?=some (.arr (g+1) ts L):=fun L own w=>by show(c.heap.set b _)[b]?=_;rw[List.getElem?_set_self eD]
 have wK:∀ L own w,(c.gm b (g+1) ts L own w).own b=own:=fun L own w=>by simp[Cx.gm]
 by_cases kD:l.length+m.length<=cp
 ·have eL:ye l m k cp=l++m:=if_pos kD;have eQ:yf b g l m k cp=.cut b (g+1) k (some cp):=if_pos kD;rw[eL,eQ];have ho:=tS (by omega);subst ho;have e0:k*ts.2+(l.length-k)*i.size=l.length*i.size:=by rw[gQ,<- Nat.add_mul];congr 1;omega
  have dJ:l.length*i.size+news.length<=vs.size:=by
   rw[nJ,qP,gQ,q4,<- Nat.add_mul];exact Nat.mul_le_mul_right _ kD
  have hr:=ZH (off:=k*ts.2) (n:=l.length-k) (m:=m.length) (cap:=cp-k) h0 h1 jb hi q3 hs (by omega) (by rw[e0];exact dJ) ty;rw[e0]at hr;obtain⟨e1,e2,e3,e4⟩:=yD blk news (l.length*i.size) c.w;obtain⟨k1,k2⟩:=aO.gm (l':=l++m) hb (w:=c.w.setCells blk (l.length*i.size) news) (some (blk,cp)) e1 e2 e3 (Nat.le_of_eq e4.symm) (fun k _ hk=>ud blk news _ c.w k (fun e=>hk cp (by rw[e];exact r1))) (fun k n e=>by cases e;exact⟨by rw[e4];exact(aO.bI b blk cp r1).1,fun _=>⟨cp,r1⟩⟩);refine⟨_,_,hr,rfl,k2 ⟨E5 q1 hm,.inr ⟨blk,cp,(dG vs.toList (l.length*i.size) news).toArray,rfl,yE blk ts.1 (0,0) news _ c.w vs q3,by simp[wx,q4],by simpa using kD,q6,?_⟩⟩,?_,k1⟩
  ·have:=iN.append (c:=c) (l:=l) (m:=m) (vs:=vs.toList) (news:=news) (tail:=vs.toList.drop (l.length*ts.2+news.length)) q1 gj (by rw[gQ]at dJ;simp;omega) hs.one nJ hn;have:=this.step k1;show iN _ (l++m) (dG vs.toList (l.length*i.size) news);rw[Kg (by simp;exact dJ)];rw[<- gQ]at this;exact this
  ·have:=VR.cut (c:=c.gm b (g+1) ts (l++m) (some (blk,cp)) (c.w.setCells blk (l.length*i.size) news)) b (g+1) k (some cp) ts (l++m) blk cp (k*ts.2) (kE _ _ _) (wK _ _ _) (by simp;omega) (fun _=>rfl) (fun n e=>by cases e;rfl);rw[List.length_append,show l.length+m.length-k=l.length-k+m.length by omega]at this;exact this
 ·have eL:ye l m k cp=l.drop k++m:=if_neg kD;have eQ:yf b g l m k cp=.cut b (g+1) 0 none:=if_neg kD;rw[eL,eQ];obtain⟨f1,f2⟩:=ZI q1 k hk;have dN:=ZJ q1 k;have DW:(l.drop k).length=l.length-k:=List.length_drop;have cb:=mJ q3;have gK:l.length*ts.2<=vs.size:=by rw[q4];exact Nat.mul_le_mul_right _ q5
  have eks:k*ts.2+(l.length-k)*ts.2=l.length*ts.2:=by rw[<- Nat.add_mul];congr 1;omega
  let iM:List Value:=(vs.toList.drop (k*ts.2)).take ((l.length-k)*ts.2)
  have yY:iM.length=(l.length-k)*ts.2:=by simp[iM];omega
  have hold:∀ (idx:Nat) (y:DV),(flat (l.drop k))[idx]?=some y->∃ v,iM[idx]?=some v/\v.oneCell'=true/\VD c.bad c.w y v:=fun idx y hy=>by
   have ai:=a7 hy;rw[ln dN,DW]at ai;obtain⟨v,u1,u2⟩:=gj (k*ts.2+idx) y (by rw[f1,List.getElem?_append_right (by omega),f2,Nat.add_sub_cancel_left];exact hy);exact⟨v,by simp only[iM];rw[List.getElem?_take,if_pos ai,List.getElem?_drop];exact u1,u2⟩
  have E6:∀ d:Nat,(Builtin.firstCells i.size (l.length-k) (.slice (some ⟨blk,off,none⟩) (l.length-k) (cp-k))).run P { c.w with drawn:=d }=.ok iM.toArray { c.w with drawn:=d }:=fun d=>by
   have:=run_loadCells_list (P:=P) { c.w with drawn:=d } ⟨blk,off,none⟩ iM (fun j u hu=>by
    have hj:=a7 hu;rw[yY]at hj;have ZM:k<cp:=by
     rcases Nat.lt_or_ge k l.length with h|h
     ·omega
     ·rw[show l.length-k=0 by omega,Nat.zero_mul]at hj;omega
    simp only[iM]at hu;rw[List.getElem?_take,if_pos hj,List.getElem?_drop]at hu;rw[lj,tS ZM];have:=cb _ u hu;rw[Nat.zero_add]at this
    exact this)
   rw[yY,<- gQ]at this;exact this
  have hr:=Kc h0 h1 jb hi hz E6 hs (by omega) (by omega) jc ty;have aL:=grownCap_ge c.w (l.length-k+m.length) (cp-k) ts.1;have hle:=grownCap_le_maxLen c.w (l.length-k+m.length) (cp-k) ts.1 (mQ (by omega));generalize grownCap c.w (l.length-k+m.length) (cp-k) ts.1=nc at hr aL hle
  let cells:Array Value:=iM.toArray++news.toArray++Builtin.zeroCells z.cells (nc-(l.length-k+m.length))
  have hw:(c.w.drew.alloc (.cells cells ts.1)).heap[c.w.heap.size]?=some (.cells cells ts.1 (0,0)):=heap_alloc_new c.w.drew _;obtain⟨k1,k2⟩:=aO.gm (l':=l.drop k++m) hb (w:=c.w.drew.alloc (.cells cells ts.1)) (some (c.w.heap.size,nc)) rfl rfl rfl (by simp) (fun k hk _=>Below.heap_alloc c.w.drew _ k hk) (fun k n e=>by cases e;exact⟨by simp,fun h=>by omega⟩);refine⟨_,_,hr,rfl,k2 ⟨E5 dN hm,.inr ⟨c.w.heap.size,nc,cells,rfl,hw,?_,by simpa using aL,hle,?_⟩⟩,?_,k1⟩
  ·simp only[cells,Array.size_append,List.size_toArray,size_zeroCells,gL,yY,nJ,qP,gQ,<- Nat.add_mul]
   congr 1
   omega
  ·have:=iN.append (c:=c) (l:=l.drop k) (m:=m) (vs:=iM) (news:=news) (tail:=(Builtin.zeroCells z.cells (nc-(l.length-k+m.length))).toList) dN hold (by rw[DW];omega) hs.one nJ hn;rw[List.take_of_length_le (by rw[DW];omega)]at this;have:=this.step k1
   simpa [cells]using this
  ·have:=VR.cut (c:=c.gm b (g+1) ts (l.drop k++m) (some (c.w.heap.size,nc)) (c.w.drew.alloc (.cells cells ts.1))) b (g+1) 0 none ts (l.drop k++m) c.w.heap.size nc 0 (kE _ _ _) (wK _ _ _) (Nat.zero_le _) (fun _=>by simp) (fun n e=>by cases e);rw[List.length_append,DW,Nat.sub_zero,Nat.sub_zero]at this;exact this
theorem ZN(hE:E.OK){args:Array Operand}{kF:Array TypeId}{x y:Operand}{t0 t1 e e1 b g k cp:Nat}{i0 i1 ei:bD}{ts:Nat × Nat}{l m:List DV}
  (hx:args.toList=[x,y]) (pD:kF.toList=[t0,t1]) (fQ:E.T[t0]?=some i0) (jd:E.T[t1]?=some i1) (dh:i0.k=.slice e) (ea:i1.k=.slice e1) (cd:E.T[e]?=some ei)
  (hz:ei.zero.length=ei.size) (cD:Nat.blt 0 ei.size=true) (jc:Nat.ble ei.bytes 65536=true) (vV:ts.1=e) (oC:ts.2=ei.size) (ha:bh E.G s x (.cut b g k (some cp))) (hy:bh E.G s y (.d (.sl m))) (hb:h[b]?=some (.arr g ts l)) (hm:∀ e∈m,e.cells.length=ei.size) (uA:m≠[]) (lp:l.length+m.length<=2147483648) :
  aZ E (.call { callee := .builtin .append,args:=args,argTypes:=kF }) s h (yf b g l m k cp) (h.set b (.arr (g+1) ts (ye l m k cp))):=fun o c ac h1 h2 h3 h4=>by
 subst h2;have cD:=ix cD;have jc:=Nat.le_of_ble_eq_true jc;obtain⟨yG,d0,g1,g2,g3,-⟩:=cM (hE.types _ _ fQ);obtain rfl:=lZ (dh.symm.trans g3);obtain⟨Kj,d1,k1,k2,k3,-⟩:=cM (hE.types _ _ jd);obtain⟨ti,z,q1,q2,q3,q4⟩:=zeroOf (hE.types _ _ cd) hz cD;obtain⟨yN,d',p1,p2,p3,p4,p5,-⟩:=cM (hE.types _ _ cd);rw[q1]at p1;cases p1;have jb:∀ k,d1 ≠ .int k:=fun k e=>by rw[k3,e]at ea;cases ea
 have gL:z.cells.size=ti.size:=by
  obtain⟨vs,e1,e2⟩:=q4 c;rw[e1];have:=e2.1;simp at this;simp[<- this,hz,q3]
 have nK:=hy c ac h3 h4;generalize ZO:ac.eval y=yv at nK;cases nK with
 |d _ _ tc =>
  obtain⟨news,hs,hn⟩:=BS (P:=E.P) cD hm tc;rw[q3]at hs;subst vV;obtain⟨c',v',r1,r3,r4,r5,r6⟩:=ZK h3 g2 k2 jb q1 q2 gL (by rw[<- q3];exact oC.symm) (by rw[<- p5];exact jc) hb (ha c ac h3 h4) hs hn (fun e he=>by rw[oC];exact hm e he) uA lp o.type;exact⟨c',v',.inl (E7 h1 hx pD rfl ZO r1),r3,r4,r5,r6⟩
theorem aa.ZP{ae:FuncId}{R:bZ}{lits:List Nat}{td:List aI}{b off j g k:Nat}{q:Option Nat}{ts:Nat × Nat}{l:List DV}(hj:h[j]?=some (.arr g ts l)){cs:List AV}(hb:h[b]?=some (.cells cs))(hd:cs[off]?=some (.cut j g k q))
  (H:∀ cp,k<=l.length->aa E ae R lits td s (h.set b (.cells (cs.set off (.cut j g k (some cp)))))):aa E ae R lits td s h:=by
 refine .of ?_;unfold AW;intro c0 c t ec h0 h1 h2 h3 hr cb h4 h5 cs';subst h2;have eD:=a7 hb;have aM:j≠b:=fun e=>by subst e;rw[hb]at hj;cases hj
 obtain⟨blk,cap,vs,ty,g1,g2,g3,g4⟩:=h3.box b _ hb;have Qg:off<vs.size:=by rw[g3];exact a7 hd
 have I3:=g4 off _ vs[off] hd (by simp[Qg]);obtain⟨bk,cp,o2,u1,u2,u3,u4,u5⟩:=A' hj I3;have H:=(H cp u3).to;unfold AW at H
 let c':Cx:={ c with heap:=c.heap.set b (.cells (cs.set off (.cut j g k (some cp)))) }
 have pb:c'.heap[b]?=some (.cells (cs.set off (.cut j g k (some cp)))):=by
  show(c.heap.set b _)[b]?=_;rw[List.getElem?_set_self eD]
 have np:∀ i,i≠b->c'.heap[i]?=c.heap[i]? := fun i hi=>by
  show(c.heap.set b _)[i]?=_;rw[List.getElem?_set_ne (Ne.symm hi)]
 have aT:Step c c':=⟨rfl,h3.bE,rfl,rfl,rfl,Nat.le_refl _,fun _ _ _=>rfl,fun i x n hi _=>⟨n,hi⟩,fun i bx hi=>by
  by_cases bR:i=b
  ·subst bR;rw[hb]at hi;cases hi;exact .inl ⟨_,pb,rfl,by simp⟩
  ·exact mN hi (np i bR) rfl⟩
 have aO:aE E.G c':=h3.next aT (fun i x n hi=>by
   have:=h3.bI i x n hi;refine⟨this.1,?_⟩;show i<(c.heap.set b _).length;simp;omega) h3.inj (fun i bx hi=>by
  by_cases bR:i=b
  ·subst bR;rw[pb]at hi;cases hi;right;refine⟨blk,cap,vs,ty,g1,g2,by simpa using g3,fun q x v hx hv=>?_⟩;by_cases hq:q=off
   ·subst hq;rw[List.getElem?_set_self (a7 hd)]at hx;cases hx;have e:v=vs[q]:=by simpa [Qg]using hv.symm
    rw[e,u2];exact VR.cut (c:=c') j g k (some cp) ts l bk cp o2 ((np j aM).trans hj) u1 u3 u4 (fun n e=>by cases e;rfl)
   ·rw[List.getElem?_set_ne (Ne.symm hq)]at hx;exact aT.vr (g4 q x v hx hv)
  ·rw[np i bR]at hi
   exact .inl ⟨hi,rfl,fun _ _ _=>rfl⟩)
 obtain⟨c2,fr,rr,u,e1,e2,e3,e4,e5,e6⟩:=H c0 c' t ec h0 h1 rfl aO (hr.step aT) (cb.step h3 aT) (aT.vs h4) (aT.cr h5) cs';exact⟨c2,fr,rr,u,e1,e2,e3,e4,e5,e6⟩
theorem aa.ZQ{ae:FuncId}{R:bZ}{lits:List Nat}{td:List aI}{b off j g:Nat}{ts:Nat × Nat}{l:List DV}(hj:h[j]?=some (.arr g ts l))(hl:l≠[]){cs:List AV}(hb:h[b]?=some (.cells cs))(hd:cs[off]?=some (.own j g))
  (H:aa E ae R lits td s (h.set b (.cells (cs.set off (.cut j g 0 none))))):aa E ae R lits td s h:=by
 replace H:=H.to;refine .of (.jX (fun c t ec h1 h2 h3 h4 h5=>?_) H);subst h2;have eD:=a7 hb;have aM:j≠b:=fun e=>by subst e;rw[hb]at hj;cases hj
 let c':Cx:={ c with heap:=c.heap.set b (.cells (cs.set off (.cut j g 0 none))) }
 have pb:c'.heap[b]?=some (.cells (cs.set off (.cut j g 0 none))):=by
  show(c.heap.set b _)[b]?=_;rw[List.getElem?_set_self eD]
 have np:∀ i,i≠b->c'.heap[i]?=c.heap[i]? := fun i hi=>by
  show(c.heap.set b _)[i]?=_;rw[List.getElem?_set_ne (Ne.symm hi)]
 have aT:Step c c':=⟨rfl,h3.bE,rfl,rfl,rfl,Nat.le_refl _,fun _ _ _=>rfl,fun i x n hi _=>⟨n,hi⟩,fun i bx hi=>by
  by_cases bR:i=b
  ·subst bR;rw[hb]at hi;cases hi;exact .inl ⟨_,pb,rfl,by simp⟩
  ·exact mN hi (np i bR) rfl⟩
 have aO:aE E.G c':=h3.next aT (fun i x n hi=>by
   have:=h3.bI i x n hi;refine⟨this.1,?_⟩;show i<(c.heap.set b _).length;simp;omega) h3.inj (fun i bx hi=>by
  by_cases bR:i=b
  ·subst bR;rw[pb]at hi;cases hi;right;obtain⟨blk,cap,vs,ty,g1,g2,g3,g4⟩:=h3.box i _ hb;refine⟨blk,cap,vs,ty,g1,g2,by simpa using g3,fun q x v hx hv=>?_⟩;by_cases hq:q=off
   ·subst hq;rw[List.getElem?_set_self (a7 hd)]at hx;cases hx;have:=g4 q _ v hd hv;rcases nI hj this with⟨bk,cp,u1,u2⟩|⟨u1,-,-⟩
    ·rw[u2];have:=VR.cut (c:=c') j g 0 none ts l bk cp 0 ((np j aM).trans hj) u1 (Nat.zero_le _) (fun _=>by simp) (fun n e=>by cases e)
     simpa using this
    ·exact absurd u1 hl
   ·rw[List.getElem?_set_ne (Ne.symm hq)]at hx;exact aT.vr (g4 q x v hx hv)
  ·rw[np i bR]at hi
   exact .inl ⟨hi,rfl,fun _ _ _=>rfl⟩)
 exact⟨c',t,ec,h1,rfl,aO,aT.vs h4,aT.cr h5,aT,fun _ => .refl _ _⟩
end
theorem DX{P Q:Prop}(h:P->Q)(p:P):Q:=h p
section
variable {E:Env} {ae:FuncId} {R:bZ} {td:List aI} {s:List AV} {h:List af}
theorem aa.forget{lits:List Nat}(fD ks:List Nat)(vars:List (Nat × AV))(boxes:List (Nat × af))(hs:rj fD ks vars boxes s h fun s' h'=>xc h h' R.fx (uU R.n h s h' s'))
  (H:rj fD ks vars boxes s h fun s' h'=>aa E ae R [] td s' h'):aa E ae R lits td s h:=by
 rw[xe]at hs H;exact .of (.weaken hs H.to)
end
section
variable {E:Env} {s:List AV} {h:List af} {c:Cx} {G:List (Nat × DV)}
theorem aE.rest(h3:aE G c){b g:Nat}{ts:Nat × Nat}{l:List DV}(hb:c.heap[b]?=some (.arr g ts l)):∃ c':Cx,c'.heap=c.heap.set b .gone/\c'.w=c.w/\aE G c'/\Step c c'/\∀ v,VR c (.own b g) v->VR c' (.d (.sl l)) v:=by
 have eD:=a7 hb
 let c':Cx:={ c with own:=fun i=>if i=b then none else c.own i,heap:=c.heap.set b .gone }
 have fK:c'.heap[b]?=some .gone:=by show(c.heap.set b .gone)[b]?=_;rw[List.getElem?_set_self eD]
 have oD:∀ i,i≠b->c'.heap[i]?=c.heap[i]? := fun i hi=>by show(c.heap.set b .gone)[i]?=_;rw[List.getElem?_set_ne (Ne.symm hi)]
 have bJ:∀ i,i≠b->c'.own i=c.own i:=fun i hi=>by simp only[c',if_neg hi]
 have jw:∀ i p,c'.own i=some p->i≠b/\c.own i=some p:=fun i p hp=>by
  simp only[c']at hp;split at hp
  ·cases hp
  ·rename_i q;exact⟨q,hp⟩
 have aT:Step c c':=⟨rfl,h3.bE,rfl,rfl,rfl,Nat.le_refl _,fun _ _ _=>rfl,fun i x n hi _=>⟨n,(jw i _ hi).2⟩,fun i bx hi=>by
  by_cases bR:i=b
  ·subst bR;cases bx with
   |cells cs=>exact .inr fK
   |arr g sz l=>exact .inr fK
   |map es=>exact .inr fK
   |gone=>exact fK
  ·exact mN hi (oD i bR) (bJ i bR)⟩
 refine⟨c',rfl,rfl,?_,aT,fun v hv=>?_⟩
 ·refine h3.next aT (fun i x n hi=>?_) (fun i j x n m hi hj=>h3.inj i j x n m (jw i _ hi).2 (jw j _ hj).2) (fun i bx hi=>?_)
  ·have:=h3.bI i x n (jw i _ hi).2;refine⟨this.1,?_⟩;show i<(c.heap.set b .gone).length;rw[List.length_set];exact this.2
  ·by_cases bR:i=b
   ·subst bR;right;rw[fK]at hi;cases hi;show c'.own i=none;simp[c']
   ·rw[oD i bR]at hi;exact .inl ⟨hi,bJ i bR,fun _ _ _=>rfl⟩
 ·obtain⟨q0,q1,q2⟩:=h3.box b _ hb;rcases nI hb hv with⟨blk,cap,r1,rfl⟩|⟨rfl,rfl,r1⟩
  ·rcases q2 with⟨q2,-⟩|⟨lk,jS,vs,q2,q3,q4,q5,q6,q7⟩
   ·rw[r1]at q2;cases q2
   rw[r1]at q2;cases q2;refine .d _ _ (.sl l blk 0 cap ts.2 (fun i j=>(vs[i*ts.2+j]?).getD undef) (fun _ gZ=>?_) q0 q5 (fun i e he=>q1 i e he) (fun i j e x he hx=>?_) (fun i j e x he hx=>?_) (fun i j e x he hx=>?_))
   ·rcases gZ with gZ|⟨i,n,hi⟩
    ·exact h3.sep b blk cap r1 gZ
    ·obtain⟨k1,k2⟩:=jw i _ hi;exact k1 (h3.inj i b blk n cap k2 r1)
   ·obtain⟨v,p1,p2,p3⟩:=q7 i j e x he hx;rw[p1,Option.getD_some];exact mJ q3 _ v (by simpa using p1)
   ·obtain⟨v,p1,p2,p3⟩:=q7 i j e x he hx;simp only[p1,Option.getD_some];exact aT.vd p3
   ·obtain⟨v,p1,p2,p3⟩:=q7 i j e x he hx;simp only[p1,Option.getD_some];exact p2
  ·exact .d _ _ .slnil
theorem aas(hE:E.OK){args:Array Operand}{kF:Array TypeId}{x y:Operand}{t0 t1 e e1 b g:Nat}{i0 i1 ei:bD}{ts:Nat × Nat}{l m:List DV}(hx:args.toList=[x,y])(pD:kF.toList=[t0,t1])(fQ:E.T[t0]?=some i0)(jd:E.T[t1]?=some i1)(dh:i0.k=.slice e)(ea:i1.k=.slice e1)(cd:E.T[e]?=some ei)
  (hz:ei.zero.length=ei.size) (cD:Nat.blt 0 ei.size=true) (jc:Nat.ble ei.bytes 65536=true) (vV:ts.1=e) (oC:ts.2=ei.size) (ha:bh E.G s x (.own b g)) (hy:bh E.G s y (.d (.sl m))) (hb:h[b]?=some (.arr g ts l)) (hm:∀ e∈m,e.cells.length=ei.size) (lp:l.length+m.length<=2147483648) :
  aZ E (.call { callee := .builtin .append,args:=args,argTypes:=kF }) s h (.d (.sl (l++m))) (h.set b .gone):=fun o c ac h1 h2 h3 h4=>by
 have Bj:=ix cD;have ho:=E8 (h:=h) hE hx pD fQ jd dh (fun k e=>by rw[ea]at e;cases e) cd hz Bj (Nat.le_of_ble_eq_true jc) hy hm (fun c v hv=>by cases hv with|d _ _ hv=>exact BS Bj hm hv) ha (r := .own b (g+1)) (h':=h.set b (.arr (g+1) ts (l++m))) (.inl ⟨b,g,ts,l,rfl,hb,vV,oC,lp,rfl,rfl⟩);obtain⟨c1,v,k1,k2,k3,k4,k5⟩:=ho o c ac h1 h2 h3 h4;have eD:b<h.length:=a7 hb;have iO:c1.heap[b]?=some (.arr (g+1) ts (l++m)):=by rw[k2,List.getElem?_set_self eD]
 obtain⟨c2,j1,j2,j3,j4,j5⟩:=k3.rest iO;exact⟨c2,v,by rw[j2];exact k1,by rw[j1,k2,List.set_set],j3,j5 v k4,k5.trans j4⟩
theorem aS.QH(hE:E.OK){ae:FuncId}{R:bZ}{ops:Array Oper}{td:List aI}{F:List Nat}{nn:Nat}{B:List Nat}{X:List af}{lits:List Nat}{j:Nat}{o:Oper}{r:List Oper}{args:Array Operand}{kF:Array TypeId}{x y:Operand}{t0 t1 e e1 b g:Nat}{i0 i1 ei:bD}{ts:Nat × Nat}{l m:List DV}(hF:bW j F=false)(hg:o.guard=none)
  (bX:o.op=.call { callee := .builtin .append,args:=args,argTypes:=kF }) (hx:args.toList=[x,y]) (pD:kF.toList=[t0,t1]) (fQ:E.T[t0]?=some i0) (jd:E.T[t1]?=some i1) (dh:i0.k=.slice e) (ea:i1.k=.slice e1) (cd:E.T[e]?=some ei)
  (hz:ei.zero.length=ei.size) (cD:Nat.blt 0 ei.size=true) (jc:Nat.ble ei.bytes 65536=true) (vV:ts.1=e) (oC:ts.2=ei.size) (ha:bh E.G (bY (ca ops o) 0 s) x (.own b g)) (hy:bh E.G (bY (ca ops o) 0 s) y (.d (.sl m))) (hb:h[b]?=some (.arr g ts l)) (hm:∀ e∈m,e.cells.length=ei.size) (lp:l.length+m.length<=2147483648)
  (H:fI h b .gone fun h'=>cS nn B 0 h'=X/\bL s o.dst (.d (.sl (l++m))) fun s'=>aS E ae R ops td F nn B X lits (j+1) r s' h'):aS E ae R ops td F nn B X lits j (o::r) s h:=by
 rw[gJ,df]at H;obtain⟨H1,H⟩:=H;unfold aS;unfold fM;rw[hF];exact⟨_,_,dm.of (eK hg) (bX ▸ aas hE hx pD fQ jd dh ea cd hz cD jc vV oC ha hy hb hm lp),fun t e=>(by rw[bX]at e;cases e),H1,H.to⟩
end
end Go.aA
end
section
namespace Go.Proofs.YtcmnpelmmekdkaaGreatDoor.P
open Go Go.aA Go.Sort Go.RowKit
theorem abc{bad:Nat->Prop}{w:World}{k:IntKind}{n:Int}{v:Value}(h:VD bad w (.int k n) v):v=.int k n:=by cases h;rfl
def jQ(l:List Int):List Int:=l.mergeSort fun x y=>decide (x<=y)
theorem Em(l:List Int):(jQ l).Perm l:=List.mergeSort_perm ..
theorem acb(l:List Int):(jQ l).Pairwise (· <= ·):=by
 have:=List.pairwise_mergeSort (le:=fun x y=>decide (x<=y)) (by intro a b c;simp;omega) (by intro a b;simp;omega) l;exact this.imp fun{a b} h=>by simpa using h
def RF(P:Program)(f:Nat):Prop:=∀ (blk cap:Nat) (zs:List Int) (w:World),Holds (Value.int .i64) w blk 0 zs.toArray->blk<w.heap.size->zs.length<4611686018427387904 ->
 Calls P f #[.slice (some ⟨blk,0,none⟩) zs.length cap] w fun e w'=>e=.returned (.tuple #[])/\∃ n os,w'=grow (putRow (Value.int .i64) (Sort.ahead w n) blk 0 (jQ zs).toArray) os
theorem acd{w:World}{blk n:Nat}{d:Array Int}{os:Array Obj}{vs:Array Value}{ty:TypeId}(hb:w.heap[blk]?=some (.cells vs ty (0,0))) :
  let w':=grow (putRow (Value.int .i64) (Sort.ahead w n) blk 0 d) os
  w'.os=w.os/\w'.tape=w.tape/\w'.output=w.output/\w.heap.size<=w'.heap.size/\(∀ b,b<w.heap.size->b≠blk->w'.heap[b]?=w.heap[b]?)/\w'.heap[blk]?=some (.cells (putCells (Value.int .i64) 0 d vs) ty (0,0)):=by
 intro w';have ai:blk<w.heap.size:=by
  rcases Nat.lt_or_ge blk w.heap.size with h|h
  ·exact h
  ·rw[Array.getElem?_eq_none h]at hb;cases hb
 have bT:(putRow (Value.int .i64) (Sort.ahead w n) blk 0 d).heap.size=w.heap.size:=by simp[putRow,mapBlock]
 refine⟨rfl,rfl,rfl,?_,fun b cU aM=>?_,?_⟩
 ·show w.heap.size<=(grow _ os).heap.size;rw[size_grow,bT];omega
 ·show(grow _ os).heap[b]?=_;rw[heap_grow_old _ _ (by rw[bT];exact cU)];simp[putRow,mapBlock,Array.getElem?_modify,Ne.symm aM]
 ·show(grow _ os).heap[blk]?=_;rw[heap_grow_old _ _ (by rw[bT];exact ai)];simp[putRow,mapBlock,Array.getElem?_modify,hb,onCells]
theorem ace{E:Env}{f:FuncId}{t:Nat}(hS:RF E.P f)(gZ:qN E.P f)(l:List Int)(hl:l≠[])(hlen:l.length<4611686018427387904) :
  aB E f [.arr 0 (t,1) (l.map (DV.int .i64))] [.own 0 0] (fun a b=>a=.aK []/\b=[.arr 0 (t,1) ((jQ l).map (DV.int .i64))]):=by
 unfold aB;refine⟨gZ,oK rfl,fun c vs h1 h2 h3=>?_⟩;obtain⟨v1,rfl⟩:∃ v1,vs=[v1]:=by
  have:=h3.1
  match vs,this with
  |[a],_=>exact⟨a,rfl⟩
 have iP:=h3.2 0 _ v1 rfl rfl;have dZ:c.heap[0]?=some (.arr 0 (t,1) (l.map (DV.int .i64))):=by rw[h1];rfl
 rcases nI dZ iP with⟨blk,cap,r1,rfl⟩|⟨sT,-,-⟩
 case inr=>exact absurd (List.map_eq_nil_iff.1 sT) hl
 obtain⟨q0,q1,q2⟩:=h2.box 0 _ dZ;rcases q2 with⟨q2,-⟩|⟨lk,jS,cQ,q2,q3,q4,q5,q6,q7⟩
 ·rw[r1]at q2;cases q2
 rw[r1]at q2;cases q2;simp only at q3 q4 q7;have dQ:∀ (i:Nat) (x:Int),l[i]?=some x->cQ[i]?=some (.int .i64 x):=fun i x hx=>by
  have he:(l.map (DV.int .i64))[i]?=some (DV.int .i64 x):=by simp[hx]
  obtain⟨v,a1,a2,a3⟩:=q7 i 0 (DV.int .i64 x) (.int .i64 x) he rfl;rw[abc a3]at a1
  simpa using a1
 have hH:Holds (Value.int .i64) c.w blk 0 l.toArray:=by
  intro j hj;have dL:j<l.length:=by simpa using hj
  obtain⟨x,hx⟩:∃ x,l[j]?=some x:=⟨l[j]'(by omega),by rw[List.getElem?_eq_getElem]⟩;have dK:l.toArray[j]! = x:=by
   rw[getElem!_pos l.toArray j (by simpa using dL)];have:=List.getElem?_eq_some_iff.1 hx
   simpa using this.2
  refine⟨?_,by simp[World.frozen?,q3]⟩;rw[dK];exact mJ q3 _ _ (by simpa using dQ j x hx)
 have hblk:=(h2.bI 0 blk cap r1).1;have jf:=hS blk cap l c.w hH hblk hlen;have jZ:([Value.slice (some ⟨blk,0,none⟩) (l.map (DV.int .i64)).length cap]:List Value).toArray = #[.slice (some ⟨blk,0,none⟩) l.length cap]:=by simp
 rw[jZ];refine jf.mono fun e w' ⟨he,n,os,hw⟩=>?_;subst he;have fT:(jQ l).length=l.length:=(Em l).length_eq;obtain⟨a1,a2,a3,a4,a5,a6⟩:=acd (n:=n) (d:=(jQ l).toArray) (os:=os) q3;rw[<- hw]at a1 a2 a3 a4 a5 a6
 let c':Cx:={ c with heap:=[.arr 0 (t,1) ((jQ l).map (DV.int .i64))],w:=w' }
 have cj:∀ i bx,c.heap[i]?=some bx->i=0/\bx=.arr 0 (t,1) (l.map (DV.int .i64)):=fun i bx hi=>by
  rw[h1]at hi;cases i with
  |zero=>simp at hi;exact⟨rfl,hi.symm⟩
  |succ i=>simp at hi
 have lu:((jQ l).map (DV.int .i64)).length=(l.map (DV.int .i64)).length:=by simp[fT]
 have aT:Step c c':=⟨rfl,h2.bE,a1,a2,a3,a4,fun b hb hn=>a5 b hb (fun e=>by subst e;exact hn 0 cap r1),fun i b n hi _=>⟨n,hi⟩,fun i bx hi=>by
  obtain⟨rfl,rfl⟩:=cj i bx hi
  exact .inl ⟨0,_,rfl,.inr ⟨rfl,lu,rfl⟩⟩⟩
 have aO:aE E.G c':=h2.next aT (fun i b n hi=>by
   have:=h2.bI i b n hi;refine⟨Nat.lt_of_lt_of_le this.1 a4,?_⟩;have h0:c.heap.length=1:=by rw[h1];rfl
   show i<1;omega) h2.inj (fun i bx hi=>by
  right;cases i with
  |succ i=>simp[c']at hi
  |zero =>
   simp[c']at hi;subst hi;refine⟨q0,fun i e he=>?_,.inr ⟨blk,cap,_,r1,a6,?_,?_,q6,fun i j e x he hx=>?_⟩⟩
   ·simp only[List.getElem?_map]at he;cases hq:(jQ l)[i]? with
    |none=>rw[hq]at he;cases he
    |some y=>rw[hq]at he;cases he;rfl
   ·simp[putCells,q4]
   ·rw[lu];exact q5
   ·simp only[List.getElem?_map]at he;cases hq:(jQ l)[i]? with
    |none=>rw[hq]at he;cases he
    |some y =>
     rw[hq]at he;cases he;have hi:i<l.length:=by have:=a7 hq;omega
     have gK:cQ.size=cap*1:=q4;have ez:(l.map (DV.int .i64)).length=l.length:=by simp
     have tC:l.length<=cap:=by rw[<- ez];exact q5
     have hy:(jQ l).toArray[i]! = y:=by
      rw[getElem!_pos (jQ l).toArray i (by simp;omega)];have:=List.getElem?_eq_some_iff.1 hq
      simpa using this.2
     have at_:(putCells (Value.int .i64) 0 (jQ l).toArray cQ)[i]?=some (.int .i64 y):=by
      have h5:i<cQ.size:=by omega
      simp only[putCells,Array.getElem?_mapIdx,Array.getElem?_eq_getElem h5,Option.map_some];rw[if_pos ⟨Nat.zero_le _,by simp;omega⟩,Nat.sub_zero,hy]
     match j with
     |0 =>
      simp[DV.cells]at hx;subst hx;exact⟨_,by simpa using at_,rfl,.int _ _⟩
     |j+1=>simp[DV.cells]at hx)
 refine⟨c',.aK [],.tuple #[],rfl,rfl,⟨rfl,rfl⟩,.aK [] #[] rfl (fun j x v hx=>by simp at hx),aO,?_⟩
 exact⟨rfl,a1,a2,a3,a4,fun b hb hn=>a5 b hb (fun e=>by subst e;exact hn 0 cap r1),fun i b n hi _=>⟨n,hi⟩,fun i bx hi=>by
  obtain⟨rfl,rfl⟩:=cj i bx hi
  exact .inl ⟨0,_,rfl,.inr ⟨rfl,lu,rfl⟩⟩⟩

end Go.Proofs.YtcmnpelmmekdkaaGreatDoor.P
end
