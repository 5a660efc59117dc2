/- Lemmas of mine. Conditions: as stated. -/
import Derived.Test.YtfmdaiojokniiaaGreatDoorRows
import Derived.WalkKit
import Derived.WalkSpells
import Derived.WalkLawsBesides
import Derived.Deep.QuietTactic
import Derived.BigQuiet
import Derived.Lib.Hide
import Derived.Laws.EntriesVeiled
import Derived.Deep.RegionHeld3
import Derived.Deep.LoopGhost
import Derived.Sort.Grow
import Derived.Laws.Cells
import Derived.Laws.IdiomCopy
import Derived.Great.BuildSlice
set_option linter.unusedVariables false
set_option linter.unusedSimpArgs false
section
namespace Go.Proofs.YtfmdaiojokniiaaGreatDoor
open Go.RowKit
structure Ext(w w':World):Prop where
 os:w'.os=w.os
 tape:w'.tape=w.tape
 output:w'.output=w.output
 size:w.heap.size<=w'.heap.size
 block:∀ k,k<w.heap.size->w'.heap[k]?=w.heap[k]?
theorem Ext.refl(w:World):Ext w w:=⟨rfl,rfl,rfl,Nat.le_refl _,fun _ _=>rfl⟩
theorem Ext.trans{a b c:World}(h:Ext a b)(k:Ext b c):Ext a c :=
 ⟨k.os.trans h.os,k.tape.trans h.tape,k.output.trans h.output,Nat.le_trans h.size k.size,
  fun i hi=>(k.block i (Nat.lt_of_lt_of_le hi h.size)).trans (h.block i hi)⟩
theorem Ext.drew{a w:World}(h:Ext a w):Ext a w.drew:=⟨h.os,h.tape,h.output,h.size,h.block⟩
theorem Ext.drewN{a w:World}(h:Ext a w)(n:Nat):Ext a (w.drewN n):=⟨h.os,h.tape,h.output,h.size,h.block⟩
theorem Ext.alloc{a w:World}(h:Ext a w)(o:Obj):Ext a (w.alloc o) :=
 ⟨h.os,h.tape,h.output,by simp;exact Nat.le_succ_of_le h.size,fun k hk=>by
  rw[Below.heap_alloc w o k (Nat.lt_of_lt_of_le hk h.size)];exact h.block k hk⟩
theorem Ext.setCell{a w:World}(h:Ext a w){p:Addr}(hp:a.heap.size<=p.block)(v:Value):Ext a (w.setCell p v) :=
 ⟨h.os,h.tape,h.output,by simpa [World.setCell]using h.size,fun k hk=>by
  rw[Below.heap_setCell w p v k (by omega)];exact h.block k hk⟩
theorem Ext.below{a w:World}(h:Ext a w):Below a.heap.size a w:=⟨h.os,h.tape,h.output,h.size,h.block⟩
theorem Ext.cells{W w1:World}(h:Ext W w1):(∀ b o,b<W.heap.size->w1.cell? ⟨b,o,none⟩=W.cell? ⟨b,o,none⟩)/\(∀ b o,b<W.heap.size->w1.frozen? ⟨b,o,none⟩=W.frozen? ⟨b,o,none⟩) :=
 ⟨fun b o hb=>h.below.cell (p:=⟨b,o,none⟩) hb,fun b o hb=>h.below.frozen (p:=⟨b,o,none⟩) hb⟩
theorem Ext.keep{W w1:World}(h:Ext W w1){a:Addr}{v:Value}(hc:W.cell? a=some v):w1.cell? a=some v:=by
 rw[h.below.cell (World.block_lt_of_cell? _ _ hc)];exact hc
theorem Ext.PD{a w:World}(h:Below a.heap.size a w):Ext a w:=⟨h.os,h.tape,h.output,h.size,h.block⟩
theorem Ext.grown{a w w':World}{row:Option Nat}(h:Ext a w)(hg:w.grownBy w' row)(hr:∀ k,row=some k->a.heap.size<=k):Ext a w' :=
 Ext.PD (h.below.grown hg h.size hr)
end Go.Proofs.YtfmdaiojokniiaaGreatDoor
end
section
namespace Go.ay
open Go
inductive DV where
 |undef
 |bool (b:Bool)
 |int (k:IntKind) (n:Int)
 |str (s:List UInt8)
 |aH
 |sl (l:List DV)
 |agg (c:List DV)
 |aD (c:List DV)
 |dU|ax|jl|eI
 |fn (f:Fn)
 |raw (v:Value)
def DV.cells:DV->List DV
 | .agg c=>c
 |x=>[x]
inductive AV where
 |any
 |d (x:DV)
 |own (b g:Nat)
 |cut (b g k:Nat) (q:Option Nat)
 |ptr (b off:Nat)
 |cV (b g i off:Nat)
 |bO (e:DV) (off:Nat)
 |map (b:Nat)
 |agg (c:List AV)
 |aD (c:List AV)
 |fn (f:Fn) (first captured:List AV)
def AV.cells:AV->List AV
 | .agg c=>c
 | .d x=>x.cells.map .d
 |x=>[x]
inductive af where
 |cells (c:List AV)
 |arr (g:Nat) (ts:Nat × Nat) (l:List DV)
 |map (es:List (DV × DV))
 |gone
 |hole
inductive VD (bad:Nat->Prop) (w:World):DV->Value->Prop
 |undef:VD bad w .undef Go.undef
 |bool (b:Bool):VD bad w (.bool b) (.bool b)
 |int (k:IntKind) (n:Int):VD bad w (.int k n) (.int k n)
 |str (l:List UInt8):VD bad w (.str l) (.string ⟨l.toArray⟩)
 |aH:VD bad w .aH (.slice none 0 0)
 |slnil:VD bad w (.sl []) (.slice none 0 0)
 |ku (a:Addr):VD bad w (.sl []) (.slice (some a) 0 0)
 |sl (l:List DV) (blk off cap sz:Nat) (f:Nat->Nat->Value) (hb:l≠[]->¬ bad blk) (bP:0<sz) (jm:l.length<=cap)
   (hlen:∀ (i:Nat) (e:DV),l[i]?=some e->e.cells.length=sz)
   (dK:∀ (i j:Nat) (e x:DV),l[i]?=some e->e.cells[j]?=some x->w.cell? ⟨blk,off+(i*sz+j),none⟩=some (f i j))
   (bH:∀ (i j:Nat) (e x:DV),l[i]?=some e->e.cells[j]?=some x->VD bad w x (f i j))
   (bW:∀ (i j:Nat) (e x:DV),l[i]?=some e->e.cells[j]?=some x->(f i j).oneCell'=true) :
   VD bad w (.sl l) (.slice (some ⟨blk,off,none⟩) l.length cap)
 |agg (c:List DV) (vs:Array Value) (hlen:c.length=vs.size) (bH:∀ (j:Nat) (x:DV) (v:Value),c[j]?=some x->vs[j]?=some v->VD bad w x v):VD bad w (.agg c) (.agg vs)
 |aD (c:List DV) (vs:Array Value) (hlen:c.length=vs.size) (bH:∀ (j:Nat) (x:DV) (v:Value),c[j]?=some x->vs[j]?=some v->VD bad w x v):VD bad w (.aD c) (.tuple vs)
 |dU:VD bad w .dU (.pointer none)
 |ax:VD bad w .ax .nilFunc
 |jl:VD bad w .jl (.map none)
 |eI:VD bad w .eI .nilIface
 |fn (f:Fn):VD bad w (.fn f) (.func f #[] #[])
 |raw (v:Value) (h:v.oneCell'=true):VD bad w (.raw v) v
theorem VD.mono{bad vT:Nat->Prop}{w w':World}(h:∀ b,b<w.heap.size->¬ bad b->¬ vT b/\w'.heap[b]?=w.heap[b]?){x:DV}{v:Value}(hv:VD bad w x v):VD vT w' x v:=by
 induction hv with
 |undef=>exact .undef
 |bool b=>exact .bool b
 |int k n=>exact .int k n
 |str l=>exact .str l
 |aH=>exact .aH
 |slnil=>exact .slnil
 |ku a=>exact .ku a
 |sl l blk off cap sz f hb bP jm hlen dK bH bW ih =>
  have key:l≠[]->blk<w.heap.size:=fun aI=>by
   obtain⟨e,r,rfl⟩:=List.exists_cons_of_ne_nil aI;have h1:=hlen 0 e rfl;obtain⟨x,hx⟩:∃ x,e.cells[0]?=some x:=⟨e.cells[0]'(by omega),by simp⟩;exact World.block_lt_of_cell? _ _ (dK 0 0 e x rfl hx)
  refine .sl l blk off cap sz f (fun aI=>(h blk (key aI) (hb aI)).1) bP jm hlen (fun i j e x he hx=>?_) ih bW;have aI:l≠[]:=fun h0=>by subst h0;simp at he
  rw[World.cell?_of_block (h blk (key aI) (hb aI)).2];exact dK i j e x he hx
 |agg c vs hlen bH ih=>exact .agg c vs hlen ih
 |aD c vs hlen bH ih=>exact .aD c vs hlen ih
 |dU=>exact .dU
 |ax=>exact .ax
 |jl=>exact .jl
 |eI=>exact .eI
 |fn f=>exact .fn f
 |raw v h=>exact .raw v h
structure Cx where
 own:Nat->Option (Nat × Nat)
 heap:List af
 az:Nat->Prop
 w:World
def Cx.bad(c:Cx)(b:Nat):Prop:=c.az b\/∃ i n,c.own i=some (b,n)
inductive VR (c:Cx):AV->Value->Prop
 |any (v:Value):VR c .any v
 |d (x:DV) (v:Value) (h:VD c.bad c.w x v):VR c (.d x) v
 |own (b g:Nat) (sz:Nat × Nat) (l:List DV) (blk cap:Nat) (hb:c.heap[b]?=some (.arr g sz l)) (ho:c.own b=some (blk,cap)):VR c (.own b g) (.slice (some ⟨blk,0,none⟩) l.length cap)
 |iu (b g:Nat) (sz:Nat × Nat) (hb:c.heap[b]?=some (.arr g sz [])) (ho:c.own b=none):VR c (.own b g) (.slice none 0 0)
 |kv (b g g':Nat) (sz:Nat × Nat) (l:List DV) (v:Value) (hb:c.heap[b]?=some (.arr g' sz l)) (hg:g<g') (hv:v.oneCell'=true):VR c (.own b g) v
 |jE (b g:Nat) (v:Value) (hb:c.heap[b]?=some .gone) (hv:v.oneCell'=true):VR c (.own b g) v
 |mM (b g:Nat) (cs:List AV) (blk cap n:Nat) (hb:c.heap[b]?=some (.cells cs)) (ho:c.own b=some (blk,cap)) (hn:cs.length=n):VR c (.own b g) (.slice (some ⟨blk,0,none⟩) n n)
 |cut (b g k:Nat) (q:Option Nat) (sz:Nat × Nat) (l:List DV) (blk cap o:Nat) (hb:c.heap[b]?=some (.arr g sz l)) (ho:c.own b=some (blk,cap)) (hk:k<=l.length) (AX:k<cap->o=k*sz.2) (hq:∀ n,q=some n->n=cap):VR c (.cut b g k q) (.slice (some ⟨blk,o,none⟩) (l.length-k) (cap-k))
 |nI (b g g' k:Nat) (q:Option Nat) (sz:Nat × Nat) (l:List DV) (v:Value) (hb:c.heap[b]?=some (.arr g' sz l)) (hg:g<g') (hv:v.oneCell'=true):VR c (.cut b g k q) v
 |nJ (b g k:Nat) (q:Option Nat) (v:Value) (hb:c.heap[b]?=some .gone) (hv:v.oneCell'=true):VR c (.cut b g k q) v
 |ptr (b off:Nat) (cs:List AV) (blk cap:Nat) (hb:c.heap[b]?=some (.cells cs)) (ho:c.own b=some (blk,cap)):VR c (.ptr b off) (.pointer (some ⟨blk,off,none⟩))
 |iv (b off:Nat) (v:Value) (hb:c.heap[b]?=some .gone) (hv:v.oneCell'=true):VR c (.ptr b off) v
 |cV (b g i off:Nat) (sz:Nat × Nat) (l:List DV) (blk cap:Nat) (hb:c.heap[b]?=some (.arr g sz l)) (ho:c.own b=some (blk,cap)) (hi:i<l.length):VR c (.cV b g i off) (.pointer (some ⟨blk,i*sz.2+off,none⟩))
 |lW (b g g' i off:Nat) (sz:Nat × Nat) (l:List DV) (v:Value) (hb:c.heap[b]?=some (.arr g' sz l)) (hg:g<g') (hv:v.oneCell'=true):VR c (.cV b g i off) v
 |lX (b g i off:Nat) (v:Value) (hb:c.heap[b]?=some .gone) (hv:v.oneCell'=true):VR c (.cV b g i off) v
 |bO (e:DV) (off blk o:Nat) (f:Nat->Value) (hb:¬ c.bad blk) (aI:e.cells≠[])
   (dK:∀ (j:Nat) (x:DV),e.cells[j]?=some x->c.w.cell? ⟨blk,o+j,none⟩=some (f j)) (bH:∀ (j:Nat) (x:DV),e.cells[j]?=some x->VD c.bad c.w x (f j)) :
   VR c (.bO e off) (.pointer (some ⟨blk,o+off,none⟩))
 |map (b:Nat) (es:List (DV × DV)) (blk cap:Nat) (hb:c.heap[b]?=some (.map es)) (ho:c.own b=some (blk,cap)):VR c (.map b) (.map (some blk))
 |nK (b:Nat) (v:Value) (hb:c.heap[b]?=some .gone) (hv:v.oneCell'=true):VR c (.map b) v
 |agg (a:List AV) (vs:Array Value) (hlen:a.length=vs.size) (bH:∀ (j:Nat) (x:AV) (v:Value),a[j]?=some x->vs[j]?=some v->VR c x v):VR c (.agg a) (.agg vs)
 |aD (a:List AV) (vs:Array Value) (hlen:a.length=vs.size) (bH:∀ (j:Nat) (x:AV) (v:Value),a[j]?=some x->vs[j]?=some v->VR c x v):VR c (.aD a) (.tuple vs)
 |fn (f:Fn) (a1 a2:List AV) (v1 v2:Array Value) (rP:a1.length=v1.size) (oE:a2.length=v2.size)
   (h1:∀ (j:Nat) (x:AV) (v:Value),a1[j]?=some x->v1[j]?=some v->VR c x v)
   (h2:∀ (j:Nat) (x:AV) (v:Value),a2[j]?=some x->v2[j]?=some v->VR c x v):VR c (.fn f a1 a2) (.func f v1 v2)
def tG(c c':Cx)(i:Nat):af->Prop
 | .cells cs=>(∃ cs',c'.heap[i]?=some (.cells cs')/\c'.own i=c.own i/\cs'.length=cs.length)\/c'.heap[i]?=some .gone
 | .arr g sz l=>(∃ g' l',c'.heap[i]?=some (.arr g' sz l')/\(g<g'\/g'=g/\l'.length=l.length/\c'.own i=c.own i))\/c'.heap[i]?=some .gone
 | .map _=>(∃ dV,c'.heap[i]?=some (.map dV)/\c'.own i=c.own i)\/c'.heap[i]?=some .gone
 | .gone=>c'.heap[i]?=some .gone
 | .hole=>∃ b,c'.heap[i]?=some b
theorem tG.ex{c c':Cx}{i:Nat}{b:af}(h:tG c c' i b):∃ b',c'.heap[i]?=some b':=by
 cases b with
 |cells cs=>rcases h with⟨_,h,_⟩|h<;>exact⟨_,h⟩
 |arr g ts l=>rcases h with⟨_,_,h,_⟩|h<;>exact⟨_,h⟩
 |map es=>rcases h with⟨_,h,_⟩|h<;>exact⟨_,h⟩
 |gone=>exact⟨_,h⟩
 |hole=>exact h
structure Step(c c':Cx):Prop where
 az:c'.az=c.az
 bQ:∀ b,c.az b->b<c.w.heap.size
 os:c'.w.os=c.w.os
 tape:c'.w.tape=c.w.tape
 output:c'.w.output=c.w.output
 size:c.w.heap.size<=c'.w.heap.size
 keep:∀ b,b<c.w.heap.size->(∀ i n,c.own i≠some (b,n))->c'.w.heap[b]?=c.w.heap[b]?
 dy:∀ i b n,c'.own i=some (b,n)->b<c.w.heap.size->∃ m,c.own i=some (b,m)
 boxes:∀ i bx,c.heap[i]?=some bx->tG c c' i bx
theorem Step.refl(c:Cx)(hb:∀ b,c.az b->b<c.w.heap.size):Step c c :=
 ⟨rfl,hb,rfl,rfl,rfl,Nat.le_refl _,fun _ _ _=>rfl,fun i b n h _=>⟨n,h⟩,fun i bx h=>by
  cases bx with
  |cells cs=>exact .inl ⟨cs,h,rfl,rfl⟩
  |arr g sz l=>exact .inl ⟨g,l,h,.inr ⟨rfl,rfl,rfl⟩⟩
  |map es=>exact .inl ⟨es,h,rfl⟩
  |gone=>exact h
  |hole=>exact⟨_,h⟩⟩
theorem Step.trans{a b c:Cx}(h:Step a b)(k:Step b c):Step a c where
 az:=k.az.trans h.az
 bQ:=h.bQ
 os:=k.os.trans h.os
 tape:=k.tape.trans h.tape
 output:=k.output.trans h.output
 size:=Nat.le_trans h.size k.size
 keep:=fun x hx hn=>by
  rw[k.keep x (Nat.lt_of_lt_of_le hx h.size) (fun i n hi=>by obtain⟨m,hj⟩:=h.dy i x n hi hx;exact hn i m hj)];exact h.keep x hx hn
 dy:=fun i x n hi hx=>by
  obtain⟨m,hj⟩:=k.dy i x n hi (Nat.lt_of_lt_of_le hx h.size);exact h.dy i x m hj hx
 boxes:=fun i bx hi=>by
  have h1:=h.boxes i bx hi;cases bx with
  |cells cs =>
   rcases h1 with⟨cs',h1,h2,h3⟩|h1
   ·rcases k.boxes i _ h1 with⟨DB,k1,k2,k3⟩|k1
    ·exact .inl ⟨DB,k1,k2.trans h2,k3.trans h3⟩
    ·exact .inr k1
   ·exact .inr (k.boxes i _ h1)
  |arr g sz l =>
   rcases h1 with⟨g',l',h1,h2⟩|h1
   ·rcases k.boxes i _ h1 with⟨DD,DE,k1,k2⟩|k1
    ·refine .inl ⟨DD,DE,k1,?_⟩;rcases h2 with h2|⟨h2,h3,h4⟩<;>rcases k2 with k2|⟨k2,k3,k4⟩
     ·left;omega
     ·left;omega
     ·left;omega
     ·exact .inr ⟨k2.trans h2,k3.trans h3,k4.trans h4⟩
    ·exact .inr k1
   ·exact .inr (k.boxes i _ h1)
  |map es =>
   rcases h1 with⟨dV,h1,h2⟩|h1
   ·rcases k.boxes i _ h1 with⟨DF,k1,k2⟩|k1
    ·exact .inl ⟨DF,k1,k2.trans h2⟩
    ·exact .inr k1
   ·exact .inr (k.boxes i _ h1)
  |gone=>exact k.boxes i _ h1
  |hole=>obtain⟨b,h1⟩:=h1;exact(k.boxes i b h1).ex
theorem Step.yc{c c':Cx}(h:Step c c')(b:Nat)(hb:b<c.w.heap.size)(hn:¬ c.bad b):¬ c'.bad b/\c'.w.heap[b]?=c.w.heap[b]? := by
 have h0:∀ i n,c.own i≠some (b,n):=fun i n hi=>hn (.inr ⟨i,n,hi⟩);refine⟨?_,h.keep b hb h0⟩;rintro(h1|⟨i,n,h1⟩)
 ·exact hn (.inl (by rw[<- h.az];exact h1))
 ·obtain⟨m,hj⟩:=h.dy i b n h1 hb;exact h0 i m hj
theorem Step.vd{c c':Cx}(h:Step c c'){x:DV}{v:Value}(hv:VD c.bad c.w x v):VD c'.bad c'.w x v:=hv.mono h.yc
theorem rQ{c c':Cx}(oF:∀ b,b<c.w.heap.size->¬ c.bad b->¬ c'.bad b/\c'.w.heap[b]?=c.w.heap[b]?)(dq:∀ i bx,c.heap[i]?=some bx->tG c c' i bx){x:AV}{v:Value}(hv:VR c x v):VR c' x v:=by
 induction hv with
 |any v=>exact .any v
 |d x v hx=>exact .d x v (hx.mono oF)
 |own b g sz l blk cap hb ho =>
  rcases dq b _ hb with⟨g',l',h1,h2|⟨rfl,h3,h4⟩⟩|h1
  ·exact .kv b g g' sz l' _ h1 h2 rfl
  ·rw[<- h3];exact .own b g' sz l' blk cap h1 (h4.trans ho)
  ·exact .jE b g _ h1 rfl
 |iu b g sz hb ho =>
  rcases dq b _ hb with⟨g',l',h1,h2|⟨rfl,h3,h4⟩⟩|h1
  ·exact .kv b g g' sz l' _ h1 h2 rfl
  ·obtain rfl:l'=[]:=List.eq_nil_of_length_eq_zero (by simpa using h3);exact .iu b g' sz h1 (h4.trans ho)
  ·exact .jE b g _ h1 rfl
 |kv b g g1 sz l v hb hg hv =>
  rcases dq b _ hb with⟨g',l',h1,h2|⟨rfl,h3,h4⟩⟩|h1
  ·exact .kv b g g' sz l' _ h1 (by omega) hv
  ·exact .kv b g g' sz l' _ h1 hg hv
  ·exact .jE b g _ h1 hv
 |jE b g v hb hv=>exact .jE b g v (dq b _ hb) hv
 |mM b g cs blk cap n hb ho hn =>
  rcases dq b _ hb with⟨cs',h1,h2,h3⟩|h1
  ·exact .mM b g cs' blk cap n h1 (h2.trans ho) (h3.trans hn)
  ·exact .jE b g _ h1 rfl
 |cut b g k q sz l blk cap o hb ho hk AX hq =>
  rcases dq b _ hb with⟨g',l',h1,h2|⟨rfl,h3,h4⟩⟩|h1
  ·exact .nI b g g' k q sz l' _ h1 h2 rfl
  ·rw[<- h3];exact .cut b g' k q sz l' blk cap o h1 (h4.trans ho) (by omega) AX hq
  ·exact .nJ b g k q _ h1 rfl
 |nI b g g1 k q sz l v hb hg hv =>
  rcases dq b _ hb with⟨g',l',h1,h2|⟨rfl,h3,h4⟩⟩|h1
  ·exact .nI b g g' k q sz l' _ h1 (by omega) hv
  ·exact .nI b g g' k q sz l' _ h1 hg hv
  ·exact .nJ b g k q _ h1 hv
 |nJ b g k q v hb hv=>exact .nJ b g k q v (dq b _ hb) hv
 |ptr b off cs blk cap hb ho =>
  rcases dq b _ hb with⟨cs',h1,h2,h3⟩|h1
  ·exact .ptr b off cs' blk cap h1 (h2.trans ho)
  ·exact .iv b off _ h1 rfl
 |iv b off v hb hv=>exact .iv b off v (dq b _ hb) hv
 |cV b g i off sz l blk cap hb ho hi =>
  rcases dq b _ hb with⟨g',l',h1,h2|⟨rfl,h3,h4⟩⟩|h1
  ·exact .lW b g g' i off sz l' _ h1 h2 rfl
  ·exact .cV b g' i off sz l' blk cap h1 (h4.trans ho) (by omega)
  ·exact .lX b g i off _ h1 rfl
 |lW b g g1 i off sz l v hb hg hv =>
  rcases dq b _ hb with⟨g',l',h1,h2|⟨rfl,h3,h4⟩⟩|h1
  ·exact .lW b g g' i off sz l' _ h1 (by omega) hv
  ·exact .lW b g g' i off sz l' _ h1 hg hv
  ·exact .lX b g i off _ h1 hv
 |lX b g i off v hb hv=>exact .lX b g i off v (dq b _ hb) hv
 |bO e off blk o f hb aI dK bH =>
  have ah:blk<c.w.heap.size:=by
   obtain⟨x,r,hx⟩:=List.exists_cons_of_ne_nil aI;exact World.block_lt_of_cell? _ _ (dK 0 x (by rw[hx];rfl))
  have hk:=oF blk ah hb;exact .bO e off blk o f hk.1 aI (fun j x hx=>by rw[World.cell?_of_block hk.2];exact dK j x hx) (fun j x hx=>(bH j x hx).mono oF)
 |map b es blk cap hb ho =>
  rcases dq b _ hb with⟨dV,h1,h2⟩|h1
  ·exact .map b dV blk cap h1 (h2.trans ho)
  ·exact .nK b _ h1 rfl
 |nK b v hb hv=>exact .nK b v (dq b _ hb) hv
 |agg a vs hlen bH ih=>exact .agg a vs hlen ih
 |aD a vs hlen bH ih=>exact .aD a vs hlen ih
 |fn f a1 a2 v1 v2 rP oE h1 h2 PE PF=>exact .fn f a1 a2 v1 v2 rP oE PE PF
theorem Step.vr{c c':Cx}(h:Step c c'){x:AV}{v:Value}(hv:VR c x v):VR c' x v:=rQ h.yc h.boxes hv
end Go.ay
end
section
namespace Go.ay
open Go
universe u
inductive TK where
 |bool|int (k:IntKind)|string|pointer (e:Nat)|slice (e:Nat)|array (n e:Nat)|map (k e:Nat)|struct (fs:List (Nat × Nat))|func|iface|other
def tk:TypeDesc->TK
 | .bool => .bool
 | .int k => .int k
 | .string => .string
 | .pointer e => .pointer e
 | .slice e => .slice e
 | .array n e => .array n e
 | .map k e => .map k e
 | .struct fs => .struct (fs.toList.map fun f=>(f.offset,f.type))
 | .func _ _ _ => .func
 | .interface _ => .iface
 |_ => .other
def tH:Value->Option DV
 | .bool b=>some (.bool b)
 | .int k n=>some (.int k n)
 | .string s=>some (.str s.data.toList)
 | .slice none 0 0=>some .aH
 | .pointer none=>some .dU
 | .nilFunc=>some .ax
 | .map none=>some .jl
 | .nilIface=>some .eI
 |_=>none
theorem Ir{bad:Nat->Prop}{w:World}{v:Value}{x:DV}(h:tH v=some x):VD bad w x v:=by
 unfold tH at h;split at h<;>first|(cases h;constructor)|cases h
def TK.agg:TK->Bool
 | .struct _=>true
 | .array _ _=>true
 |_=>false
structure br where
 k:TK
 size:Nat
 bytes:Nat
 zero:List DV
def yd:List (Option DV)->Option (List DV)
 |[]=>some []
 |none::_=>none
 |some x::l=>(yd l).map (x :: ·)
def vU(z:Option Value):List DV:=(z.bind fun v=>yd (v.cells.toList.map tH)).getD []
def eU(P:Program)(t:Nat):Option br :=
 match P.info? t,P.underlying t with
 |some i,some d=>some ⟨tk d,i.size,i.bytes,vU i.zero⟩
 |_,_=>none
structure Env where
 P:Program
 T:List br
 G:List (Nat × DV)
 Q:List Nat
def AY(P:Program)(t:Nat):Bool := !P.stoodInHeld t && !P.eqGuardType P.depth t&&(match P.underlying t with
 |some (.struct fs) => fs.toList.all fun f => f.name != "_"
 |_=>false)
structure Env.OK(E:Env):Prop where
 types:∀ (t:Nat) (i:br),E.T[t]?=some i->eU E.P t=some i
 eqs:∀ t∈E.Q,AY E.P t=true
section DG
variable {α:Sort u} {β:Type}
def fz:List β->Nat->β->(List β->α)->α
 |[],_,_,k=>k []
 |_::l,0,v,k=>k (v::l)
 |a::l,i+1,v,k=>fz l i v fun l'=>k (a::l')
theorem gq(l:List β)(i:Nat)(v:β)(k:List β->α):fz l i v k=k (l.set i v):=by
 induction l generalizing i k with
 |nil=>rfl
 |cons a l ih=>cases i with
  |zero=>rfl
  |succ i=>simp only[fz,ih,List.set_cons_succ]
def aT:List β->Nat->(no:α)->(β->α)->α
 |[],_,no,_=>no
 |a::_,0,_,k=>k a
 |_::l,i+1,no,k=>aT l i no k
theorem AZ{l:List β}{i:Nat}{x:β}(h:l[i]?=some x)(no:α)(k:β->α):aT l i no k=k x:=by
 induction l generalizing i with
 |nil=>simp at h
 |cons a l ih=>cases i with
  |zero=>simp at h;subst h;rfl
  |succ i=>exact ih (by simpa using h)
theorem Is{l:List β}{i:Nat}(h:l[i]?=none)(no:α)(k:β->α):aT l i no k=no:=by
 induction l generalizing i with
 |nil=>rfl
 |cons a l ih=>cases i with
  |zero=>simp at h
  |succ i=>exact ih (by simpa using h)
def vV:Nat->List β->(List β->α)->α
 |0,_,k=>k []
 |_+1,[],k=>k []
 |n+1,a::l,k=>vV n l fun l'=>k (a::l')
theorem It(n:Nat)(l:List β)(k:List β->α):vV n l k=k (l.take n):=by
 induction n generalizing l k with
 |zero=>simp[vV]
 |succ n ih=>cases l with
  |nil=>simp[vV]
  |cons a l=>simp[vV,ih]
def tI:Nat->List β->(List β->α)->α
 |0,l,k=>k l
 |_+1,[],k=>k []
 |n+1,_::l,k=>tI n l k
theorem DH(n:Nat)(l:List β)(k:List β->α):tI n l k=k (l.drop n):=by
 induction n generalizing l with
 |zero=>simp[tI]
 |succ n ih=>cases l with
  |nil=>simp[tI]
  |cons a l=>simp[tI,ih]
def nL:List β->β->Nat->(List β->Nat->α)->α
 |[],v,n,k=>k [v] n
 |a::l,v,n,k=>nL l v (n+1) fun l' m=>k (a::l') m
theorem rR(l:List β)(v:β)(n:Nat)(k:List β->Nat->α):nL l v n k=k (l++[v]) (n+l.length):=by
 induction l generalizing n k with
 |nil=>rfl
 |cons a l ih=>simp only[nL,ih,List.cons_append,List.length_cons,Nat.add_assoc,Nat.add_comm 1]
def vW:List β->Nat->List β->(List β->α)->α
 |c,_,[],k=>k c
 |c,off,v::l,k=>fz c off v fun c'=>vW c' (off+1) l k
def du:List β->Nat->List β->List β
 |c,_,[]=>c
 |c,off,v::l=>du (c.set off v) (off+1) l
theorem DI(c:List β)(off:Nat)(l:List β)(k:List β->α):vW c off l k=k (du c off l):=by
 induction l generalizing c off with
 |nil=>rfl
 |cons v l ih=>simp only[vW,gq,ih,du]
def oG{γ:Type}(f:β->γ):List β->(List γ->α)->α
 |[],k=>k []
 |a::l,k=>oG f l fun l'=>k (f a::l')
theorem tJ{γ:Type}(f:β->γ)(l:List β)(k:List γ->α):oG f l k=k (l.map f):=by
 induction l generalizing k with
 |nil=>rfl
 |cons a l ih=>simp only[oG,ih,List.map_cons]
end DG
section ops
variable {α:Sort u}
def qd:List AV->(no:α)->(List DV->α)->α
 |[],_,k=>k []
 | .d x::l,no,k=>qd l no fun l'=>k (x::l')
 |_::_,no,_=>no
theorem ye(l:List AV)(no:α)(k:List DV->α):(∃ l',l=l'.map .d/\qd l no k=k l')\/qd l no k=no:=by
 induction l generalizing k with
 |nil=>exact .inl ⟨[],rfl,rfl⟩
 |cons a l ih =>
  cases a
  case d x =>
   rcases ih (fun l'=>k (x::l'))with⟨l',h1,h2⟩|h
   ·exact .inl ⟨x::l',by rw[h1];rfl,h2⟩
   ·exact .inr h
  all_goals exact .inr rfl
def vX(l:List AV)(k:AV->α):α:=qd l (k (.agg l)) fun l'=>k (.d (.agg l'))
def Iu(v:Value)(stop:α)(k:AV->α):α :=
 match v with
 | .bool b=>k (.d (.bool b))
 | .int j n=>k (.d (.int j n))
 | .string s=>k (.d (.str s.data.toList))
 | .slice none 0 0=>k (.d .aH)
 | .pointer none=>k (.d .dU)
 | .nilFunc=>k (.d .ax)
 | .map none=>k (.d .jl)
 | .nilIface=>k (.d .eI)
 |_=>stop
def A0:List (Nat × DV)->Nat->(stop:α)->(AV->α)->α
 |[],_,stop,_=>stop
 |(g,e)::l,i,stop,k=>match Nat.beq g i with
  |true=>k (.bO e 0)
  |false=>A0 l i stop k
def ca(G:List (Nat × DV))(s:List AV)(x:Operand)(stop:α)(k:AV->α):α :=
 match x with
 | .tmp t=>aT s t stop k
 | .const v=>Iu v stop k
 | .global g=>A0 G g stop k
 | .func f=>k (.fn (.func f) [] [])
def tK(G:List (Nat × DV))(s:List AV):List Operand->(stop:α)->(List AV->α)->α
 |[],_,k=>k []
 |x::l,stop,k=>ca G s x stop fun v=>tK G s l stop fun l'=>k (v::l')
def DV.fa:DV->Bool
 | .agg _=>false
 | .aD _=>false
 | .undef=>false
 |_=>true
def AV.fa:AV->Bool
 | .agg _=>false
 | .aD _=>false
 | .any=>false
 | .d x=>x.fa
 |_=>true
def vY(v:AV)(stop:α)(k:List AV->α):α :=
 match v with
 | .agg c=>k c
 | .d (.agg c)=>oG .d c k
 |v=>match v.fa with
  |true=>k [v]
  |false=>stop
def lh(i:br)(c:List AV)(off:Nat)(stop:α)(k:AV->α):α :=
 match i.k.agg with
 |true=>tI off c fun c1=>vV i.size c1 fun c2=>match Nat.beq c2.length i.size with
  |true=>vX c2 k
  |false=>stop
 |false=>aT c off stop k
def DJ(i:br)(h:List af)(a:AV)(stop:α)(k:AV->α):α :=
 match a with
 | .ptr b off=>aT h b stop fun
  | .cells c=>lh i c off stop k
  |_=>stop
 | .bO e off=>match e with
  | .agg c=>oG .d c fun c'=>lh i c' off stop k
  |x=>lh i [.d x] off stop k
 |_=>stop
def DK(i:br)(h:List af)(a v:AV)(stop:α)(k:List af->α):α :=
 match a with
 | .ptr b off=>aT h b stop fun
  | .cells c=>vY v stop fun vs=>match Nat.beq vs.length i.size,Nat.ble (off+vs.length) c.length,vs.all AV.fa with
   |true,true,true=>vW c off vs fun c'=>fz h b (.cells c') k
   |_,_,_=>stop
  |_=>stop
 |_=>stop
def DL(op:BinOp)(j:IntKind)(a b:Int)(stop:α)(k:AV->α):α :=
 match op with
 | .add=>k (.d (.int j (j.wrap (a+b))))
 | .sub=>k (.d (.int j (j.wrap (a-b))))
 | .mul=>k (.d (.int j (j.wrap (a*b))))
 | .eql=>k (.d (.bool (a==b)))
 | .neq=>k (.d (.bool (a != b)))
 | .lss=>k (.d (.bool (decide (a<b))))
 | .leq=>k (.d (.bool (decide (a<=b))))
 | .gtr=>k (.d (.bool (decide (a>b))))
 | .geq=>k (.d (.bool (decide (a>=b))))
 |_=>stop
def DM(op:BinOp)(a b:List UInt8)(stop:α)(k:AV->α):α :=
 match op with
 | .eql=>k (.d (.bool (a==b)))
 | .neq=>k (.d (.bool (!(a==b))))
 | .lss=>k (.d (.bool (Op.bytesLess a b)))
 | .leq=>k (.d (.bool (Op.bytesLess a b||a==b)))
 | .gtr=>k (.d (.bool (!(Op.bytesLess a b||a==b))))
 | .geq=>k (.d (.bool (!(Op.bytesLess a b))))
 |_=>stop
def IntKind.same:IntKind->IntKind->Bool
 | .i8,.i8 | .i16,.i16 | .i32,.i32 | .i64,.i64 | .u8,.u8 | .u16,.u16 | .u32,.u32 | .u64,.u64=>true
 |_,_=>false
def DN(i:br)(op:BinOp)(x y:AV)(stop:α)(k:AV->α):α :=
 match x,y with
 | .d (.int j a),.d (.int j' b)=>match IntKind.same j j' with
  |true=>DL op j a b stop k
  |false=>stop
 | .d (.str a),.d (.str b)=>DM op a b stop k
 | .d (.bool a),.d (.bool b)=>match i.k,op with
  | .bool,.eql=>k (.d (.bool (a==b)))
  | .bool,.neq=>k (.d (.bool (!(a==b))))
  |_,_=>stop
 |_,_=>stop
def A2(op:BinOp)(j:IntKind)(a:Int)(y:Operand)(stop:α)(k:AV->α):α :=
 match y with
 | .const (.int j' (.ofNat (m+1)))=>match op with
  | .quo=>match IntKind.same j j' with
   |true=>k (.d (.int j (j.wrap (a.tdiv (.ofNat (m+1))))))
   |false=>stop
  | .rem=>match IntKind.same j j' with
   |true=>k (.d (.int j (a.tmod (.ofNat (m+1)))))
   |false=>stop
  |_=>stop
 |_=>stop
def A3(i:br)(f:Nat)(stop:α)(k:Nat->Nat->α):α :=
 match i.k with
 | .struct fs=>aT fs f stop fun p=>k p.1 p.2
 |_=>stop
def vZ(pl:Nat->Option (Nat × Nat)):List (Nat × AV)->List AV->(stop:α)->(List AV->α)->α
 |[],c,_,k=>k c
 |(f,v)::r,c,stop,k =>
  match pl f with
  |none=>stop
  |some p=>vY v stop fun vs=>match Nat.beq vs.length p.2,Nat.ble (p.1+vs.length) c.length with
   |true,true=>vW c p.1 vs fun c'=>vZ pl r c' stop k
   |_,_=>stop
def A4(T:List br):List (Nat × Nat)->(stop:α)->(List (Nat × Nat)->α)->α
 |[],_,k=>k []
 |(o,t)::l,stop,k=>aT T t stop fun i=>A4 T l stop fun l'=>k ((o,i.size)::l')
def dI{β:Type}:List β->Nat->Option β
 |[],_=>none
 |a::_,0=>some a
 |_::l,i+1=>dI l i
def oH(sz:Nat):List (Nat × AV)->List DV->(stop:α)->(List DV->α)->α
 |[],c,_,k=>k c
 |(f,.d x)::r,c,stop,k=>match x with
  | .agg l=>match Nat.beq l.length sz,l.all DV.fa,Nat.blt f c.length with
   |true,true,true=>fz c f (.agg l) fun c'=>oH sz r c' stop k
   |_,_,_=>stop
  |x=>match Nat.beq 1 sz,x.fa,Nat.blt f c.length with
   |true,true,true=>fz c f x fun c'=>oH sz r c' stop k
   |_,_,_=>stop
 |_::_,_,stop,_=>stop
def tL:Nat->DV->(List DV->α)->α
 |0,_,k=>k []
 |n+1,x,k=>tL n x fun l=>k (x::l)
def tM(G:List (Nat × DV))(s:List AV):List (Nat × Operand)->(stop:α)->(List (Nat × AV)->α)->α
 |[],_,k=>k []
 |(i,x)::l,stop,k=>ca G s x stop fun v=>tM G s l stop fun l'=>k ((i,v)::l')
def jF(T:List br)(G:List (Nat × DV))(o:Op)(s:List AV)(h:List af)(stop:α)(k:AV->List af->α):α :=
 match o with
 | .move x=>ca G s x stop fun v=>k v h
 | .assign x=>ca G s x stop fun v=>k v h
 | .box _ x=>ca G s x stop fun v=>vY v stop fun c=>nL h (.cells c) 0 fun h' n=>k (.ptr n 0) h'
 | .alloc t=>aT T t stop fun i=>match Nat.beq i.zero.length i.size,Nat.blt 0 i.size with
  |true,true=>oG .d i.zero fun c=>nL h (.cells c) 0 fun h' n=>k (.ptr n 0) h'
  |_,_=>stop
 | .load t x=>aT T t stop fun i=>ca G s x stop fun a=>DJ i h a stop fun v=>k v h
 | .store t x y=>aT T t stop fun i=>ca G s x stop fun a=>ca G s y stop fun v=>DK i h a v stop fun h'=>k (.d .undef) h'
 | .fieldAddr t x f=>aT T t stop fun i=>A3 i f stop fun o ft=>aT T ft stop fun fi=>match Nat.blt 0 fi.size with
  |false=>stop
  |true=>ca G s x stop fun
   | .ptr b off=>aT h b stop fun
    | .cells _=>k (.ptr b (off+o)) h
    |_=>stop
   | .bO e off=>k (.bO e (off+o)) h
   | .cV b g i off=>aT h b stop fun
    | .arr g' _ _=>match Nat.beq g g' with
     |true=>k (.cV b g i (off+o)) h
     |false=>stop
    |_=>stop
   |_=>stop
 | .field t x f=>aT T t stop fun i=>A3 i f stop fun o ft=>aT T ft stop fun fi=>ca G s x stop fun
  | .agg c=>lh fi c o stop fun v=>k v h
  | .d (.agg c)=>oG .d c fun c'=>lh fi c' o stop fun v=>k v h
  |_=>stop
 | .nilCheck x=>ca G s x stop fun
  | .ptr b off=>aT h b stop fun
   | .cells _=>k (.ptr b off) h
   |_=>stop
  | .bO e off=>k (.bO e off) h
  | .cV b g i off=>aT h b stop fun
   | .arr g' _ _=>match Nat.beq g g' with
    |true=>k (.cV b g i off) h
    |false=>stop
   |_=>stop
  |_=>stop
 | .binOp op t x y _=>aT T t stop fun i=>ca G s x stop fun a=>ca G s y stop fun b =>
  match op with
  | .quo=>match a with
   | .d (.int j n)=>A2 .quo j n y stop fun v=>k v h
   |_=>stop
  | .rem=>match a with
   | .d (.int j n)=>A2 .rem j n y stop fun v=>k v h
   |_=>stop
  |op=>DN i op a b stop fun v=>k v h
 | .unOp .not _ x=>ca G s x stop fun
  | .d (.bool b)=>k (.d (.bool !b)) h
  |_=>stop
 | .unOp .neg _ x=>ca G s x stop fun
  | .d (.int j n)=>k (.d (.int j (j.wrap (0-n)))) h
  |_=>stop
 | .pick c a b=>ca G s c stop fun
  | .d (.bool true)=>ca G s a stop fun v=>k v h
  | .d (.bool false)=>ca G s b stop fun v=>k v h
  |_=>stop
 | .extract x i=>ca G s x stop fun
  | .aD l=>aT l i stop fun v=>k v h
  | .d (.aD l)=>aT l i stop fun v=>k (.d v) h
  |_=>stop
 | .convert t0 t x=>aT T t0 stop fun _=>aT T t stop fun i=>ca G s x stop fun v=>match i.k,v with
  | .int j,.d (.int _ n)=>k (.d (.int j (j.wrap n))) h
  | .string,.d (.str l)=>k (.d (.str l)) h
  |_,_=>stop
 | .build t parts=>aT T t stop fun i=>tM G s parts.toList stop fun ps=>match Nat.beq i.zero.length i.size,Nat.blt 0 i.size with
  |true,true=>oG .d i.zero fun z=>match i.k with
   | .struct fs=>A4 T fs stop fun pl=>vZ (dI pl) ps z stop fun c=>vX c fun v=>k v h
   | .array _ e=>aT T e stop fun ei=>vZ (fun i=>some (i*ei.size,ei.size)) ps z stop fun c=>vX c fun v=>k v h
   |_=>stop
  |_,_=>stop
 | .buildSlice t len parts=>aT T t stop fun i=>match i.k with
  | .slice e=>aT T e stop fun ei=>match Nat.beq ei.zero.length ei.size,Nat.blt 0 ei.size,Nat.blt 0 len,Nat.ble (len*ei.size) 16777216,ei.zero.all DV.fa with
   |true,true,true,true,true=>tM G s parts.toList stop fun ps =>
    match ei.zero with
    |[z]=>tL len z fun zs=>oH ei.size ps zs stop fun l=>k (.d (.sl l)) h
    |zl=>tL len (.agg zl) fun zs=>oH ei.size ps zs stop fun l=>k (.d (.sl l)) h
   |_,_,_,_,_=>stop
  |_=>stop
 | .makeFunc f first captured=>tK G s first.toList stop fun a=>tK G s captured.toList stop fun b=>k (.fn f a b) h
 | .call { callee := .builtin .len,args:=args,argTypes:=ts }=>aT args.toList 0 stop fun x=>aT ts.toList 0 stop fun t=>aT T t stop fun i=>ca G s x stop fun v=>match i.k,v with
  | .slice _,.d (.sl l)=>k (.d (.int .i64 l.length)) h
  | .string,.d (.str l)=>k (.d (.int .i64 l.length)) h
  | .slice _,.d .aH=>k (.d (.int .i64 0)) h
  | .slice _,.own b g=>aT h b stop fun
   | .arr g' _ l=>match Nat.beq g g' with
    |true=>k (.d (.int .i64 l.length)) h
    |false=>stop
   |_=>stop
  |_,_=>stop
 |_=>stop
def cd(s:List AV)(d:Option Nat)(v:AV)(k:List AV->α):α :=
 match d with
 |some d=>fz s d v k
 |none=>k s
end ops
end Go.ay
end
section
namespace Go.ay
open Go
structure nM(en:Array MapEntry)(ck n:Nat):Prop where
 size:en.size=n
 born:∀ x∈en.toList,x.born<ck
 nodup:(en.toList.map (·.born)).Nodup
 idx:∀ (j:Nat) (x:MapEntry),en[j]?=some x->x.born=j
 tick:ck=n
theorem nM.push{en:Array MapEntry}{ck n:Nat}(h:nM en ck n)(u w:Value):nM (en.push { key:=u,val:=w,born:=ck }) (ck+1) (n+1):=by
 refine⟨by simp[h.size],fun x hx=>?_,?_,fun j x hj=>?_,by rw[h.tick]⟩
 ·rw[Array.toList_push,List.mem_append]at hx;rcases hx with hx|hx
  ·have:=h.born x hx;omega
  ·simp at hx;subst hx;simp
 ·rw[Array.toList_push,List.map_append,List.nodup_append];refine⟨h.nodup,by simp,fun a ha b hb=>?_⟩;obtain⟨x,hx,rfl⟩:=List.mem_map.1 ha;have:=h.born x hx;simp at hb;omega
 ·rw[Array.getElem?_push]at hj;split at hj
  ·rename_i e;cases hj;rw[e,h.size];exact h.tick
  ·exact h.idx j x hj
theorem nM.modify{en:Array MapEntry}{ck n:Nat}(h:nM en ck n)(i:Nat)(u w:Value):nM (en.modify i fun e=>{ e with key:=u,val:=w }) ck n:=by
 have hm:(en.modify i fun e=>{ e with key:=u,val:=w }).toList.map (·.born)=en.toList.map (·.born):=by
  apply List.ext_getElem?;intro j;simp only[List.getElem?_map,Array.getElem?_toList,Array.getElem?_modify];by_cases hj:i=j
  ·rw[if_pos hj];cases en[j]? <;> rfl
  ·rw[if_neg hj]
 refine⟨by simp[h.size],fun x hx=>?_,by rw[hm];exact h.nodup,fun j x hj=>?_,h.tick⟩
 case refine_2 =>
  have e:(en.toList.map (·.born))[j]?=some x.born:=by rw[<- hm,List.getElem?_map,Array.getElem?_toList,hj];rfl
  simp only[List.getElem?_map,Array.getElem?_toList,Option.map_eq_some_iff]at e;obtain⟨y,hy,e⟩:=e;rw[<- e];exact h.idx j y hy
 have:x.born∈en.toList.map (·.born):=by rw[<- hm];exact List.mem_map_of_mem hx
 obtain⟨y,hy,e⟩:=List.mem_map.1 this;rw[<- e];exact h.born y hy
def jG(c:Cx)(i:Nat):af->Prop
 | .cells cs=>∃ (blk cap:Nat) (vs:Array Value) (ty:TypeId),c.own i=some (blk,cap)/\c.w.heap[blk]?=some (.cells vs ty (0,0))/\vs.size=cs.length /\
   ∀ (j:Nat) (x:AV) (v:Value),cs[j]?=some x->vs[j]?=some v->VR c x v
 | .arr _ ts l=>0<ts.2/\(∀ (i:Nat) (e:DV),l[i]?=some e->e.cells.length=ts.2) /\
   ((c.own i=none/\l=[])\/∃ (blk cap:Nat) (vs:Array Value),c.own i=some (blk,cap)/\c.w.heap[blk]?=some (.cells vs ts.1 (0,0))/\vs.size=cap*ts.2/\l.length<=cap/\cap<=maxLen /\
    ∀ (i j:Nat) (e x:DV),l[i]?=some e->e.cells[j]?=some x->∃ v,vs[i*ts.2+j]?=some v/\v.oneCell'=true/\VD c.bad c.w x v)
 | .map es=>∃ (blk cap:Nat) (en:Array MapEntry) (ck:Nat),c.own i=some (blk,cap)/\c.w.heap[blk]?=some (.map en ck)/\nM en ck es.length /\
   ∀ (j:Nat) (k x:DV) (m:MapEntry),es[j]?=some (k,x)->en[j]?=some m->VD c.bad c.w k m.key/\VD c.bad c.w x m.val
 | .gone=>c.own i=none
 | .hole=>c.own i=none
structure aK(G:List (Nat × DV))(c:Cx):Prop where
 bQ:∀ b,c.az b->b<c.w.heap.size
 bA:∀ i b n,c.own i=some (b,n)->b<c.w.heap.size/\i<c.heap.length
 inj:∀ i j b n m,c.own i=some (b,n)->c.own j=some (b,m)->i=j
 sep:∀ i b n,c.own i=some (b,n)->¬ c.az b
 box:∀ i bx,c.heap[i]?=some bx->jG c i bx
 fJ:∀ g e,(g,e)∈G->VR c (.bO e 0) (.pointer (some ⟨g,0,none⟩))
def VS(c:Cx)(s:List AV)(t:Array Value):Prop:=s.length=t.size/\∀ (i:Nat) (x:AV) (v:Value),s[i]?=some x->t[i]?=some v->VR c x v
theorem Step.vs{c c':Cx}(h:Step c c'){s:List AV}{t:Array Value}(hv:VS c s t):VS c' s t:=⟨hv.1,fun i x v hx ht=>h.vr (hv.2 i x v hx ht)⟩
theorem VS.put{c:Cx}{s:List AV}{t:Array Value}(hv:VS c s t)(d:Nat){x:AV}{v:Value}(hx:VR c x v):VS c (s.set d x) (t.setIfInBounds d v):=by
 refine⟨by simpa using hv.1,fun i y u hy hu=>?_⟩;by_cases hd:d=i
 ·subst hd;have h1:d<s.length:=by
   rcases Nat.lt_or_ge d s.length with h|h
   ·exact h
   ·rw[List.getElem?_eq_none (by simpa using h)]at hy;cases hy
  have h2:d<t.size:=by rw[<- hv.1];exact h1
  rw[List.getElem?_set_self h1]at hy;rw[Array.getElem?_setIfInBounds_self_of_lt h2]at hu;cases hy;cases hu;exact hx
 ·rw[List.getElem?_set_ne hd]at hy;rw[Array.getElem?_setIfInBounds_ne hd]at hu;exact hv.2 i y u hy hu
theorem jG.keep{c c':Cx}(h:Step c c'){i:Nat}{bx:af}(hb:jG c i bx)(ho:c'.own i=c.own i)(hw:∀ b n,c.own i=some (b,n)->c'.w.heap[b]?=c.w.heap[b]?):jG c' i bx:=by
 cases bx with
 |cells cs =>
  obtain⟨blk,cap,vs,ty,h1,h2,h3,h4⟩:=hb;exact⟨blk,cap,vs,ty,ho.trans h1,(hw blk cap h1).trans h2,h3,fun j x v hx hv=>h.vr (h4 j x v hx hv)⟩
 |arr g ts l =>
  obtain⟨h0,h1,h2⟩:=hb;refine⟨h0,h1,?_⟩;rcases h2 with⟨h2,h3⟩|⟨blk,cap,vs,h2,h3,h4,h5,h6,h7⟩
  ·exact .inl ⟨ho.trans h2,h3⟩
  ·refine .inr ⟨blk,cap,vs,ho.trans h2,(hw blk cap h2).trans h3,h4,h5,h6,fun i j e x he hx=>?_⟩;obtain⟨v,h8,yf,h9⟩:=h7 i j e x he hx;exact⟨v,h8,yf,h.vd h9⟩
 |map es =>
  obtain⟨blk,cap,en,ck,h1,h2,h3,h4⟩:=hb;exact⟨blk,cap,en,ck,ho.trans h1,(hw blk cap h1).trans h2,h3,fun j k x m hx hm=>⟨h.vd (h4 j k x m hx hm).1,h.vd (h4 j k x m hx hm).2⟩⟩
 |gone=>exact ho.trans hb
 |hole=>exact ho.trans hb
theorem aK.next{G:List (Nat × DV)}{c c':Cx}(h:aK G c)(hs:Step c c')(hl:∀ i b n,c'.own i=some (b,n)->b<c'.w.heap.size/\i<c'.heap.length)
  (hi:∀ i j b n m,c'.own i=some (b,n)->c'.own j=some (b,m)->i=j)
  (hb:∀ i bx,c'.heap[i]?=some bx->(c.heap[i]?=some bx/\c'.own i=c.own i/\∀ b n,c.own i=some (b,n)->c'.w.heap[b]?=c.w.heap[b]?)\/jG c' i bx):aK G c' where
 bQ:=fun b hb=>Nat.lt_of_lt_of_le (h.bQ b (by rw[<- hs.az];exact hb)) hs.size
 bA:=hl
 inj:=hi
 sep:=fun i b n cg hb=>by
  rw[hs.az]at hb;obtain⟨m,hj⟩:=hs.dy i b n cg (h.bQ b hb);exact h.sep i b m hj hb
 box:=fun i bx hx=>(hb i bx hx).elim (fun⟨h1,h2,h3⟩=>(h.box i bx h1).keep hs h2 h3) id
 fJ:=fun g e hg=>hs.vr (h.fJ g e hg)
def Cx.eu(c:Cx)(w:World):Cx:={ c with w:=w }
theorem aK.grow{G:List (Nat × DV)}{c:Cx}(h:aK G c){w:World}(hx:Proofs.YtfmdaiojokniiaaGreatDoor.Ext c.w w):aK G (c.eu w)/\Step c (c.eu w):=by
 have hs:Step c (c.eu w):=⟨rfl,h.bQ,hx.os,hx.tape,hx.output,hx.size,fun b hb _=>hx.block b hb,fun i b n hi _=>⟨n,hi⟩,(Step.refl c h.bQ).boxes⟩;exact⟨h.next hs (fun i b n hi=>⟨Nat.lt_of_lt_of_le (h.bA i b n hi).1 hx.size,(h.bA i b n hi).2⟩) h.inj (fun i bx hb => .inl ⟨hb,rfl,fun b n hn=>hx.block b (h.bA i b n hn).1⟩),hs⟩
def DO(P:Program)(o:Oper)(a:Act)(w:World)(v:Value)(w':World):Prop :=
 (execOp a.eval o).run P w=.ok (.value v) w'\/(execOp a.eval o).run P w=.ok .skip w'/\v=undef
def bw(E:Env)(op:Op)(s:List AV)(h:List af)(x:AV)(h':List af):Prop :=
 ∀ (o:Oper) (c:Cx) (a:Act),o.op=op->c.heap=h->aK E.G c->VS c s a.tmps ->
  ∃ (c':Cx) (v:Value),DO E.P o a c.w v c'.w/\c'.heap=h'/\aK E.G c'/\VR c' x v/\Step c c'
def aZ(G:List (Nat × DV))(s:List AV)(x:Operand)(v:AV):Prop :=
 ∀ (c:Cx) (a:Act),aK G c->VS c s a.tmps->VR c v (a.eval x)
theorem bo{β:Type}{l:List β}{i:Nat}{stop:Prop}{k:β->Prop}(H:aT l i stop k):stop\/∃ x,l[i]?=some x/\k x:=by
 cases h:l[i]? with
 |none=>rw[Is h]at H;exact .inl H
 |some x=>rw[AZ h]at H;exact .inr ⟨x,rfl,H⟩
theorem cq{G:List (Nat × DV)}{s:List AV}{x:Operand}{stop:Prop}{k:AV->Prop}(H:ca G s x stop k):stop\/∃ v,aZ G s x v/\k v:=by
 cases x with
 |tmp t =>
  rcases bo H with h|⟨v,hv,h⟩
  ·exact .inl h
  refine .inr ⟨v,fun c a _ hs=>?_,h⟩;have hl:t<a.tmps.size:=by
   rw[<- hs.1];rcases Nat.lt_or_ge t s.length with h|h
   ·exact h
   ·rw[List.getElem?_eq_none h]at hv;cases hv
  have:=hs.2 t v a.tmps[t] hv (by simp[hl])
  simpa [Act.eval,hl]using this
 |const v =>
  simp only[ca,Iu]at H;split at H<;>first
   |exact .inl H
   |exact .inr ⟨_,fun c a _ _ => .d _ _ (Ir rfl),H⟩
 |global g =>
  simp only[ca]at H;have:∀ l:List (Nat × DV),(∀ p∈l,p∈G)->A0 l g stop k->stop\/∃ v,aZ G s (.global g) v/\k v:=by
   intro l
   induction l with
   |nil=>exact fun _ h => .inl h
   |cons p l ih =>
    intro hm h;obtain⟨g',e⟩:=p;simp only[A0]at h;split at h
    ·rename_i hg;obtain rfl:g'=g:=Nat.eq_of_beq_eq_true hg;exact .inr ⟨_,fun c a ho _=>ho.fJ g' e (hm _ (List.mem_cons_self ..)),h⟩
    ·exact ih (fun p hp=>hm p (List.mem_cons_of_mem _ hp)) h
  exact this G (fun _ h=>h) H
 |func f=>exact .inr ⟨_,fun c a _ _ => .fn _ _ _ _ _ rfl rfl (fun j x v h=>by simp at h) (fun j x v h=>by simp at h),H⟩
theorem bw.quiet{E:Env}{op:Op}{s:List AV}{h:List af}{x:AV}
  (H:∀ (o:Oper) (c:Cx) (a:Act),o.op=op->c.heap=h->aK E.G c->VS c s a.tmps->∃ v,(execOp a.eval o).run E.P c.w=.ok (.value v) c.w/\VR c x v):bw E op s h x h :=
 fun o c a h1 h2 h3 h4=>let ⟨v,h5,h6⟩:=H o c a h1 h2 h3 h4;⟨c,v,.inl h5,h2,h3,h6,Step.refl c h3.bQ⟩
theorem PG{E:Env}{s:List AV}{h:List af}{x:Operand}{v:AV}(hx:aZ E.G s x v):bw E (.move x) s h v h :=
 .quiet fun o c a h1 _ h3 h4=>⟨_,by simp only[execOp,h1];rfl,hx c a h3 h4⟩
theorem PH{E:Env}{s:List AV}{h:List af}{x:Operand}{v:AV}(hx:aZ E.G s x v):bw E (.assign x) s h v h :=
 .quiet fun o c a h1 _ h3 h4=>⟨_,by simp only[execOp,h1];rfl,hx c a h3 h4⟩
end Go.ay
end
section
namespace Go.ay
open Go
section
variable {E:Env} {s:List AV} {h:List af} {c:Cx}
theorem tN{b:Bool}{v:Value}(h:VR c (.d (.bool b)) v):v=.bool b:=by cases h with|d _ _ h=>cases h;rfl
theorem dW{k:IntKind}{n:Int}{v:Value}(h:VR c (.d (.int k n)) v):v=.int k n:=by cases h with|d _ _ h=>cases h;rfl
theorem pf{l:List UInt8}{v:Value}(h:VR c (.d (.str l)) v):v=.string ⟨l.toArray⟩:=by cases h with|d _ _ h=>cases h;rfl
def VL(c:Cx)(l:List AV)(vs:List Value):Prop:=l.length=vs.length/\∀ (j:Nat) (x:AV) (v:Value),l[j]?=some x->vs[j]?=some v->VR c x v
theorem VL.nil:VL c [] []:=⟨rfl,fun j x v h=>by simp at h⟩
theorem VL.cons{x:AV}{v:Value}{l:List AV}{vs:List Value}(h:VR c x v)(hl:VL c l vs):VL c (x::l) (v::vs) :=
 ⟨by simp[hl.1],fun j y u hy hu=>by
  cases j with
  |zero=>simp at hy hu;subst hy;subst hu;exact h
  |succ j=>exact hl.2 j y u (by simpa using hy) (by simpa using hu)⟩
theorem VL.head{x:AV}{v:Value}{l:List AV}{vs:List Value}(h:VL c (x::l) (v::vs)):VR c x v/\VL c l vs :=
 ⟨h.2 0 x v rfl rfl,by simpa using h.1,fun j y u hy hu=>h.2 (j+1) y u (by simpa using hy) (by simpa using hu)⟩
theorem VL.set{x:AV}{v:Value}{l:List AV}{vs:List Value}(h:VL c l vs)(i:Nat)(hx:VR c x v):VL c (l.set i x) (vs.set i v):=by
 have:=VS.put (t:=vs.toArray) (s:=l) ⟨by simpa using h.1,fun j y u hy hu=>h.2 j y u hy (by simpa using hu)⟩ i hx;exact⟨by simpa using h.1,fun j y u hy hu=>this.2 j y u hy (by simpa using hu)⟩
theorem VL.du:∀ {xs:List AV} {us:List Value} {cs:List AV} {os:List Value} (_:VL c cs os) (off:Nat) (_:VL c xs us),VL c (du cs off xs) (ay.du os off us):=by
 intro xs
 induction xs with
 |nil=>intro us cs os hc off hx;obtain rfl:us=[]:=List.eq_nil_of_length_eq_zero hx.1.symm;exact hc
 |cons x xs ih =>
  intro us cs os hc off hx;cases us with
  |nil=>simp[VL]at hx
  |cons u us=>exact ih (hc.set off hx.head.1) (off+1) hx.head.2
theorem VL.drop{l:List AV}{vs:List Value}(h:VL c l vs)(n:Nat):VL c (l.drop n) (vs.drop n) :=
 ⟨by simp[h.1],fun j y u hy hu=>h.2 (n+j) y u (by simpa using hy) (by simpa using hu)⟩
theorem VL.take{l:List AV}{vs:List Value}(h:VL c l vs)(n:Nat):VL c (l.take n) (vs.take n) :=
 ⟨by simp[h.1],fun j y u hy hu=>by
  rw[List.getElem?_take]at hy hu;split at hy
  ·rename_i hj;rw[if_pos hj]at hu;exact h.2 j y u hy hu
  ·cases hy⟩
theorem VL.tO{l:List DV}{vs:List Value}(hl:l.length=vs.length)(h:∀ (j:Nat) (x:DV) (v:Value),l[j]?=some x->vs[j]?=some v->VD c.bad c.w x v):VL c (l.map .d) vs :=
 ⟨by simpa using hl,fun j y u hy hu=>by
  rw[List.getElem?_map]at hy;cases hx:l[j]? with
  |none=>rw[hx]at hy;cases hy
  |some x=>rw[hx]at hy;cases hy;exact .d _ _ (h j x u hx hu)⟩
theorem VL.pg{l:List DV}{vs:List Value}(h:VL c (l.map .d) vs):∀ (j:Nat) (x:DV) (v:Value),l[j]?=some x->vs[j]?=some v->VD c.bad c.w x v:=fun j x v hx hv=>by
 have:=h.2 j (.d x) v (by rw[List.getElem?_map,hx];rfl) hv;cases this with|d _ _ h=>exact h
theorem Step.vl{c c':Cx}(h:Step c c'){l:List AV}{vs:List Value}(hv:VL c l vs):VL c' l vs:=⟨hv.1,fun j x v hx hu=>h.vr (hv.2 j x v hx hu)⟩
theorem v7{l:List AV}{vs:List Value}(h:VL c l vs):VR c (.agg l) (.agg vs.toArray) :=
 .agg l vs.toArray (by simpa using h.1) (fun j x v hx hv=>h.2 j x v hx (by simpa using hv))
theorem yg{l:List AV}{k:AV->Prop}(H:vX l k):∃ v,k v/\∀ (c:Cx) (vs:List Value),VL c l vs->VR c v (.agg vs.toArray):=by
 unfold vX at H;rcases ye l (k (.agg l)) (fun l'=>k (.d (.agg l')))with⟨l',h1,h2⟩|h2
 ·rw[h2]at H;refine⟨_,H,fun c vs hv => .d _ _ (.agg _ _ (by have:=hv.1;rw[h1]at this;simpa using this) ?_)⟩;rw[h1]at hv;exact fun j x v hx eD=>hv.pg j x v hx (by simpa using eD)
 ·rw[h2]at H;exact⟨_,H,fun c vs hv=>v7 hv⟩
theorem DP{l:List DV}{v:Value}(h:VR c (.d (.agg l)) v):∃ vs:List Value,v=.agg vs.toArray/\VL c (l.map .d) vs:=by
 cases h with
 |d _ _ h=>cases h with
  |agg _ vs hl hv=>exact⟨vs.toList,by simp,.tO (by simpa using hl) (fun j x v hx hu=>hv j x v hx (by simpa using hu))⟩
theorem ph{l:List AV}{v:Value}(h:VR c (.agg l) v):∃ vs:List Value,v=.agg vs.toArray/\VL c l vs:=by
 cases h with
 |agg _ vs hl hv=>exact⟨vs.toList,by simp,by simpa using hl,fun j x v hx hu=>hv j x v hx (by simpa using hu)⟩
theorem yh{bad:Nat->Prop}{w:World}{x:DV}{v:Value}(h:VD bad w x v)(h1:x.fa=true):v.oneCell'=true:=by
 cases h<;>first|rfl|assumption|cases h1
theorem DQ{x:AV}{v:Value}(h:VR c x v)(h1:x.fa=true):v.oneCell'=true:=by
 cases h with
 |d y v hy=>exact yh hy h1
 |_=>first|rfl|assumption|cases h1
theorem cells_one{v:Value}(h:v.oneCell'=true):v.cells = #[v]:=by
 cases v<;>first|rfl|cases h
def DR(x:AV)(l:List AV):Prop:=∀ (c:Cx) (v:Value),VR c x v->∃ vs:List Value,v.cells=vs.toArray/\VL c l vs
theorem A5{x:AV}{stop:Prop}{k:List AV->Prop}(H:vY x stop k):stop\/∃ l,DR x l/\k l:=by
 unfold vY at H;split at H
 ·rename_i l;exact .inr ⟨l,fun c v hv=>(by obtain⟨vs,rfl,h⟩:=ph hv;exact⟨vs,rfl,h⟩),H⟩
 ·rename_i l;rw[tJ]at H;exact .inr ⟨_,fun c v hv=>(by obtain⟨vs,rfl,h⟩:=DP hv;exact⟨vs,rfl,h⟩),H⟩
 ·split at H
  ·rename_i hs;exact .inr ⟨[x],fun c v hv=>⟨[v],cells_one (DQ hv hs),.cons hv .nil⟩,H⟩
  ·exact .inl H
theorem cD{P:Program}{t:Nat}{i:br}(h:eU P t=some i):∃ ti d,P.info? t=some ti/\P.underlying t=some d/\i.k=tk d/\i.size=ti.size/\i.bytes=ti.bytes/\i.zero=vU ti.zero:=by
 unfold eU at h;split at h
 ·rename_i ti d h1 h2;cases h;exact⟨ti,d,h1,h2,rfl,rfl,rfl,rfl⟩
 ·cases h
theorem A6{P:Program}{t:Nat}{i:br}(h:eU P t=some i)(w:World):(isAgg t).run P w=.ok i.k.agg w:=by
 obtain⟨ti,d,h1,h2,h3,-⟩:=cD h;rw[h3];simp only[isAgg,underlying,bind,Sem.bind,program,h2,pure,Sem.run];cases d<;>rfl
theorem run_sizeOf{P:Program}{t:Nat}{i:br}(h:eU P t=some i)(w:World):(Go.sizeOf t).run P w=.ok i.size w:=by
 obtain⟨ti,d,h1,h2,h3,h4,-⟩:=cD h;simp only[Go.sizeOf,typeInfo,bind,Sem.bind,program,h1,pure,Sem.run,h4]
def A7(w:World)(b o:Nat)(vs:List Value):Prop:=∀ j v,vs[j]?=some v->w.cell? ⟨b,o+j,none⟩=some v
theorem mN(b o j:Nat):(⟨b,o,none⟩:Addr).add j=⟨b,o+j,none⟩:=by unfold Addr.add;split<;>simp_all
theorem PI{P:Program}{t:Nat}{i:br}(h:eU P t=some i){w:World}{b o:Nat}{vs:List Value}(hr:A7 w b o vs)(hs:vs.length=i.size)(fK:i.k.agg=true) :
  (Instr.loadAt t (.pointer (some ⟨b,o,none⟩))).run P w=.ok (.agg vs.toArray) w:=by
 have h1:=run_loadCells_list (P:=P) w ⟨b,o,none⟩ vs (fun j v hv=>by rw[mN];exact hr j v hv);rw[hs]at h1;simp only[Instr.loadAt,Instr.sureAddr,loadVar,Sem.run_bind,Sem.run_pure,Result.andThen_ok,A6 h,fK,run_sizeOf h,h1,if_true]
theorem PJ{P:Program}{t:Nat}{i:br}(h:eU P t=some i){w:World}{a:Addr}{v:Value}(hr:w.cell? a=some v)(fK:i.k.agg=false) :
  (Instr.loadAt t (.pointer (some a))).run P w=.ok v w:=by
 simp only[Instr.loadAt,Instr.sureAddr,loadVar,Sem.run_bind,Sem.run_pure,Result.andThen_ok,A6 h,fK,Bool.false_eq_true,if_false,load,Sem.run,hr]
theorem A8{i:br}{l:List AV}{off:Nat}{stop:Prop}{k:AV->Prop}(H:lh i l off stop k):stop\/∃ x,k x/\∀ (P:Program) (t:Nat) (c:Cx) (b o:Nat) (vs:List Value),eU P t=some i->VL c l vs->A7 c.w b o vs ->
  ∃ v,(Instr.loadAt t (.pointer (some ⟨b,o+off,none⟩))).run P c.w=.ok v c.w/\VR c x v:=by
 unfold lh at H;split at H
 ·rename_i fK;rw[DH,It]at H;split at H
  ·rename_i hl;obtain⟨x,hx,h⟩:=yg H;refine .inr ⟨x,hx,fun P t c b o vs ht hv hr=>⟨_,PI ht (b:=b) (o:=o+off) (vs:=(vs.drop off).take i.size) (fun j v hj=>?_) ?_ fK,h c _ ((hv.drop off).take _)⟩⟩
   ·rw[List.getElem?_take]at hj;split at hj
    ·have:=hr (off+j) v (by simpa using hj);rwa [<- Nat.add_assoc]at this
    ·cases hj
   ·have:=Nat.eq_of_beq_eq_true hl;simp only[List.length_take,List.length_drop]at this ⊢;rw[<- hv.1];exact this
  ·exact .inl H
 ·rename_i fK;rcases bo H with h|⟨x,hx,h⟩
  ·exact .inl h
  refine .inr ⟨x,h,fun P t c b o vs ht hv hr=>?_⟩;have ah:off<vs.length:=by
   rw[<- hv.1];rcases Nat.lt_or_ge off l.length with h|h
   ·exact h
   ·rw[List.getElem?_eq_none h]at hx;cases hx
  exact⟨vs[off],PJ ht (hr off _ (by simp[ah])) fK,hv.2 off x _ hx (by simp[ah])⟩
end
end Go.ay
end
section
namespace Go.ay
open Go Go.RowKit
section
variable {E:Env} {s:List AV} {h:List af} {c:Cx} {G:List (Nat × DV)}
theorem A9(b:Nat):∀ (vs:List Value) (o:Nat) (w:World),(w.setCells b o vs).os=w.os/\(w.setCells b o vs).tape=w.tape/\(w.setCells b o vs).output=w.output/\(w.setCells b o vs).heap.size=w.heap.size
 |[],_,_=>⟨rfl,rfl,rfl,rfl⟩
 |v::r,o,w=>by
  obtain⟨h1,h2,h3,h4⟩:=A9 b r (o+1) (w.setCell ⟨b,o,none⟩ v);exact⟨h1,h2,h3,h4.trans (by simp)⟩
theorem v8(b:Nat):∀ (vs:List Value) (o:Nat) (w:World) (k:Nat),k≠b->(w.setCells b o vs).heap[k]?=w.heap[k]?
 |[],_,_,_,_=>rfl
 |v::r,o,w,k,hk=>by
  have:=v8 b r (o+1) (w.setCell ⟨b,o,none⟩ v) k hk;exact this.trans (Below.heap_setCell w _ v k hk)
theorem A'(b:Nat)(ty:TypeId)(fr:Nat × Nat):∀ (vs:List Value) (o:Nat) (w:World) (cur:Array Value),w.heap[b]?=some (.cells cur ty fr) ->
  (w.setCells b o vs).heap[b]?=some (.cells (du cur.toList o vs).toArray ty fr)
 |[],_,_,cur,hb=>by simpa [du,World.setCells]using hb
 |v::r,o,w,cur,hb=>by
  have h1:(w.setCell ⟨b,o,none⟩ v).heap[b]?=some (.cells (cur.setIfInBounds o v) ty fr):=by
   simp only[World.setCell,Array.getElem?_modify,if_true,hb,Option.map_some];rfl
  have:=A' b ty fr r (o+1) (w.setCell ⟨b,o,none⟩ v) _ h1
  simpa [du,World.setCells]using this
theorem yi{β:Type}:∀ (vs:List β) (o:Nat) (l:List β),(du l o vs).length=l.length
 |[],_,_=>rfl
 |v::r,o,l=>by simp[du,yi r]
theorem lY{w:World}{b:Nat}{vs:Array Value}{ty:TypeId}{fr:Nat × Nat}(h:w.heap[b]?=some (.cells vs ty fr)):A7 w b 0 vs.toList:=fun j v hv=>by
 simp only[World.cell?,h,Nat.zero_add]
 simpa using hv
theorem aK.cells(ho:aK G c){b:Nat}{cs:List AV}(hb:c.heap[b]?=some (.cells cs)):∃ (blk cap:Nat) (vs:Array Value) (ty:TypeId),c.own b=some (blk,cap)/\c.w.heap[blk]?=some (.cells vs ty (0,0))/\VL c cs vs.toList:=by
 obtain⟨blk,cap,vs,ty,h1,h2,h3,h4⟩:=ho.box b _ hb;exact⟨blk,cap,vs,ty,h1,h2,by simpa using h3.symm,fun j x v hx hv=>h4 j x v hx (by simpa using hv)⟩
theorem PK(hE:E.OK){t:Nat}{x:Operand}{i:br}(hi:E.T[t]?=some i){a:AV}(ha:aZ E.G s x a){stop:Prop}{k:AV->Prop}(H:DJ i h a stop k):stop\/∃ v,k v/\bw E (.load t x) s h v h:=by
 have ht:=hE.types t i hi;have run:∀ (o:Oper) (ac:Act) (w:World) (v:Value),o.op=.load t x->(Instr.loadAt t (ac.eval x)).run E.P w=.ok v w->(execOp ac.eval o).run E.P w=.ok (.value v) w:=fun o ac w v h1 h2=>by
  simp only[execOp,h1,Sem.run_bind,h2,Result.andThen_ok,Sem.run_pure]
 unfold DJ at H;split at H
 ·rename_i b off;rcases bo H with h1|⟨bx,hb,H⟩
  ·exact .inl h1
  split at H
  ·rename_i cs;rcases A8 H with h1|⟨v,hk,hp⟩
   ·exact .inl h1
   refine .inr ⟨v,hk,.quiet fun o c ac h1 h2 h3 h4=>?_⟩;subst h2;obtain⟨blk,cap,vs,ty,g1,g2,g3⟩:=h3.cells hb;have hv:=ha c ac h3 h4;obtain⟨u,hu,qf⟩:=hp E.P t c blk 0 vs.toList ht g3 (lY g2);refine⟨u,run o ac c.w u h1 ?_,qf⟩;generalize ac.eval x=p at hv;cases hv with
   |ptr b off cs' iM gV cw cU =>
    rw[g1]at cU;cases cU
    rwa [Nat.zero_add]at hu
   |iv b off v' cw _=>rw[hb]at cw;cases cw
  ·exact .inl H
 ·rename_i e off;have key:∀ l:List AV,l=e.cells.map .d->lh i l off stop k->stop\/∃ v,k v/\bw E (.load t x) s h v h:=fun l hl H=>by
   rcases A8 H with h1|⟨v,hk,hp⟩
   ·exact .inl h1
   refine .inr ⟨v,hk,.quiet fun o c ac h1 h2 h3 h4=>?_⟩;have hv:=ha c ac h3 h4;generalize rS:ac.eval x=p at hv;cases hv with
   |bO _ _ blk o' f oF aI dK bH =>
    obtain⟨u,hu,qf⟩:=hp E.P t c blk o' ((List.range e.cells.length).map f) ht (by
      rw[hl];refine .tO (by simp) (fun j y v hy hv=>?_);have hj:j<e.cells.length:=by
       rcases Nat.lt_or_ge j e.cells.length with h|h
       ·exact h
       ·rw[List.getElem?_eq_none h]at hy;cases hy
      simp[hj]at hv;subst hv;exact bH j y hy) (fun j v hv=>by
      rcases Nat.lt_or_ge j e.cells.length with hj|hj
      ·simp[hj]at hv;subst hv;exact dK j e.cells[j] (by simp[hj])
      ·rw[List.getElem?_eq_none (by simpa using hj)]at hv;cases hv)
    exact⟨u,run o ac c.w u h1 (by rw[rS];exact hu),qf⟩
  split at H
  ·rename_i l;rw[tJ]at H;exact key _ rfl H
  ·rename_i qh;exact key _ (by cases e<;>first|rfl|exact absurd rfl (qh _)) H
 ·exact .inl H
theorem Iv{P:Program}{t:Nat}{i:br}(ht:eU P t=some i){w:World}{b o:Nat}{v:Value}{vs:List Value}(hv:v.cells=vs.toArray)(hs:vs.length=i.size){cur:Array Value}{ty:TypeId}(hb:w.heap[b]?=some (.cells cur ty (0,0)))
  (iw:o+vs.length<=cur.size) (h1:∀ u∈vs,u.oneCell'=true):(Instr.storeAt t (.pointer (some ⟨b,o,none⟩)) v).run P w=.ok () (w.setCells b o vs):=by
 have bg:=run_storeCells_cells (P:=P) b o vs 0 w (fun j hj=>by
   simp only[World.cell?,hb]
   simp;omega) (fun j hj=>by simp[World.frozen?,hb]) h1
 simp only[Instr.storeAt,Instr.sureAddr,storeVar,Sem.run_bind,Sem.run_pure,Result.andThen_ok,run_sizeOf ht,hv];simp only[List.size_toArray,hs,ne_eq,not_true_eq_false,if_false]
 simpa using bg
theorem aK.write(ho:aK G c){b blk cap:Nat}{cs cs':List AV}{vs:Array Value}{ty:TypeId}(hb:c.heap[b]?=some (.cells cs))(bF:c.own b=some (blk,cap))(hblk:c.w.heap[blk]?=some (.cells vs ty (0,0)))
  {us:List Value} {off:Nat} (hl:cs'.length=cs.length) (hv:VL c cs' (du vs.toList off us)) :
  let c':Cx:={ c with heap:=c.heap.set b (.cells cs'),w:=c.w.setCells blk off us }
  aK G c'/\Step c c':=by
 intro c';obtain⟨e1,e2,e3,e4⟩:=A9 blk us off c.w;have eJ:b<c.heap.length:=(ho.bA b blk cap bF).2
 have hs:Step c c':={
  az:=rfl
  bQ:=ho.bQ
  os:=e1
  tape:=e2
  output:=e3
  size:=Nat.le_of_eq e4.symm
  keep:=fun x _ hn=>v8 blk us off c.w x (fun e=>hn b cap (by rw[e];exact bF))
  dy:=fun i x n hi _=>⟨n,hi⟩
  boxes:=fun i bx hi=>by
   by_cases bE:i=b
   ·subst bE;rw[hb]at hi;cases hi;exact .inl ⟨cs',by show(c.heap.set i _)[i]?=_;rw[List.getElem?_set_self eJ],rfl,hl⟩
   ·have h':c'.heap[i]?=some bx:=by show(c.heap.set b _)[i]?=_;rw[List.getElem?_set_ne (Ne.symm bE)];exact hi
    cases bx with
    |cells cs=>exact .inl ⟨cs,h',rfl,rfl⟩
    |arr g sz l=>exact .inl ⟨g,l,h',.inr ⟨rfl,rfl,rfl⟩⟩
    |map es=>exact .inl ⟨es,h',rfl⟩
    |gone=>exact h'
    |hole=>exact⟨_,h'⟩ }
 refine⟨ho.next hs (fun i x n hi=>⟨by show x<(c.w.setCells blk off us).heap.size;rw[e4];exact(ho.bA i x n hi).1,by show i<(c.heap.set b _).length;rw[List.length_set];exact(ho.bA i x n hi).2⟩) ho.inj (fun i bx hi=>?_),hs⟩;by_cases bE:i=b
 ·subst bE;have cg:(c.heap.set i (.cells cs'))[i]?=some bx:=hi;rw[List.getElem?_set_self eJ]at cg;cases cg;right;have eD:=hs.vl hv;exact⟨blk,cap,(du vs.toList off us).toArray,ty,bF,A' blk ty (0,0) us off c.w vs hblk,by simpa using eD.1.symm,fun j x v hx hu=>eD.2 j x v hx (by simpa using hu)⟩
 ·left;have cg:(c.heap.set b (.cells cs'))[i]?=some bx:=hi;rw[List.getElem?_set_ne (Ne.symm bE)]at cg;exact⟨cg,rfl,fun x n hn=>v8 blk us off c.w x (fun e=>bE (ho.inj i b blk n cap (by rw[<- e];exact hn) bF))⟩
theorem PL(hE:E.OK){t:Nat}{x y:Operand}{i:br}(hi:E.T[t]?=some i){a v:AV}(ha:aZ E.G s x a)(hv:aZ E.G s y v){stop:Prop}{k:List af->Prop}(H:DK i h a v stop k):stop\/∃ h',k h'/\bw E (.store t x y) s h (.d .undef) h':=by
 have ht:=hE.types t i hi;unfold DK at H;split at H
 ·rename_i b off;rcases bo H with h1|⟨bx,hb,H⟩
  ·exact .inl h1
  split at H
  ·rename_i cs;rcases A5 H with h1|⟨l,hl,H⟩
   ·exact .inl h1
   split at H
   ·rename_i q1 q2 q3;rw[DI,gq]at H;refine .inr ⟨_,H,fun o c ac h1 h2 h3 h4=>?_⟩;subst h2;have hp:=ha c ac h3 h4;have hu:=hv c ac h3 h4;obtain⟨blk,cap,vs,ty,g1,g2,g3⟩:=h3.cells hb;obtain⟨us,tP,kx⟩:=hl c _ hu;have q1:=Nat.eq_of_beq_eq_true q1;have q2:=Nat.le_of_ble_eq_true q2;have iw:off+us.length<=vs.size:=by
     rw[<- kx.1];have:=g3.1;simp at this;omega
    have bW:∀ u∈us,u.oneCell'=true:=fun u hu=>by
     obtain⟨j,hj,rfl⟩:=List.getElem_of_mem hu;have pj:j<l.length:=by rw[kx.1];exact hj
     exact DQ (kx.2 j l[j] us[j] (by simp[pj]) (by simp[hj])) (List.all_eq_true.1 q3 _ (List.getElem_mem pj))
    have cI:(Instr.storeAt t (ac.eval x) (ac.eval y)).run E.P c.w=.ok () (c.w.setCells blk off us):=by
     generalize ac.eval x=p at hp;cases hp with
     |ptr b off cs' iM gV cw cU =>
      rw[g1]at cU;cases cU;exact Iv ht tP (by rw[<- kx.1];exact q1) g2 iw bW
     |iv b off v' cw _=>rw[hb]at cw;cases cw
    obtain⟨w1,w2⟩:=h3.write (cs':=du cs off l) (us:=us) (off:=off) hb g1 g2 (yi _ _ _) (VL.du g3 off kx);refine⟨_,Go.undef,.inr ⟨?_,rfl⟩,rfl,w1,.d _ _ .undef,w2⟩;simp only[execOp,h1,Sem.run_bind,cI,Result.andThen_ok,Sem.run_pure]
   ·exact .inl H
  ·exact .inl H
 ·exact .inl H
def Cx.add(c:Cx)(bx:af)(cap:Nat)(o:Obj):Cx:={ c with own:=fun i=>if i=c.heap.length then some (c.w.heap.size,cap)else c.own i,heap:=c.heap++[bx],w:=c.w.alloc o }
theorem aK.add(ho:aK G c)(bx:af)(cap:Nat)(o:Obj):Step c (c.add bx cap o)/\(jG (c.add bx cap o) c.heap.length bx->aK G (c.add bx cap o)):=by
 have bK:∀ i b n,c.own i=some (b,n)->i≠c.heap.length:=fun i b n hi e=>by have:=(ho.bA i b n hi).2;omega
 have hs:Step c (c.add bx cap o):={
  az:=rfl
  bQ:=ho.bQ
  os:=rfl
  tape:=rfl
  output:=rfl
  size:=by simp[Cx.add]
  keep:=fun x hx _=>Below.heap_alloc c.w o x hx
  dy:=fun i x n hi hx=>by
   simp only[Cx.add]at hi;split at hi
   ·cases hi;omega
   ·exact⟨n,hi⟩
  boxes:=fun i b hi=>by
   have ah:i<c.heap.length:=by
    rcases Nat.lt_or_ge i c.heap.length with h|h
    ·exact h
    ·rw[List.getElem?_eq_none h]at hi;cases hi
   have h':(c.add bx cap o).heap[i]?=some b:=by simp only[Cx.add];rw[List.getElem?_append_left ah];exact hi
   have qi:(c.add bx cap o).own i=c.own i:=by simp only[Cx.add];rw[if_neg (by omega)]
   cases b with
   |cells cs=>exact .inl ⟨cs,h',qi,rfl⟩
   |arr g sz l=>exact .inl ⟨g,l,h',.inr ⟨rfl,rfl,qi⟩⟩
   |map es=>exact .inl ⟨es,h',qi⟩
   |gone=>exact h'
   |hole=>exact⟨_,h'⟩ }
 refine⟨hs,fun iN=>ho.next hs ?_ ?_ ?_⟩
 ·intro i b n hi;simp only[Cx.add]at hi ⊢;split at hi
  ·cases hi;simp;omega
  ·have:=ho.bA i b n hi;simp;omega
 ·intro i j b n m hi hj;simp only[Cx.add]at hi hj;split at hi<;>split at hj
  ·omega
  ·cases hi;have:=(ho.bA j _ _ hj).1;omega
  ·cases hj;have:=(ho.bA i _ _ hi).1;omega
  ·exact ho.inj i j b n m hi hj
 ·intro i b hi;by_cases fR:i=c.heap.length
  ·subst fR;right;have:b=bx:=by simp[Cx.add]at hi;exact hi.symm
   subst this;exact iN
  ·left;have ah:i<c.heap.length:=by
    rcases Nat.lt_or_ge i c.heap.length with h|h
    ·exact h
    ·rw[List.getElem?_eq_none (by simp[Cx.add];omega)]at hi;cases hi
   refine⟨?_,by simp only[Cx.add];rw[if_neg fR],fun x n hn=>Below.heap_alloc c.w o x (ho.bA i x n hn).1⟩;simp only[Cx.add]at hi
   rwa [List.getElem?_append_left ah]at hi
theorem aK.DS(ho:aK G c){cs:List AV}{vs:List Value}(hv:VL c cs vs)(ty:TypeId) :
  let c':=c.add (.cells cs) 0 (.cells vs.toArray ty)
  aK G c'/\Step c c'/\VR c' (.ptr c.heap.length 0) (.pointer (some ⟨c.w.heap.size,0,none⟩)):=by
 intro c';obtain⟨h1,h2⟩:=ho.add (.cells cs) 0 (.cells vs.toArray ty);have e1:c'.own c.heap.length=some (c.w.heap.size,0):=by simp[c',Cx.add]
 have eD:=h1.vl hv;refine⟨h2 ⟨c.w.heap.size,0,vs.toArray,ty,e1,heap_alloc_new _ _,by simpa using hv.1.symm,fun j x v hx hu=>eD.2 j x v hx (by simpa using hu)⟩,h1,.ptr _ _ cs _ 0 ?_ e1⟩;simp[c',Cx.add]
theorem PM{t:Nat}{x:Operand}{v:AV}(hv:aZ E.G s x v){l:List AV}(hl:DR v l):bw E (.box t x) s h (.ptr h.length 0) (h++[.cells l]):=fun o c a h1 h2 h3 h4=>by
 subst h2;obtain⟨us,tP,kx⟩:=hl c _ (hv c a h3 h4);obtain⟨w1,w2,w3⟩:=h3.DS kx t;refine⟨_,_,.inl ?_,rfl,w1,w3,w2⟩;simp only[execOp,h1,Instr.box,newVar,newRow,newObj,Sem.run_bind,Sem.run,Result.andThen_ok,Sem.run_pure,tP];rfl
theorem Iw:∀ {vs:List Value} {l:List DV},yd (vs.map tH)=some l->l.length=vs.length/\∀ (j:Nat) (x:DV) (v:Value),l[j]?=some x->vs[j]?=some v->tH v=some x
 |[],l,h=>by cases h;exact⟨rfl,fun j x v h=>by simp at h⟩
 |v::vs,l,h=>by
  simp only[List.map_cons]at h;cases hv:tH v with
  |none=>rw[hv]at h;cases h
  |some x =>
   rw[hv]at h;simp only[yd,Option.map_eq_some_iff]at h;obtain⟨l',h1,rfl⟩:=h;obtain⟨h2,h3⟩:=Iw h1;refine⟨by simp[h2],fun j y u hy hu=>?_⟩;cases j with
   |zero=>simp at hy hu;subst hy;subst hu;exact hv
   |succ j=>exact h3 j y u (by simpa using hy) (by simpa using hu)
theorem Ix{P:Program}{t:Nat}{i:br}(ht:eU P t=some i)(hz:i.zero.length=i.size)(cQ:0<i.size):∃ z:Value,(∀ w,(zeroValue t).run P w=.ok z w)/\∀ c:Cx,∃ vs:List Value,z.cells=vs.toArray/\VL c (i.zero.map .d) vs:=by
 obtain⟨ti,d,h1,h2,h3,h4,h5,h6⟩:=cD ht;cases nN:ti.zero with
 |none=>rw[h6,nN]at hz;simp[vU]at hz;omega
 |some z =>
  rw[h6,nN]at hz;simp only[vU,Option.bind_some]at hz;cases ha:yd (z.cells.toList.map tH)with
  |none=>rw[ha]at hz;simp at hz;omega
  |some l =>
   refine⟨z,fun w=>by simp only[zeroValue,typeInfo,bind,Sem.bind,program,h1,pure,Sem.run,nN],fun c=>⟨z.cells.toList,by simp,?_⟩⟩;have:i.zero=l:=by rw[h6,nN];simp[vU,ha]
   rw[this];obtain⟨g1,g2⟩:=Iw ha;exact .tO g1 (fun j x v hx hu=>Ir (g2 j x v hx hu))
theorem PN(hE:E.OK){t:Nat}{i:br}(hi:E.T[t]?=some i)(hz:i.zero.length=i.size)(cQ:0<i.size):bw E (.alloc t) s h (.ptr h.length 0) (h++[.cells (i.zero.map .d)]):=fun o c a h1 h2 h3 h4=>by
 subst h2;obtain⟨z,gr,ix⟩:=Ix (hE.types t i hi) hz cQ;obtain⟨us,tP,kx⟩:=ix c;obtain⟨w1,w2,w3⟩:=h3.DS kx t;refine⟨_,_,.inl ?_,rfl,w1,w3,w2⟩;simp only[execOp,h1,Instr.alloc,newVar,newRow,newObj,Sem.run_bind,Sem.run,Result.andThen_ok,Sem.run_pure,gr,tP];rfl
end
end Go.ay
end
section
namespace Go.ay
open Go Go.RowKit
section
variable {E:Env} {s:List AV} {h:List af} {c:Cx} {G:List (Nat × DV)}
theorem PO{x a b:Operand}{v:AV}(hx:aZ E.G s x (.d (.bool true)))(ha:aZ E.G s a v):bw E (.pick x a b) s h v h :=
 .quiet fun o c ac h1 _ h3 h4=>⟨_,by simp only[execOp,h1,tN (hx c ac h3 h4),asBool,Sem.run_bind,Sem.run_pure,Result.andThen_ok,if_true],ha c ac h3 h4⟩
theorem PQ{x a b:Operand}{v:AV}(hx:aZ E.G s x (.d (.bool false)))(hb:aZ E.G s b v):bw E (.pick x a b) s h v h :=
 .quiet fun o c ac h1 _ h3 h4=>⟨_,by simp only[execOp,h1,tN (hx c ac h3 h4),asBool,Sem.run_bind,Sem.run_pure,Result.andThen_ok];rfl,hb c ac h3 h4⟩
theorem wa(op:BinOp)(t:TypeId)(x y:Operand)(j j':IntKind)(a b:Int):eqGuard op t x y (.int j a) (.int j' b)=pure ():=by
 unfold eqGuard;cases op<;>rfl
theorem PR(op:BinOp)(t:TypeId)(x y:Operand)(a b:ByteArray):eqGuard op t x y (.string a) (.string b)=pure ():=by
 unfold eqGuard;cases op<;>rfl
theorem PT(op:BinOp)(t:TypeId)(x y:Operand)(a b:Bool):eqGuard op t x y (.bool a) (.bool b)=pure ():=by
 unfold eqGuard;cases op<;>rfl
theorem rT{j j':IntKind}(h:IntKind.same j j'=true):j=j':=by
 cases j<;>cases j'<;>first|rfl|cases h
theorem qj{P:Program}{o:Oper}{ac:Act}{w:World}{op:BinOp}{t t':TypeId}{x y:Operand}{u:Value}(h1:o.op=.binOp op t x y t')(hg:eqGuard op t x y (ac.eval x) (ac.eval y)=pure ())
  (h:(binOp op t (ac.eval x) (ac.eval y)).run P w=.ok u w):(execOp ac.eval o).run P w=.ok (.value u) w:=by
 simp only[execOp,h1,hg,Sem.run_bind,Sem.run_pure,Result.andThen_ok,h]
theorem ok_int{op:BinOp}{t t':TypeId}{x y:Operand}{j:IntKind}{a b:Int}(hx:aZ E.G s x (.d (.int j a)))(hy:aZ E.G s y (.d (.int j b))){stop:Prop}{k:AV->Prop}(H:DL op j a b stop k) :
  stop\/∃ v,k v/\bw E (.binOp op t x y t') s h v h:=by
 unfold DL at H;split at H;all_goals first
  |exact .inl H
  |refine .inr ⟨_,H,.quiet fun o c ac h1 _ h3 h4=>?_⟩
   have e1:=dW (hx c ac h3 h4);have e2:=dW (hy c ac h3 h4)
   refine⟨_,qj h1 (by rw[e1,e2];exact wa ..) (u:=?_) (by
    rw[e1,e2];simp only[binOp,ne_eq,not_true_eq_false,if_false,Op.intArith,Op.intCmp]
    rfl),.d _ _ (by constructor)⟩
theorem PU{op:BinOp}{t t':TypeId}{x y:Operand}{a b:List UInt8}(hx:aZ E.G s x (.d (.str a)))(hy:aZ E.G s y (.d (.str b))){stop:Prop}{k:AV->Prop}(H:DM op a b stop k) :
  stop\/∃ v,k v/\bw E (.binOp op t x y t') s h v h:=by
 have tl:∀ l:List UInt8,(ByteArray.mk l.toArray).toList=l:=fun l=>by simp
 unfold DM at H;split at H;all_goals first
  |exact .inl H
  |refine .inr ⟨_,H,.quiet fun o c ac h1 _ h3 h4=>?_⟩
   have e1:=pf (hx c ac h3 h4);have e2:=pf (hy c ac h3 h4)
   refine⟨_,qj h1 (by rw[e1,e2];exact PR ..) (u:=?_) (by
    rw[e1,e2];simp only[binOp,Op.stringOp,tl]
    rfl),.d _ _ (by constructor)⟩
theorem Iy{op:BinOp}{t t':TypeId}{x y:Operand}{i:br}(ht:eU E.P t=some i){a b:Bool}(hx:aZ E.G s x (.d (.bool a)))(hy:aZ E.G s y (.d (.bool b)))(hk:i.k=.bool)(v:Bool)
  (cm:op=.eql/\v=(a==b)\/op=.neq/\v = !(a==b)):bw E (.binOp op t x y t') s h (.d (.bool v)) h :=
 .quiet fun o c ac h1 _ h3 h4=>by
  have e1:=tN (hx c ac h3 h4);have e2:=tN (hy c ac h3 h4);obtain⟨ti,d,g1,g2,g3,-⟩:=cD ht;have hd:d=.bool:=by rw[hk]at g3;cases d<;>first|rfl|cases g3
  subst hd;have heq:∀ w,(Op.equal t (.bool a) (.bool b)).run E.P w=.ok (a==b) w:=fun w=>by
   have:∀ n,(Op.equalIn (n+1) t (.bool a) (.bool b)).run E.P w=.ok (a==b) w:=fun n=>by
    rw[Op.equalIn];simp only[Sem.run_bind,run_underlying g2,Result.andThen_ok,Sem.run_pure]
   exact this 9999
  refine⟨_,qj h1 (by rw[e1,e2];exact PT ..) (u := .bool v) ?_,.d _ _ (.bool v)⟩;rw[e1,e2];rcases cm with⟨rfl,rfl⟩|⟨rfl,rfl⟩<;>simp only[binOp,Sem.run_bind,heq,Result.andThen_ok,Sem.run_pure]
theorem Iz{op:BinOp}{t t':TypeId}{x y:Operand}{j:IntKind}{a:Int}(cm:op=.quo\/op=.rem)(hx:aZ E.G s x (.d (.int j a))){stop:Prop}{k:AV->Prop}(H:A2 op j a y stop k) :
  stop\/∃ v,k v/\bw E (.binOp op t x y t') s h v h:=by
 unfold A2 at H;split at H
 ·rename_i j' m;have aI:¬ (Int.ofNat (m+1)=0):=by intro h;cases h
  rcases cm with rfl|rfl
  ·dsimp only at H;split at H
   ·rename_i hs;obtain rfl:=rT hs;refine .inr ⟨_,H,.quiet fun o c ac h1 _ h3 h4=>⟨_,qj h1 (by rw[dW (hx c ac h3 h4)];exact wa ..) (u := .int j (j.wrap (a.tdiv (.ofNat (m+1))))) ?_,.d _ _ (.int _ _)⟩⟩;rw[dW (hx c ac h3 h4)];simp only[Act.eval,binOp,ne_eq,not_true_eq_false,if_false,Op.intDiv,aI,Sem.run_pure]
   ·exact .inl H
  ·dsimp only at H;split at H
   ·rename_i hs;obtain rfl:=rT hs;refine .inr ⟨_,H,.quiet fun o c ac h1 _ h3 h4=>⟨_,qj h1 (by rw[dW (hx c ac h3 h4)];exact wa ..) (u := .int j (a.tmod (.ofNat (m+1)))) ?_,.d _ _ (.int _ _)⟩⟩;rw[dW (hx c ac h3 h4)];simp only[Act.eval,binOp,ne_eq,not_true_eq_false,if_false,Op.intDiv,aI,Sem.run_pure]
   ·exact .inl H
 ·exact .inl H
theorem PV{op:BinOp}(cm:op ≠ .quo/\op ≠ .rem){t t':TypeId}{x y:Operand}{i:br}(ht:eU E.P t=some i){a b:AV}(hx:aZ E.G s x a)(hy:aZ E.G s y b){stop:Prop}{k:AV->Prop}(H:DN i op a b stop k) :
  stop\/∃ v,k v/\bw E (.binOp op t x y t') s h v h:=by
 unfold DN at H;split at H
 ·split at H
  ·rename_i hs;obtain rfl:=rT hs;exact ok_int hx hy H
  ·exact .inl H
 ·exact PU hx hy H
 ·split at H
  ·rename_i hk;exact .inr ⟨_,H,Iy ht hx hy hk _ (.inl ⟨rfl,rfl⟩)⟩
  ·rename_i hk;exact .inr ⟨_,H,Iy ht hx hy hk _ (.inr ⟨rfl,rfl⟩)⟩
  ·exact .inl H
 ·exact .inl H
theorem PW{t:TypeId}{x:Operand}{b:Bool}(hx:aZ E.G s x (.d (.bool b))):bw E (.unOp .not t x) s h (.d (.bool !b)) h :=
 .quiet fun o c ac h1 _ h3 h4=>⟨.bool !b,by simp only[execOp,h1,tN (hx c ac h3 h4),Op.unary,Sem.run_bind,Sem.run_pure,Result.andThen_ok],.d _ _ (.bool _)⟩
theorem PX{t:TypeId}{x:Operand}{j:IntKind}{n:Int}(hx:aZ E.G s x (.d (.int j n))):bw E (.unOp .neg t x) s h (.d (.int j (j.wrap (0-n)))) h :=
 .quiet fun o c ac h1 _ h3 h4=>⟨.int j (j.wrap (0-n)),by simp only[execOp,h1,dW (hx c ac h3 h4),Op.unary,Op.intArith,Sem.run_bind,Sem.run_pure,Result.andThen_ok],.d _ _ (.int _ _)⟩
theorem PY{x:Operand}{n:Nat}{l:List AV}(hx:aZ E.G s x (.aD l)){v:AV}(hv:l[n]?=some v):bw E (.extract x n) s h v h :=
 .quiet fun o c ac h1 _ h3 h4=>by
  have:=hx c ac h3 h4;generalize he:ac.eval x=u at this;cases this with
  |aD _ vs hl bH =>
   have hn:n<vs.size:=by
    rw[<- hl];rcases Nat.lt_or_ge n l.length with h|h
    ·exact h
    ·rw[List.getElem?_eq_none h]at hv;cases hv
   exact⟨vs[n],by simp only[execOp,h1,he,Instr.extract,Sem.run_bind,Sem.run_pure,Result.andThen_ok,Array.getElem?_eq_getElem hn],bH n v vs[n] hv (by simp[hn])⟩
theorem PZ{x:Operand}{n:Nat}{l:List DV}(hx:aZ E.G s x (.d (.aD l))){v:DV}(hv:l[n]?=some v):bw E (.extract x n) s h (.d v) h :=
 .quiet fun o c ac h1 _ h3 h4=>by
  have:=hx c ac h3 h4;generalize he:ac.eval x=u at this;cases this with
  |d _ _ hd=>cases hd with
   |aD _ vs hl bH =>
    have hn:n<vs.size:=by
     rw[<- hl];rcases Nat.lt_or_ge n l.length with h|h
     ·exact h
     ·rw[List.getElem?_eq_none h]at hv;cases hv
    exact⟨vs[n],by simp only[execOp,h1,he,Instr.extract,Sem.run_bind,Sem.run_pure,Result.andThen_ok,Array.getElem?_eq_getElem hn],.d _ _ (bH n v vs[n] hv (by simp[hn]))⟩
theorem wb{d:TypeDesc}{j:IntKind}(h:TK.int j=tk d):d=.int j:=by cases d<;>first|cases h<;>rfl|cases h
theorem rU{d:TypeDesc}(h:TK.string=tk d):d=.string:=by cases d<;>first|rfl|cases h
theorem lj{d:TypeDesc}{e:Nat}(h:TK.slice e=tk d):d=.slice e:=by cases d<;>first|cases h<;>rfl|cases h
theorem we{d:TypeDesc}{n e:Nat}(h:TK.array n e=tk d):d=.array n e:=by cases d<;>first|cases h<;>rfl|cases h
theorem qk{d:TypeDesc}{fs:List (Nat × Nat)}(h:TK.struct fs=tk d):∃ fl,d=.struct fl/\fs=fl.toList.map fun f=>(f.offset,f.type):=by
 cases d with
 |struct fl=>exact⟨fl,rfl,by injection h⟩
 |_=>cases h
theorem P0{t0 t:TypeId}{x:Operand}{i i0:br}(ht:eU E.P t=some i)(DT:eU E.P t0=some i0){j j':IntKind}{n:Int}(hk:i.k=.int j)(hx:aZ E.G s x (.d (.int j' n))):bw E (.convert t0 t x) s h (.d (.int j (j.wrap n))) h :=
 .quiet fun o c ac h1 _ h3 h4=>by
  obtain⟨ti,d,g1,g2,g3,-⟩:=cD ht;obtain⟨Ba,d0,k1,k2,-⟩:=cD DT;obtain rfl:=wb (hk.symm.trans g3);refine⟨.int j (j.wrap n),?_,.d _ _ (.int _ _)⟩;simp only[execOp,h1,dW (hx c ac h3 h4),convert,Sem.run_bind,run_underlying k2,run_underlying g2,Result.andThen_ok,Conv.intToInt,Sem.run_pure]
theorem P1{t0 t:TypeId}{x:Operand}{i i0:br}(ht:eU E.P t=some i)(DT:eU E.P t0=some i0){l:List UInt8}(hk:i.k=.string)(hx:aZ E.G s x (.d (.str l))):bw E (.convert t0 t x) s h (.d (.str l)) h :=
 .quiet fun o c ac h1 _ h3 h4=>by
  obtain⟨ti,d,g1,g2,g3,-⟩:=cD ht;obtain⟨Ba,d0,k1,k2,-⟩:=cD DT;obtain rfl:=rU (hk.symm.trans g3);refine⟨.string ⟨l.toArray⟩,?_,.d _ _ (.str _)⟩;simp only[execOp,h1,pf (hx c ac h3 h4),convert,Sem.run_bind,run_underlying k2,run_underlying g2,Result.andThen_ok,Sem.run_pure]
end
end Go.ay
end
section
namespace Go.ay
open Go Go.RowKit
section
variable {E:Env} {s:List AV} {h:List af} {c:Cx} {G:List (Nat × DV)}
theorem P2{P:Program}{t f off ft:Nat}{i fi:br}(ht:eU P t=some i)(P3:eU P ft=some fi)(cQ:0<fi.size){fs:List (Nat × Nat)}(hk:i.k=.struct fs)(hf:fs[f]?=some (off,ft))(w:World)(b o:Nat) :
  (Instr.fieldAt t (.pointer (some ⟨b,o,none⟩)) f).run P w=.ok (.pointer (some ⟨b,o+off,none⟩)) w:=by
 obtain⟨ti,d,g1,g2,g3,-⟩:=cD ht;obtain⟨fl,rfl,rfl⟩:=qk (hk.symm.trans g3);simp only[List.getElem?_map,Option.map_eq_some_iff]at hf;obtain⟨fd,hf,rV⟩:=hf;simp only[Prod.mk.injEq]at rV;obtain⟨rfl,rfl⟩:=rV;have DU:fl[f]?=some fd:=by simpa using hf
 have hz:¬ (fi.size=0):=by omega
 simp only[Instr.fieldAt,Sem.run_bind,run_underlying g2,Result.andThen_ok,DU,Instr.sureAddr,Sem.run_pure,fieldPlace,run_sizeOf P3,hz,if_false,mN]
theorem IA{i:br}{f:Nat}{stop:Prop}{k:Nat->Nat->Prop}(H:A3 i f stop k):stop\/∃ fs off ft,i.k=.struct fs/\fs[f]?=some (off,ft)/\k off ft:=by
 unfold A3 at H;split at H
 ·rename_i fs hk;rcases bo H with h|⟨p,hp,h⟩
  ·exact .inl h
  ·exact .inr ⟨fs,p.1,p.2,hk,hp,h⟩
 ·exact .inl H
theorem DW(hE:E.OK){t f off ft:Nat}{x:Operand}{i fi:br}(hi:E.T[t]?=some i)(jH:E.T[ft]?=some fi)(cQ:0<fi.size){fs:List (Nat × Nat)}(hk:i.k=.struct fs)(hf:fs[f]?=some (off,ft)){a a':AV}(ha:aZ E.G s x a)
  (DX:(∃ b o,a=.ptr b o/\a'=.ptr b (o+off)/\∃ cs,h[b]?=some (.cells cs))\/(∃ e o,a=.bO e o/\a'=.bO e (o+off))\/(∃ b g i o ts l,a=.cV b g i o/\a'=.cV b g i (o+off)/\h[b]?=some (.arr g ts l))) :
  bw E (.fieldAddr t x f) s h a' h := .quiet fun o c ac h1 h2 h3 h4=>by
 subst h2;have hv:=ha c ac h3 h4;have run:=P2 (hE.types t i hi) (hE.types ft fi jH) cQ hk hf;generalize hp:ac.eval x=p at hv;have fin:∀ blk o',p=.pointer (some ⟨blk,o',none⟩)->(execOp ac.eval o).run E.P c.w=.ok (.value (.pointer (some ⟨blk,o'+off,none⟩))) c.w:=fun blk o' e=>by
  simp only[execOp,h1,hp,e,Sem.run_bind,run,Result.andThen_ok,Sem.run_pure]
 rcases DX with⟨b,o1,rfl,rfl,cs,hb⟩|⟨e,o1,rfl,rfl⟩|⟨b,g,j,o1,ts,l,rfl,rfl,hb⟩
 ·cases hv with
  |ptr _ _ cs blk cap k1 k2=>exact⟨_,fin blk o1 rfl,.ptr _ _ cs blk cap k1 k2⟩
  |iv _ _ _ k1 _=>rw[hb]at k1;cases k1
 ·cases hv with
  |bO _ _ blk o' fv k1 k2 k3 k4=>exact⟨_,fin blk (o'+o1) rfl,by rw[Nat.add_assoc];exact .bO _ _ blk o' fv k1 k2 k3 k4⟩
 ·cases hv with
  |cV _ _ _ _ ts l blk cap k1 k2 k3=>exact⟨_,fin blk (j*ts.2+o1) rfl,by rw[Nat.add_assoc];exact .cV _ _ _ _ ts l blk cap k1 k2 k3⟩
  |lW _ _ g' _ _ _ _ _ k1 k2 _=>rw[hb]at k1;cases k1;omega
  |lX _ _ _ _ _ k1 _=>rw[hb]at k1;cases k1
theorem P4{P:Program}{t:Nat}{i:br}(ht:eU P t=some i)(w:World)(vs:List Value)(off:Nat)(fK:i.k.agg=true) :
  (part t vs.toArray off).run P w=.ok (.agg ((vs.drop off).take i.size).toArray) w:=by
 have:vs.toArray.extract off (off+i.size)=((vs.drop off).take i.size).toArray:=by
  simp[List.extract_eq_take_drop]
 simp only[part,Sem.run_bind,A6 ht,fK,Result.andThen_ok,if_true,run_sizeOf ht,Sem.run_pure,this]
theorem yj{P:Program}{t:Nat}{i:br}(ht:eU P t=some i)(w:World)(vs:List Value)(off:Nat)(v:Value)(hv:vs[off]?=some v)(fK:i.k.agg=false) :
  (part t vs.toArray off).run P w=.ok v w:=by
 have:vs.toArray[off]?=some v:=by simpa using hv
 simp only[part,Sem.run_bind,A6 ht,fK,Result.andThen_ok,Bool.false_eq_true,if_false,this,Sem.run_pure]
theorem P5{i:br}{l:List AV}{off:Nat}{stop:Prop}{k:AV->Prop}(H:lh i l off stop k):stop\/∃ x,k x/\∀ (P:Program) (t:Nat) (c:Cx) (vs:List Value),eU P t=some i->VL c l vs ->
  ∃ v,(part t vs.toArray off).run P c.w=.ok v c.w/\VR c x v:=by
 unfold lh at H;split at H
 ·rename_i fK;rw[DH,It]at H;split at H
  ·obtain⟨x,hx,h⟩:=yg H;refine .inr ⟨x,hx,fun P t c vs ht hv=>⟨_,?_,h c _ ((hv.drop off).take _)⟩⟩;exact P4 ht c.w vs off fK
  ·exact .inl H
 ·rename_i fK;rcases bo H with h|⟨x,hx,h⟩
  ·exact .inl h
  refine .inr ⟨x,h,fun P t c vs ht hv=>?_⟩;have ah:off<vs.length:=by
   rw[<- hv.1];rcases Nat.lt_or_ge off l.length with h|h
   ·exact h
   ·rw[List.getElem?_eq_none h]at hx;cases hx
  exact⟨vs[off],yj ht c.w vs off _ (by simp[ah]) fK,hv.2 off x _ hx (by simp[ah])⟩
theorem IB(hE:E.OK){t f off ft:Nat}{x:Operand}{i fi:br}(hi:E.T[t]?=some i)(jH:E.T[ft]?=some fi){fs:List (Nat × Nat)}(hk:i.k=.struct fs)(hf:fs[f]?=some (off,ft)){a:AV}(ha:aZ E.G s x a){l:List AV}
  (hl:∀ (c:Cx) (v:Value),VR c a v->∃ vs:List Value,v=.agg vs.toArray/\VL c l vs) {stop:Prop} {k:AV->Prop} (H:lh fi l off stop k):stop\/∃ v,k v/\bw E (.field t x f) s h v h:=by
 rcases P5 H with h|⟨v,hv,hp⟩
 ·exact .inl h
 refine .inr ⟨v,hv,.quiet fun o c ac h1 _ h3 h4=>?_⟩;obtain⟨vs,he,iy⟩:=hl c _ (ha c ac h3 h4);obtain⟨u,hu,qf⟩:=hp E.P ft c vs (hE.types ft fi jH) iy;obtain⟨ti,d,g1,g2,g3,-⟩:=cD (hE.types t i hi);obtain⟨fl,rfl,rfl⟩:=qk (hk.symm.trans g3);simp only[List.getElem?_map,Option.map_eq_some_iff]at hf;obtain⟨fd,hf,rV⟩:=hf;simp only[Prod.mk.injEq]at rV;obtain⟨rfl,rfl⟩:=rV;have DU:fl[f]?=some fd:=by simpa using hf
 refine⟨u,?_,qf⟩;simp only[execOp,h1,he,Instr.field,Sem.run_bind,run_underlying g2,Result.andThen_ok,DU,asAgg,Sem.run_pure,hu]
theorem DY{x:Operand}{a:AV}(ha:aZ E.G s x a)
  (DX:(∃ b o,a=.ptr b o/\∃ cs,h[b]?=some (.cells cs))\/(∃ e o,a=.bO e o)\/(∃ b g i o ts l,a=.cV b g i o/\h[b]?=some (.arr g ts l))):bw E (.nilCheck x) s h a h := .quiet fun o c ac h1 h2 h3 h4=>by
 subst h2;have hv:=ha c ac h3 h4;refine⟨ac.eval x,?_,hv⟩;generalize hp:ac.eval x=p at hv;have fin:∀ a',p=.pointer (some a')->(execOp ac.eval o).run E.P c.w=.ok (.value p) c.w:=fun a' e=>by
  simp only[execOp,h1,hp,e];rfl
 rcases DX with⟨b,o1,rfl,cs,hb⟩|⟨e,o1,rfl⟩|⟨b,g,j,o1,ts,l,rfl,hb⟩
 ·cases hv with
  |ptr _ _ cs blk cap k1 k2=>exact fin _ rfl
  |iv _ _ _ k1 _=>rw[hb]at k1;cases k1
 ·cases hv with
  |bO _ _ blk o' fv k1 k2 k3 k4=>exact fin _ rfl
 ·cases hv with
  |cV _ _ _ _ ts l blk cap k1 k2 k3=>exact fin _ rfl
  |lW _ _ g' _ _ _ _ _ k1 k2 _=>rw[hb]at k1;cases k1;omega
  |lX _ _ _ _ _ k1 _=>rw[hb]at k1;cases k1
def jn(G:List (Nat × DV))(s:List AV)(xs:List Operand)(vs:List AV):Prop:=∀ (c:Cx) (a:Act),aK G c->VS c s a.tmps->VL c vs (xs.map a.eval)
theorem yk{stop:Prop}:∀ {xs:List Operand} {k:List AV->Prop},tK G s xs stop k->stop\/∃ vs,jn G s xs vs/\k vs
 |[],k,H => .inr ⟨[],fun _ _ _ _ => .nil,H⟩
 |x::xs,k,H=>by
  simp only[tK]at H;rcases cq H with h|⟨v,hv,H⟩
  ·exact .inl h
  rcases yk H with h|⟨vs,dm,H⟩
  ·exact .inl h
  exact .inr ⟨v::vs,fun c a h1 h2 => .cons (hv c a h1 h2) (dm c a h1 h2),H⟩
theorem P6{f:Fn}{a1 a2:Array Operand}{l1 l2:List AV}(h1:jn E.G s a1.toList l1)(h2:jn E.G s a2.toList l2):bw E (.makeFunc f a1 a2) s h (.fn f l1 l2) h :=
 .quiet fun o c ac e1 _ h3 h4=>by
  have g1:=h1 c ac h3 h4;have g2:=h2 c ac h3 h4;refine⟨.func f (a1.map ac.eval) (a2.map ac.eval),by simp only[execOp,e1,Instr.makeFunc,Sem.run_bind,Sem.run_pure,Result.andThen_ok],.fn _ _ _ _ _ (by simpa using g1.1) (by simpa using g2.1) ?_ ?_⟩
  ·exact fun j x v hx hv=>g1.2 j x v hx (by simpa using hv)
  ·exact fun j x v hx hv=>g2.2 j x v hx (by simpa using hv)
theorem wg{P:Program}{o:Oper}{ac:Act}{w:World}{args:Array Operand}{ts:Array TypeId}{x:Operand}{t:Nat}{i:br}{n:Nat}{v:Value}(h1:o.op=.call { callee := .builtin .len,args:=args,argTypes:=ts })(hx:args.toList[0]?=some x)(ht:ts.toList[0]?=some t)(bV:eU P t=some i)(he:ac.eval x=v)
  (hv:(∃ e a cap,i.k=.slice e/\v=.slice a n cap)\/(∃ b,i.k=.string/\v=.string b/\b.size=n)):(execOp ac.eval o).run P w=.ok (.value (.int .i64 n)) w:=by
 have dX:args[0]?=some x:=by simpa using hx
 have nO:ts[0]?=some t:=by simpa using ht
 have wh:(args.map ac.eval)[0]?=some v:=by rw[Array.getElem?_map,dX];simp[he]
 obtain⟨ti,d,g1,g2,g3,-⟩:=cD bV;rcases hv with⟨e,a,cap,hk,rfl⟩|⟨b,hk,rfl,hb⟩
 ·obtain rfl:=lj (hk.symm.trans g3);simp only[execOp,h1,resolve,invoke,builtin,Builtin.len_,nO,wh,Sem.run_bind,Sem.run_pure,Result.andThen_ok,run_underlying g2,goInt]
 ·obtain rfl:=rU (hk.symm.trans g3);simp only[execOp,h1,resolve,invoke,builtin,Builtin.len_,nO,wh,Sem.run_bind,Sem.run_pure,Result.andThen_ok,run_underlying g2,goInt,hb]
def yl(G:List (Nat × DV))(s:List AV)(xs:List (Nat × Operand))(vs:List (Nat × AV)):Prop:=∀ (c:Cx) (a:Act),aK G c->VS c s a.tmps->vs.map (·.1)=xs.map (·.1)/\VL c (vs.map (·.2)) (xs.map fun p=>a.eval p.2)
theorem ym{stop:Prop}:∀ {xs:List (Nat × Operand)} {k:List (Nat × AV)->Prop},tM G s xs stop k->stop\/∃ vs,yl G s xs vs/\k vs
 |[],k,H => .inr ⟨[],fun _ _ _ _=>⟨rfl,.nil⟩,H⟩
 |(n,x)::xs,k,H=>by
  simp only[tM]at H;rcases cq H with h|⟨v,hv,H⟩
  ·exact .inl h
  rcases ym H with h|⟨vs,dm,H⟩
  ·exact .inl h
  exact .inr ⟨(n,v)::vs,fun c a h1 h2=>⟨by simp[(dm c a h1 h2).1],.cons (hv c a h1 h2) (dm c a h1 h2).2⟩,H⟩
theorem DZ(off:Nat):∀ (vs:List Value) (n:Nat) (cs:Array Value),((vs.zipIdx n).foldl (fun cs (x:Value × Nat)=>cs.setIfInBounds (off+x.2) x.1) cs)=(du cs.toList (off+n) vs).toArray
 |[],_,cs=>by simp[du]
 |v::r,n,cs=>by
  simp only[List.zipIdx_cons,List.foldl_cons];rw[DZ off r (n+1)];simp[du,Nat.add_assoc]
theorem Bb{pl:Nat->Option (Nat × Nat)}{stop:Prop}:∀ {ps:List (Nat × AV)} {l:List AV} {k:List AV->Prop},vZ pl ps l stop k->stop\/∃ l',k l' /\
  ∀ (c:Cx) (vs us:List Value),VL c l vs->VL c (ps.map (·.2)) us->∃ vs':List Value,Instr.fill pl vs.toArray ((ps.map (·.1)).zip us)=some vs'.toArray/\VL c l' vs'
 |[],l,k,H => .inr ⟨l,H,fun c vs us hv hu=>⟨vs,by simp[Instr.fill],hv⟩⟩
 |(f,x)::ps,l,k,H=>by
  simp only[vZ]at H;split at H
  ·exact .inl H
  rename_i p hp;rcases A5 H with h|⟨xs,P7,H⟩
  ·exact .inl h
  split at H
  ·rename_i q1 q2;rw[DI]at H;rcases Bb H with h|⟨l',hk,hf⟩
   ·exact .inl h
   refine .inr ⟨l',hk,fun c vs us hv hu=>?_⟩;cases us with
   |nil=>have:=hu.1;simp at this
   |cons u us =>
    simp only[List.map_cons]at hu ⊢;obtain⟨h1,h2⟩:=hu.head;obtain⟨cv,rW,iy⟩:=P7 c u h1;obtain⟨vs',h3,h4⟩:=hf c (du vs p.1 cv) us (VL.du hv p.1 iy) h2;refine⟨vs',?_,h4⟩;have q1:=Nat.eq_of_beq_eq_true q1;have q2:=Nat.le_of_ble_eq_true q2;rw[iy.1]at q1 q2;rw[hv.1]at q2;simp only[List.zip_cons_cons,Instr.fill,hp];rw[if_neg (by simp[rW,q1];omega)];rw[<- h3]
    congr 1
    rw[rW];have:=DZ p.1 cv 0 vs.toArray;simp only[Nat.add_zero]at this;rw[<- this];simp
  ·exact .inl H
theorem IC{P:Program}{T:List br}(hT:∀ (t:Nat) (i:br),T[t]?=some i->eU P t=some i){stop:Prop}:∀ {fs:List Field} {k:List (Nat × Nat)->Prop},A4 T (fs.map fun f=>(f.offset,f.type)) stop k ->
  stop\/∃ pl,k pl/\fs.mapM (fun f=>(P.info? f.type).map fun i=>(f.offset,i.size))=some pl
 |[],k,H => .inr ⟨[],H,rfl⟩
 |f::fs,k,H=>by
  simp only[List.map_cons,A4]at H;rcases bo H with h|⟨i,hi,H⟩
  ·exact .inl h
  rcases IC hT H with h|⟨pl,hk,hp⟩
  ·exact .inl h
  obtain⟨ti,d,g1,g2,g3,g4,-⟩:=cD (hT _ _ hi);refine .inr ⟨_,hk,?_⟩;simp[List.mapM_cons,g1,hp,g4]
theorem ev{β:Type}(l:List β)(i:Nat):dI l i=l[i]? := by
 induction l generalizing i with
 |nil=>rfl
 |cons a l ih=>cases i with
  |zero=>rfl
  |succ i=>simpa [dI]using ih i
theorem zeroOf{P:Program}{t:Nat}{i:br}(ht:eU P t=some i)(hz:i.zero.length=i.size)(cQ:0<i.size):∃ (ti:TypeInfo) (z:Value),P.info? t=some ti/\ti.zero=some z/\i.size=ti.size/\∀ c:Cx,∃ vs:List Value,z.cells=vs.toArray/\VL c (i.zero.map .d) vs:=by
 obtain⟨ti,d,h1,h2,h3,h4,h5,h6⟩:=cD ht;obtain⟨z,gr,ix⟩:=Ix ht hz cQ;cases nN:ti.zero with
 |none=>rw[h6,nN]at hz;simp[vU]at hz;omega
 |some z' =>
  have:=gr default;simp only[zeroValue,typeInfo,bind,Sem.bind,program,h1,pure,Sem.run,nN,Result.ok.injEq,and_true]at this;subst this;exact⟨ti,z',h1,nN,h4,ix⟩
theorem ID(hE:E.OK){t:Nat}{i:br}(hi:E.T[t]?=some i){parts:Array (Nat × Operand)}{ps:List (Nat × AV)}(gM:yl E.G s parts.toList ps)(hz:i.zero.length=i.size)(cQ:0<i.size){pl:Nat->Option (Nat × Nat)}{l:List AV}{v:AV}
  (hb:∀ (ti:TypeInfo) (z:Value),E.P.info? t=some ti->ti.zero=some z->∀ us,E.P.built t us=Instr.fill pl z.cells us)
  (hf:∀ (c:Cx) (vs us:List Value),VL c (i.zero.map .d) vs->VL c (ps.map (·.2)) us->∃ vs':List Value,Instr.fill pl vs.toArray ((ps.map (·.1)).zip us)=some vs'.toArray/\VL c l vs')
  (hv:∀ (c:Cx) (vs:List Value),VL c l vs->VR c v (.agg vs.toArray)):bw E (.build t parts) s h v h :=
 .quiet fun o c ac h1 _ h3 h4=>by
  obtain⟨ti,z,g1,g2,g3,g4⟩:=zeroOf (hE.types t i hi) hz cQ;obtain⟨zs,jo,ky⟩:=g4 c;obtain⟨p1,p2⟩:=gM c ac h3 h4;obtain⟨vs',f1,f2⟩:=hf c zs _ ky p2;refine⟨.agg vs'.toArray,?_,hv c vs' f2⟩;have cw:=hb ti z g1 g2 (parts.map fun(i,x)=>(i,ac.eval x)).toList;have e:(parts.map fun(i,x)=>(i,ac.eval x)).toList=(ps.map (·.1)).zip (parts.toList.map fun p=>ac.eval p.2):=by
   rw[p1,Array.toList_map];generalize parts.toList=q
   induction q with
   |nil=>rfl
   |cons a q ih=>simp only[List.map_cons,List.zip_cons_cons,ih]
  rw[e,jo,f1]at cw;rw[<- e]at cw;simp only[execOp,h1,Sem.run_bind,run_build c.w t _ _ cw,Result.andThen_ok,Sem.run_pure]
theorem P8{P:Program}{t:Nat}{ti:TypeInfo}{z:Value}{fl:Array Field}{pl:List (Nat × Nat)}(h1:P.info? t=some ti)(h2:P.underlying t=some (.struct fl))(h3:ti.zero=some z)(h4:fl.toList.mapM (fun f=>(P.info? f.type).map fun i=>(f.offset,i.size))=some pl)(us:List (Nat × Value)) :
  P.built t us=Instr.fill (dI pl) z.cells us:=by
 have:(dI pl)=(pl.toArray[·]?):=funext fun i=>by rw[ev];simp
 simp only[Program.built,h1,h2,h3,h4,this]
theorem P9{P:Program}{t n e:Nat}{ti ei:TypeInfo}{z:Value}(h1:P.info? t=some ti)(h2:P.underlying t=some (.array n e))(h3:ti.zero=some z)(h4:P.info? e=some ei)(us:List (Nat × Value)) :
  P.built t us=Instr.fill (fun i=>some (i*ei.size,ei.size)) z.cells us:=by
 simp only[Program.built,h1,h2,h3,h4]
end
end Go.ay
end
section
namespace Go.ay
open Go Go.RowKit
def flat(l:List DV):List DV:=l.flatMap DV.cells
theorem D0{β:Type}:∀ (v p a r:List β),a.length=v.length->du (p++a++r) p.length v=p++v++r
 |[],p,a,r,h=>by obtain rfl:a=[]:=List.eq_nil_of_length_eq_zero h;simp[du]
 |x::v,p,a,r,h=>by
  cases a with
  |nil=>simp at h
  |cons y a =>
   have h1:(p++y::a++r).set p.length x=(p++[x])++a++r:=by simp
   have:=D0 v (p++[x]) a r (by simpa using h);simp only[List.length_append,List.length_cons,List.length_nil,Nat.zero_add]at this;rw[du,h1,this];simp
theorem D1(a b:List DV):flat (a++b)=flat a++flat b:=by simp[flat]
theorem nP{sz:Nat}:∀ {l:List DV},(∀ (i:Nat) (e:DV),l[i]?=some e->e.cells.length=sz)->(flat l).length=l.length*sz
 |[],_=>by simp[flat]
 |e::l,h=>by
  have h1:=h 0 e rfl;have h2:=nP (l:=l) (fun i e he=>h (i+1) e (by simpa using he));simp only[flat,List.flatMap_cons,List.length_append,List.length_cons]at h2 ⊢;rw[h1,h2,Nat.add_mul,Nat.one_mul,Nat.add_comm]
theorem flat_get{sz:Nat}{l:List DV}(h:∀ (i:Nat) (e:DV),l[i]?=some e->e.cells.length=sz){i j:Nat}{e:DV}(he:l[i]?=some e)(hj:j<sz):(flat l)[i*sz+j]?=e.cells[j]? := by
 induction l generalizing i with
 |nil=>simp at he
 |cons a l ih =>
  have h0:=h 0 a rfl;cases i with
  |zero =>
   simp at he;subst he;simp only[flat,List.flatMap_cons,Nat.zero_mul,Nat.zero_add];rw[List.getElem?_append_left (by omega)]
  |succ i =>
   have:=ih (fun i e he=>h (i+1) e (by simpa using he)) (i:=i) (by simpa using he);simp only[flat,List.flatMap_cons]at this ⊢;rw[List.getElem?_append_right (by rw[h0,Nat.add_mul];omega),h0,<- this]
   congr 1
   rw[Nat.add_mul];omega
theorem P'{sz:Nat}{l:List DV}(h:∀ (i:Nat) (e:DV),l[i]?=some e->e.cells.length=sz){f:Nat}(hf:f<l.length){e:DV}(he:e.cells.length=sz):flat (l.set f e)=du (flat l) (f*sz) e.cells:=by
 have h1:l=l.take f++l[f]::l.drop (f+1):=by simp
 have h2:l.set f e=l.take f++e::l.drop (f+1):=by rw[List.set_eq_take_append_cons_drop,if_pos hf]
 have h3:(flat (l.take f)).length=f*sz:=by
  rw[nP (sz:=sz) (fun i e he=>h i e (by rw[List.getElem?_take]at he;split at he;exact he;cases he)),List.length_take,Nat.min_eq_left (by omega)]
 have h4:=D0 e.cells (flat (l.take f)) l[f].cells (flat (l.drop (f+1))) (by rw[he];exact h f _ (by simp[hf]));have e1:flat l=flat (l.take f)++l[f].cells++flat (l.drop (f+1)):=by
  have:=congrArg flat h1;rw[D1]at this;rw[this];simp only[flat,List.flatMap_cons,List.append_assoc]
 have e2:flat (l.set f e)=flat (l.take f)++e.cells++flat (l.drop (f+1)):=by rw[h2,D1];simp[flat]
 rw[e2,e1,<- h3];exact h4.symm
section
variable {E:Env} {s:List AV} {h:List af} {c:Cx} {G:List (Nat × DV)}
theorem Bc{k:List DV->Prop}{x:DV}:∀ {n:Nat},tL n x k=k (List.replicate n x):=by
 intro n
 induction n generalizing k with
 |zero=>rfl
 |succ n ih=>simp only[tL,ih,List.replicate_succ]
def iz(sz:Nat)(l:List DV):Prop:=∀ (i:Nat) (e:DV),l[i]?=some e->e.cells.length=sz
theorem iz.set{sz:Nat}{l:List DV}(hl:iz sz l)(f:Nat){e:DV}(he:e.cells.length=sz):iz sz (l.set f e):=fun i e' h'=>by
 rw[List.getElem?_set]at h';split at h'
 ·split at h'
  ·cases h';exact he
  ·cases h'
 ·exact hl i e' h'
def pk(l:List DV):Prop:=∀ (i:Nat) (e:DV),l[i]?=some e->∀ y∈e.cells,y.fa=true
theorem pk.set{l:List DV}(hl:pk l)(f:Nat){e:DV}(he:∀ y∈e.cells,y.fa=true):pk (l.set f e):=fun i e' h'=>by
 rw[List.getElem?_set]at h';split at h'
 ·split at h'
  ·cases h';exact he
  ·cases h'
 ·exact hl i e' h'
theorem pk.flat{l:List DV}(hl:pk l):∀ x∈flat l,x.fa=true:=fun x hx=>by
 simp only[ay.flat,List.mem_flatMap]at hx;obtain⟨e,he,hx⟩:=hx;obtain⟨i,hi⟩:=List.getElem?_of_mem he;exact hl i e hi x hx
theorem D2{sz:Nat}{stop:Prop}:∀ {ps:List (Nat × AV)} {l:List DV} {k:List DV->Prop},iz sz l->pk l->oH sz ps l stop k->stop\/∃ l',k l'/\iz sz l'/\pk l'/\l'.length=l.length /\
  ∀ (c:Cx) (vs us:List Value),VL c ((flat l).map .d) vs->VL c (ps.map (·.2)) us->∃ vs':List Value,Instr.fill (fun i=>some (i*sz,sz)) vs.toArray ((ps.map (·.1)).zip us)=some vs'.toArray/\VL c ((flat l').map .d) vs'
 |[],l,k,hl,fA,H => .inr ⟨l,H,hl,fA,rfl,fun c vs us hv hu=>⟨vs,by simp[Instr.fill],hv⟩⟩
 |(f,x)::ps,l,k,hl,fA,H=>by
  have key:∀ (e:DV),x=.d e->e.cells.length=sz->(∀ y∈e.cells,y.fa=true)->f<l.length->oH sz ps (l.set f e) stop k->stop\/∃ l',k l'/\iz sz l'/\pk l'/\l'.length=l.length /\
    ∀ (c:Cx) (vs us:List Value),VL c ((flat l).map .d) vs->VL c (((f,x)::ps).map (·.2)) us->∃ vs':List Value,Instr.fill (fun i=>some (i*sz,sz)) vs.toArray ((((f,x)::ps).map (·.1)).zip us)=some vs'.toArray/\VL c ((flat l').map .d) vs':=by
   intro e hx he lZ hf H';subst hx;rcases D2 (hl.set f he) (fA.set f lZ) H' with h|⟨l',h1,h2,iO,h3,h4⟩
   ·exact .inl h
   refine .inr ⟨l',h1,h2,iO,by simpa using h3,fun c vs us hv hu=>?_⟩;cases us with
   |nil=>have:=hu.1;simp at this
   |cons u us =>
    simp only[List.map_cons]at hu ⊢;obtain⟨g1,g2⟩:=hu.head;have wi:∃ cv:List Value,u.cells=cv.toArray/\VL c (e.cells.map .d) cv:=by
     by_cases fK:∃ el,e=.agg el
     ·obtain⟨el,rfl⟩:=fK;obtain⟨cv,rfl,hc⟩:=DP g1;exact⟨cv,rfl,hc⟩
     ·have lk:e.cells=[e]:=by cases e<;>first|rfl|exact absurd ⟨_,rfl⟩ fK
      rw[lk];refine⟨[u],?_,.cons g1 .nil⟩;cases g1 with
      |d _ _ g=>cases g<;>first|rfl|(rename_i h1;revert h1;cases u<;>intro h1<;>first|rfl|cases h1)|exact absurd ⟨_,rfl⟩ fK
    obtain⟨cv,rW,iy⟩:=wi;have wj:VL c ((flat (l.set f e)).map .d) (du vs (f*sz) cv):=by
     rw[P' hl hf he];have:=VL.du hv (f*sz) iy;have hm:∀ (q:List DV) (o:Nat) (p:List DV),(du p o q).map AV.d=du (p.map .d) o (q.map .d):=by
      intro q
      induction q with
      |nil=>intro o p;rfl
      |cons a q ih=>intro o p;simp[du,ih]
     rw[hm];exact this
    obtain⟨vs',f1,f2⟩:=h4 c _ us wj g2;refine⟨vs',?_,f2⟩;have rP:cv.length=sz:=by rw[<- iy.1];simpa using he
    have oE:f*sz+sz<=vs.length:=by
     have:=hv.1;rw[List.length_map,nP hl]at this;rw[<- this]
     calc f*sz+sz=(f+1)*sz:=by rw[Nat.add_mul,Nat.one_mul]
      _<=l.length*sz:=Nat.mul_le_mul_right _ hf
    simp only[List.zip_cons_cons,Instr.fill];rw[if_neg (by simp[rW,rP];omega)];rw[<- f1]
    congr 1
    rw[rW];have:=DZ (f*sz) cv 0 vs.toArray;simp only[Nat.add_zero]at this;rw[<- this];simp
  cases x
  case d e =>
   simp only[oH]at H;split at H
   ·rename_i el;split at H
    ·rename_i q1 q2 q3;rw[gq]at H;exact key _ rfl (Nat.eq_of_beq_eq_true q1) (fun y hy=>List.all_eq_true.1 q2 y hy) (Nat.le_of_ble_eq_true q3) H
    ·exact .inl H
   ·split at H
    ·rename_i qh _ _ _ q1 q2 q3;rw[gq]at H;have lk:e.cells=[e]:=by cases e<;>first|rfl|exact absurd rfl (qh _)
     refine key _ rfl ?_ (fun y hy=>by rw[lk]at hy;simp at hy;subst hy;exact q2) (Nat.le_of_ble_eq_true q3) H;have:=Nat.eq_of_beq_eq_true q1;rw[<- this,lk];rfl
    ·exact .inl H
  all_goals exact .inl H
theorem Qa{bad:Nat->Prop}{w:World}{l:List DV}{sz cap:Nat}{vs:List Value}{ty:TypeId}{fr:Nat × Nat}(bP:0<sz)(hl:iz sz l)(hb:¬ bad w.heap.size)(jm:l.length<=cap)(hlen:(flat l).length<=vs.length)(h1:∀ (x:DV),x∈flat l->x.fa=true)
  (hv:∀ (j:Nat) (x:DV) (v:Value),(flat l)[j]?=some x->vs[j]?=some v->VD bad (w.alloc (.cells vs.toArray ty fr)) x v) :
  VD bad (w.alloc (.cells vs.toArray ty fr)) (.sl l) (.slice (some ⟨w.heap.size,0,none⟩) l.length cap):=by
 have bq:=lY (heap_alloc_new w (.cells vs.toArray ty fr));have at_:∀ (i j:Nat) (e x:DV),l[i]?=some e->e.cells[j]?=some x->∃ v,vs[i*sz+j]?=some v/\(flat l)[i*sz+j]?=some x:=fun i j e x he hx=>by
  have hj:j<sz:=by
   rw[<- hl i e he];rcases Nat.lt_or_ge j e.cells.length with h|h
   ·exact h
   ·rw[List.getElem?_eq_none h]at hx;cases hx
  have h1:=flat_get hl he hj;rw[hx]at h1;have h2:i*sz+j<(flat l).length:=by
   rcases Nat.lt_or_ge (i*sz+j) (flat l).length with h|h
   ·exact h
   ·rw[List.getElem?_eq_none h]at h1;cases h1
  have h3:i*sz+j<vs.length:=by omega
  exact⟨vs[i*sz+j],by simp[h3],h1⟩
 refine .sl l w.heap.size 0 cap sz (fun i j=>vs.getD (i*sz+j) undef) (fun _=>hb) bP jm hl (fun i j e x he hx=>?_) (fun i j e x he hx=>?_) (fun i j e x he hx=>?_)
 ·obtain⟨v,h1,h2⟩:=at_ i j e x he hx;have:=bq (i*sz+j) v (by simpa using h1);rw[this];simp[List.getD,h1]
 ·obtain⟨v,h1,h2⟩:=at_ i j e x he hx;simp only[List.getD,h1,Option.getD_some];exact hv _ x v h2 h1
 ·obtain⟨v,h3,h2⟩:=at_ i j e x he hx;simp only[List.getD,h3,Option.getD_some];exact yh (hv _ x v h2 h3) (h1 x (List.mem_of_getElem? h2))
theorem IE(hE:E.OK){t e len:Nat}{i ei:br}(hi:E.T[t]?=some i)(bT:E.T[e]?=some ei)(hk:i.k=.slice e){parts:Array (Nat × Operand)}{ps:List (Nat × AV)}(gM:yl E.G s parts.toList ps)
  (hz:ei.zero.length=ei.size) (cQ:0<ei.size) (hlen:0<len) (Bd:len*ei.size<=16777216) {z:DV} (tQ:z.cells=ei.zero) (jo:∀ y∈ei.zero,y.fa=true) {stop:Prop} {k:List DV->Prop} (H:oH ei.size ps (List.replicate len z) stop k) :
  stop\/∃ l,k l/\bw E (.buildSlice t len parts) s h (.d (.sl l)) h:=by
 have dY:iz ei.size (List.replicate len z):=fun j e' h'=>by
  rw[List.getElem?_replicate]at h';split at h'
  ·cases h';rw[tQ,hz]
  ·cases h'
 have fA:pk (List.replicate len z):=fun j e' h'=>by
  rw[List.getElem?_replicate]at h';split at h'
  ·cases h';rw[tQ];exact jo
  ·cases h'
 rcases D2 dY fA H with h'|⟨l,h1,h2,iO,h3,h4⟩
 ·exact .inl h'
 refine .inr ⟨l,h1,fun o c ac e1 e2 e3 e4=>?_⟩;subst e2;obtain⟨ti,zv,g1,g2,g3,g4⟩:=zeroOf (hE.types e ei bT) hz cQ;obtain⟨zs,yn,ky⟩:=g4 c;obtain⟨p1,p2⟩:=gM c ac e3 e4;have l3:zs.length=ei.size:=by rw[<- ky.1];simpa using hz
 have yo:VL c ((flat (List.replicate len z)).map .d) ((Array.range (len*ti.size)).map (zv.cells[· % zv.cells.size]!)).toList:=by
  refine .tO (by rw[nP dY];simp[g3]) (fun j x v hx hv=>?_);have hj:j<len*ei.size:=by
   have:=nP dY;rw[List.length_replicate]at this;rw[<- this];rcases Nat.lt_or_ge j (flat (List.replicate len z)).length with h|h
   ·exact h
   ·rw[List.getElem?_eq_none h]at hx;cases hx
  have hd:j / ei.size<len:=Nat.div_lt_of_lt_mul (by rw[Nat.mul_comm];exact hj);have hm:j % ei.size<ei.size:=Nat.mod_lt _ cQ;have h5:=flat_get dY (i:=j / ei.size) (j:=j % ei.size) (e:=z) (by simp[hd]) hm;rw[Nat.mul_comm,Nat.div_add_mod,hx,tQ]at h5;have eD:v=zs[j % ei.size]'(by omega):=by
   have eK:j<len*ti.size:=by rw[<- g3];exact hj
   simp[eK,yn,l3]at hv;rw[<- hv];simp[l3,hm]
  rw[eD];exact ky.pg (j % ei.size) x _ h5.symm (by simp[l3,hm])
 obtain⟨vs',f1,f2⟩:=h4 c _ _ yo p2;obtain⟨wk,d,q1,q2,q3,-⟩:=cD (hE.types t i hi);obtain rfl:=lj (hk.symm.trans q3);have eq:(parts.map fun(i,x)=>(i,ac.eval x)).toList=(ps.map (·.1)).zip (parts.toList.map fun p=>ac.eval p.2):=by
  rw[p1,Array.toList_map];generalize parts.toList=q
  induction q with
  |nil=>rfl
  |cons a q ih=>simp only[List.map_cons,List.zip_cons_cons,ih]
 have tR:Instr.fill (fun i=>some (i*ti.size,ti.size)) ((Array.range (len*ti.size)).map (zv.cells[· % zv.cells.size]!)) (parts.map fun(i,x)=>(i,ac.eval x)).toList=some vs'.toArray:=by
  rw[eq,<- f1,g3]
 have cI:=run_buildSlice (P:=E.P) c.w t e len (parts.map fun(i,x)=>(i,ac.eval x)) vs'.toArray ti zv q2 g1 g2 (by rw[<- g3];omega) (by rw[<- g3];have:=Nat.mul_pos hlen cQ;omega) tR;obtain⟨k1,k2⟩:=e3.grow ((Proofs.YtfmdaiojokniiaaGreatDoor.Ext.refl c.w).alloc (.cells vs'.toArray e));refine⟨c.eu (c.w.alloc (.cells vs'.toArray e)),.slice (some ⟨c.w.heap.size,0,none⟩) len len,.inl (by simp only[execOp,e1,Sem.run_bind,cI,Result.andThen_ok,Sem.run_pure];rfl),rfl,k1,?_,k2⟩;have l4:l.length=len:=by rw[h3];simp
 rw[<- l4];refine .d _ _ (Qa cQ h2 ?_ (Nat.le_refl _) (by have:=f2.1;simp at this;omega) iO.flat (fun j x v hx hv=>?_))
 ·rintro(hb|⟨j,n,hj⟩)
  ·have:=e3.bQ _ hb;omega
  ·have:=(e3.bA j _ n hj).1;omega
 ·exact k2.vd (f2.pg j x v hx hv)
theorem iA{a b:Nat}(h:Nat.blt a b=true):a<b:=Nat.le_of_ble_eq_true h
theorem Be(hE:E.OK){o:Op}{stop:Prop}{k:AV->List af->Prop}(H:jF E.T E.G o s h stop k):stop\/∃ v h',k v h'/\bw E o s h v h':=by
 unfold jF at H;split at H
 ·
  rcases cq H with h|⟨v,hv,H⟩
  ·exact .inl h
  exact .inr ⟨v,h,H,PG hv⟩
 ·
  rcases cq H with h|⟨v,hv,H⟩
  ·exact .inl h
  exact .inr ⟨v,h,H,PH hv⟩
 ·
  rcases cq H with h|⟨v,hv,H⟩
  ·exact .inl h
  rcases A5 H with h|⟨l,hl,H⟩
  ·exact .inl h
  rw[rR,Nat.zero_add]at H;exact .inr ⟨_,_,H,PM hv hl⟩
 ·
  rcases bo H with h|⟨i,hi,H⟩
  ·exact .inl h
  split at H
  ·rename_i q1 q2;rw[tJ,rR,Nat.zero_add]at H;exact .inr ⟨_,_,H,PN hE hi (Nat.eq_of_beq_eq_true q1) (iA q2)⟩
  ·exact .inl H
 ·
  rcases bo H with h|⟨i,hi,H⟩
  ·exact .inl h
  rcases cq H with h|⟨a,ha,H⟩
  ·exact .inl h
  rcases PK hE hi ha H with h|⟨v,H,hv⟩
  ·exact .inl h
  exact .inr ⟨v,h,H,hv⟩
 ·
  rcases bo H with h|⟨i,hi,H⟩
  ·exact .inl h
  rcases cq H with h|⟨a,ha,H⟩
  ·exact .inl h
  rcases cq H with h|⟨v,hv,H⟩
  ·exact .inl h
  rcases PL hE hi ha hv H with h|⟨h',H,ho⟩
  ·exact .inl h
  exact .inr ⟨_,h',H,ho⟩
 ·
  rcases bo H with h|⟨i,hi,H⟩
  ·exact .inl h
  rcases IA H with h|⟨fs,off,ft,hk,hf,H⟩
  ·exact .inl h
  rcases bo H with h|⟨fi,jH,H⟩
  ·exact .inl h
  split at H
  ·exact .inl H
  rename_i q;rcases cq H with h|⟨a,ha,H⟩
  ·exact .inl h
  split at H
  ·rcases bo H with h|⟨bx,hb,H⟩
   ·exact .inl h
   split at H
   ·exact .inr ⟨_,_,H,DW hE hi jH (iA q) hk hf ha (.inl ⟨_,_,rfl,rfl,_,hb⟩)⟩
   ·exact .inl H
  ·exact .inr ⟨_,_,H,DW hE hi jH (iA q) hk hf ha (.inr (.inl ⟨_,_,rfl,rfl⟩))⟩
  ·rcases bo H with h|⟨bx,hb,H⟩
   ·exact .inl h
   split at H
   ·split at H
    ·rename_i g' ts l _ qg;have:=Nat.eq_of_beq_eq_true qg;subst this;exact .inr ⟨_,_,H,DW hE hi jH (iA q) hk hf ha (.inr (.inr ⟨_,_,_,_,_,_,rfl,rfl,hb⟩))⟩
    ·exact .inl H
   ·exact .inl H
  ·exact .inl H
 ·
  rcases bo H with h|⟨i,hi,H⟩
  ·exact .inl h
  rcases IA H with h|⟨fs,off,ft,hk,hf,H⟩
  ·exact .inl h
  rcases bo H with h|⟨fi,jH,H⟩
  ·exact .inl h
  rcases cq H with h|⟨a,ha,H⟩
  ·exact .inl h
  split at H
  ·rcases IB hE hi jH hk hf ha (fun c v hv=>ph hv) H with h|⟨v,H,hv⟩
   ·exact .inl h
   exact .inr ⟨_,_,H,hv⟩
  ·rw[tJ]at H;rcases IB hE hi jH hk hf ha (fun c v hv=>DP hv) H with h|⟨v,H,hv⟩
   ·exact .inl h
   exact .inr ⟨_,_,H,hv⟩
  ·exact .inl H
 ·
  rcases cq H with h|⟨a,ha,H⟩
  ·exact .inl h
  split at H
  ·rcases bo H with h|⟨bx,hb,H⟩
   ·exact .inl h
   split at H
   ·exact .inr ⟨_,_,H,DY ha (.inl ⟨_,_,rfl,_,hb⟩)⟩
   ·exact .inl H
  ·exact .inr ⟨_,_,H,DY ha (.inr (.inl ⟨_,_,rfl⟩))⟩
  ·rcases bo H with h|⟨bx,hb,H⟩
   ·exact .inl h
   split at H
   ·split at H
    ·rename_i g' ts l _ qg;have:=Nat.eq_of_beq_eq_true qg;subst this;exact .inr ⟨_,_,H,DY ha (.inr (.inr ⟨_,_,_,_,_,_,rfl,hb⟩))⟩
    ·exact .inl H
   ·exact .inl H
  ·exact .inl H
 ·
  rcases bo H with h|⟨i,hi,H⟩
  ·exact .inl h
  rcases cq H with h|⟨a,ha,H⟩
  ·exact .inl h
  rcases cq H with h|⟨b,hb,H⟩
  ·exact .inl h
  split at H
  ·split at H
   ·rcases Iz (.inl rfl) ha H with h|⟨v,H,hv⟩
    ·exact .inl h
    exact .inr ⟨_,_,H,hv⟩
   ·exact .inl H
  ·split at H
   ·rcases Iz (.inr rfl) ha H with h|⟨v,H,hv⟩
    ·exact .inl h
    exact .inr ⟨_,_,H,hv⟩
   ·exact .inl H
  ·rename_i n1 n2;rcases PV ⟨n1,n2⟩ (hE.types _ _ hi) ha hb H with h|⟨v,H,hv⟩
   ·exact .inl h
   exact .inr ⟨_,_,H,hv⟩
 ·
  rcases cq H with h|⟨a,ha,H⟩
  ·exact .inl h
  split at H
  ·exact .inr ⟨_,_,H,PW ha⟩
  ·exact .inl H
 ·
  rcases cq H with h|⟨a,ha,H⟩
  ·exact .inl h
  split at H
  ·exact .inr ⟨_,_,H,PX ha⟩
  ·exact .inl H
 ·
  rcases cq H with h|⟨a,ha,H⟩
  ·exact .inl h
  split at H
  ·rcases cq H with h|⟨v,hv,H⟩
   ·exact .inl h
   exact .inr ⟨_,_,H,PO ha hv⟩
  ·rcases cq H with h|⟨v,hv,H⟩
   ·exact .inl h
   exact .inr ⟨_,_,H,PQ ha hv⟩
  ·exact .inl H
 ·
  rcases cq H with h|⟨a,ha,H⟩
  ·exact .inl h
  split at H
  ·rcases bo H with h|⟨v,hv,H⟩
   ·exact .inl h
   exact .inr ⟨_,_,H,PY ha hv⟩
  ·rcases bo H with h|⟨v,hv,H⟩
   ·exact .inl h
   exact .inr ⟨_,_,H,PZ ha hv⟩
  ·exact .inl H
 ·
  rcases bo H with h|⟨i0,ln,H⟩
  ·exact .inl h
  rcases bo H with h|⟨i,hi,H⟩
  ·exact .inl h
  rcases cq H with h|⟨a,ha,H⟩
  ·exact .inl h
  split at H
  ·rename_i hk;exact .inr ⟨_,_,H,P0 (hE.types _ _ hi) (hE.types _ _ ln) hk ha⟩
  ·rename_i hk;exact .inr ⟨_,_,H,P1 (hE.types _ _ hi) (hE.types _ _ ln) hk ha⟩
  ·exact .inl H
 ·
  rcases bo H with h|⟨i,hi,H⟩
  ·exact .inl h
  rcases ym H with h|⟨ps,gM,H⟩
  ·exact .inl h
  split at H
  ·rename_i q1 q2;rw[tJ]at H;have hz:=Nat.eq_of_beq_eq_true q1;have cQ:=iA q2;obtain⟨ti,d,g1,g2,g3,-⟩:=cD (hE.types _ _ hi);split at H
   ·rename_i fs hk;obtain⟨fl,rfl,rfl⟩:=qk (hk.symm.trans g3);rcases IC hE.types H with h|⟨pl,H,lp⟩
    ·exact .inl h
    rcases Bb H with h|⟨l,H,hf⟩
    ·exact .inl h
    obtain⟨v,H,hv⟩:=yg H;exact .inr ⟨_,_,H,ID hE hi gM hz cQ (fun ti z k1 k2 us=>P8 k1 g2 k2 lp us) hf hv⟩
   ·rename_i n e hk;obtain rfl:=we (hk.symm.trans g3);rcases bo H with h|⟨ei,bT,H⟩
    ·exact .inl h
    rcases Bb H with h|⟨l,H,hf⟩
    ·exact .inl h
    obtain⟨v,H,hv⟩:=yg H;obtain⟨eti,ed,k1,k2,k3,k4,-⟩:=cD (hE.types _ _ bT);exact .inr ⟨_,_,H,ID hE hi gM hz cQ (fun ti z r1 r2 us=>by rw[P9 r1 g2 r2 k1 us,k4]) hf hv⟩
   ·exact .inl H
  ·exact .inl H
 ·
  rcases bo H with h|⟨i,hi,H⟩
  ·exact .inl h
  split at H
  ·rename_i e hk;rcases bo H with h|⟨ei,bT,H⟩
   ·exact .inl h
   split at H
   ·rename_i q1 q2 q3 q4 q5;rcases ym H with h|⟨ps,gM,H⟩
    ·exact .inl h
    split at H
    ·rename_i z gr;rw[Bc]at H;have jo:z.fa=true:=by rw[gr]at q5;simpa using q5
     rcases IE hE hi bT hk gM (Nat.eq_of_beq_eq_true q1) (iA q2) (iA q3) (Nat.le_of_ble_eq_true q4) (z:=z) (by rw[gr];cases z<;>first|rfl|cases jo) (fun y hy=>List.all_eq_true.1 q5 y hy) H with h|⟨l,H,hl⟩
     ·exact .inl h
     exact .inr ⟨_,_,H,hl⟩
    ·rw[Bc]at H;rcases IE hE hi bT hk gM (Nat.eq_of_beq_eq_true q1) (iA q2) (iA q3) (Nat.le_of_ble_eq_true q4) (z := .agg ei.zero) rfl (fun y hy=>List.all_eq_true.1 q5 y hy) H with h|⟨l,H,hl⟩
     ·exact .inl h
     exact .inr ⟨_,_,H,hl⟩
   ·exact .inl H
  ·exact .inl H
 ·
  rcases yk H with h|⟨a,ha,H⟩
  ·exact .inl h
  rcases yk H with h|⟨b,hb,H⟩
  ·exact .inl h
  exact .inr ⟨_,_,H,P6 ha hb⟩
 ·
  rcases bo H with h|⟨x,hx,H⟩
  ·exact .inl h
  rcases bo H with h|⟨t,ht,H⟩
  ·exact .inl h
  rcases bo H with h|⟨i,hi,H⟩
  ·exact .inl h
  rcases cq H with h|⟨a,ha,H⟩
  ·exact .inl h
  have bV:=hE.types _ _ hi;split at H
  ·rename_i e l hk;refine .inr ⟨_,_,H,.quiet fun o c ac h1 _ h3 h4=>⟨_,wg h1 hx ht bV rfl (.inl ?_),.d _ _ (.int _ _)⟩⟩;have:=ha c ac h3 h4;generalize ac.eval x=u at this;cases this with
   |d _ _ hd=>cases hd with
    |slnil=>exact⟨e,_,_,hk,rfl⟩
    |ku=>exact⟨e,_,_,hk,rfl⟩
    |sl _ _ _ _ _ _ _ _ _ _ _ _ _=>exact⟨e,_,_,hk,rfl⟩
  ·rename_i l hk;exact .inr ⟨_,_,H,.quiet fun o c ac h1 _ h3 h4=>⟨_,wg h1 hx ht bV (pf (ha c ac h3 h4)) (.inr ⟨_,hk,rfl,by simp[ByteArray.size]⟩),.d _ _ (.int _ _)⟩⟩
  ·rename_i e hk;refine .inr ⟨_,_,H,.quiet fun o c ac h1 _ h3 h4=>⟨.int .i64 (0:Nat),wg h1 hx ht bV rfl (.inl ?_),.d _ _ (.int _ _)⟩⟩;have:=ha c ac h3 h4;generalize ac.eval x=u at this;cases this with
   |d _ _ hd=>cases hd with
    |aH=>exact⟨e,_,_,hk,rfl⟩
  ·rename_i e b g hk;rcases bo H with h|⟨bx,hb,H⟩
   ·exact .inl h
   split at H
   ·split at H
    ·rename_i g' ts l _ qg;have:=Nat.eq_of_beq_eq_true qg;subst this;refine .inr ⟨_,_,H,.quiet fun o c ac h1 h2 h3 h4=>⟨_,wg h1 hx ht bV rfl (.inl ?_),.d _ _ (.int _ _)⟩⟩;subst h2;have:=ha c ac h3 h4;generalize ac.eval x=u at this;cases this with
     |own _ _ _ l' _ _ k1 k2=>rw[hb]at k1;cases k1;exact⟨e,_,_,hk,rfl⟩
     |iu _ _ _ k1 k2=>rw[hb]at k1;cases k1;exact⟨e,_,_,hk,rfl⟩
     |kv _ _ g1 _ _ _ k1 k2 _=>rw[hb]at k1;cases k1;omega
     |jE _ _ _ k1 _=>rw[hb]at k1;cases k1
     |mM _ _ _ _ _ _ k1 _ _=>rw[hb]at k1;cases k1
    ·exact .inl H
   ·exact .inl H
  ·exact .inl H
 ·exact .inl H
end
end Go.ay
end
