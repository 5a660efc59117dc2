/- Lemmas of mine. Conditions: as stated. -/
import Derived.Test.YtcmnpelmmekdkaaGreatDoorRows
import Derived.WalkKit
import Derived.WalkSpells
import Derived.WalkLawsBesides
import Derived.Deep.QuietTactic
import Derived.BigQuiet
import Derived.Lib.Hide
import Derived.Laws.EntriesVeiled
import Derived.Deep.RegionHeld3
import Derived.Deep.LoopGhost
import Derived.Sort.Grow
import Derived.Laws.Cells
import Derived.Laws.IdiomCopy
import Derived.Great.BuildSlice
set_option linter.unusedVariables false
set_option linter.unusedSimpArgs false
section
namespace Go.Proofs.YtcmnpelmmekdkaaGreatDoor
open Go.RowKit
structure Ext(w w':World):Prop where
 os:w'.os=w.os
 tape:w'.tape=w.tape
 output:w'.output=w.output
 size:w.heap.size<=w'.heap.size
 block:∀ k,k<w.heap.size->w'.heap[k]?=w.heap[k]?
theorem Ext.refl(w:World):Ext w w:=⟨rfl,rfl,rfl,Nat.le_refl _,fun _ _=>rfl⟩
theorem Ext.trans{a b c:World}(h:Ext a b)(k:Ext b c):Ext a c :=
 ⟨k.os.trans h.os,k.tape.trans h.tape,k.output.trans h.output,Nat.le_trans h.size k.size,
  fun i hi=>(k.block i (Nat.lt_of_lt_of_le hi h.size)).trans (h.block i hi)⟩
theorem Ext.drew{a w:World}(h:Ext a w):Ext a w.drew:=⟨h.os,h.tape,h.output,h.size,h.block⟩
theorem Ext.drewN{a w:World}(h:Ext a w)(n:Nat):Ext a (w.drewN n):=⟨h.os,h.tape,h.output,h.size,h.block⟩
theorem Ext.alloc{a w:World}(h:Ext a w)(o:Obj):Ext a (w.alloc o) :=
 ⟨h.os,h.tape,h.output,by simp;exact Nat.le_succ_of_le h.size,fun k hk=>by
  rw[Below.heap_alloc w o k (Nat.lt_of_lt_of_le hk h.size)];exact h.block k hk⟩
theorem Ext.setCell{a w:World}(h:Ext a w){p:Addr}(hp:a.heap.size<=p.block)(v:Value):Ext a (w.setCell p v) :=
 ⟨h.os,h.tape,h.output,by simpa [World.setCell]using h.size,fun k hk=>by
  rw[Below.heap_setCell w p v k (by omega)];exact h.block k hk⟩
theorem Ext.below{a w:World}(h:Ext a w):Below a.heap.size a w:=⟨h.os,h.tape,h.output,h.size,h.block⟩
theorem Ext.cells{W w1:World}(h:Ext W w1):(∀ b o,b<W.heap.size->w1.cell? ⟨b,o,none⟩=W.cell? ⟨b,o,none⟩)/\(∀ b o,b<W.heap.size->w1.frozen? ⟨b,o,none⟩=W.frozen? ⟨b,o,none⟩) :=
 ⟨fun b o hb=>h.below.cell (p:=⟨b,o,none⟩) hb,fun b o hb=>h.below.frozen (p:=⟨b,o,none⟩) hb⟩
theorem Ext.keep{W w1:World}(h:Ext W w1){a:Addr}{v:Value}(hc:W.cell? a=some v):w1.cell? a=some v:=by
 rw[h.below.cell (World.block_lt_of_cell? _ _ hc)];exact hc
theorem Ep(W:World)(v:Value)(t:TypeId):(W.alloc (.cells #[v] t)).cell? ⟨W.heap.size,0,none⟩=some v:=by
 rw[World.cell?_alloc_at _ _ _ _ (by simp)];rfl
theorem cell_kept{W:World}{a:Addr}{v:Value}(o:Obj)(h:W.cell? a=some v):(W.alloc o).cell? a=some v:=((Ext.refl W).alloc o).keep h
theorem RR(w:World)(b o:Nat)(h:w.heap.size<=b):w.frozen? ⟨b,o,none⟩=false:=by
 simp only[World.frozen?];rw[Array.getElem?_eq_none h]
theorem Ext.sj{a w:World}(h:Below a.heap.size a w):Ext a w:=⟨h.os,h.tape,h.output,h.size,h.block⟩
theorem Ext.grown{a w w':World}{row:Option Nat}(h:Ext a w)(hg:w.grownBy w' row)(hr:∀ k,row=some k->a.heap.size<=k):Ext a w' :=
 Ext.sj (h.below.grown hg h.size hr)
theorem mD{a b:Bool}(h:a=b):Ending.returned (.bool a)=.returned (.bool b):=by rw[h]
end Go.Proofs.YtcmnpelmmekdkaaGreatDoor
end
section
namespace Go.aA
open Go
inductive DV where
 |undef
 |bool (b:Bool)
 |int (k:IntKind) (n:Int)
 |str (s:List UInt8)
 |aW
 |sl (l:List DV)
 |agg (c:List DV)
 |aK (c:List DV)
 |eJ|aF|im|mE
 |fn (f:Fn)
 |raw (v:Value)
def DV.cells:DV->List DV
 | .agg c=>c
 |x=>[x]
inductive AV where
 |any
 |d (x:DV)
 |own (b g:Nat)
 |cut (b g k:Nat) (q:Option Nat)
 |ptr (b off:Nat)
 |cO (b g i off:Nat)
 |b9 (e:DV) (off:Nat)
 |map (b:Nat)
 |agg (c:List AV)
 |aK (c:List AV)
 |fn (f:Fn) (first captured:List AV)
def AV.cells:AV->List AV
 | .agg c=>c
 | .d x=>x.cells.map .d
 |x=>[x]
inductive af where
 |cells (c:List AV)
 |arr (g:Nat) (ts:Nat × Nat) (l:List DV)
 |map (es:List (DV × DV))
 |gone
inductive VD (bad:Nat->Prop) (w:World):DV->Value->Prop
 |undef:VD bad w .undef Go.undef
 |bool (b:Bool):VD bad w (.bool b) (.bool b)
 |int (k:IntKind) (n:Int):VD bad w (.int k n) (.int k n)
 |str (l:List UInt8):VD bad w (.str l) (.string ⟨l.toArray⟩)
 |aW:VD bad w .aW (.slice none 0 0)
 |slnil:VD bad w (.sl []) (.slice none 0 0)
 |lg (a:Addr):VD bad w (.sl []) (.slice (some a) 0 0)
 |sl (l:List DV) (blk off cap sz:Nat) (f:Nat->Nat->Value) (hb:l≠[]->¬ bad blk) (bT:0<sz) (jo:l.length<=cap)
   (hlen:∀ (i:Nat) (e:DV),l[i]?=some e->e.cells.length=sz)
   (dQ:∀ (i j:Nat) (e x:DV),l[i]?=some e->e.cells[j]?=some x->w.cell? ⟨blk,off+(i*sz+j),none⟩=some (f i j))
   (bQ:∀ (i j:Nat) (e x:DV),l[i]?=some e->e.cells[j]?=some x->VD bad w x (f i j))
   (cj:∀ (i j:Nat) (e x:DV),l[i]?=some e->e.cells[j]?=some x->(f i j).oneCell'=true) :
   VD bad w (.sl l) (.slice (some ⟨blk,off,none⟩) l.length cap)
 |agg (c:List DV) (vs:Array Value) (hlen:c.length=vs.size) (bQ:∀ (j:Nat) (x:DV) (v:Value),c[j]?=some x->vs[j]?=some v->VD bad w x v):VD bad w (.agg c) (.agg vs)
 |aK (c:List DV) (vs:Array Value) (hlen:c.length=vs.size) (bQ:∀ (j:Nat) (x:DV) (v:Value),c[j]?=some x->vs[j]?=some v->VD bad w x v):VD bad w (.aK c) (.tuple vs)
 |eJ:VD bad w .eJ (.pointer none)
 |aF:VD bad w .aF .nilFunc
 |im:VD bad w .im (.map none)
 |mE:VD bad w .mE .nilIface
 |fn (f:Fn):VD bad w (.fn f) (.func f #[] #[])
 |raw (v:Value) (h:v.oneCell'=true):VD bad w (.raw v) v
theorem VD.mono{bad wk:Nat->Prop}{w w':World}(h:∀ b,b<w.heap.size->¬ bad b->¬ wk b/\w'.heap[b]?=w.heap[b]?){x:DV}{v:Value}(hv:VD bad w x v):VD wk w' x v:=by
 induction hv with
 |undef=>exact .undef
 |bool b=>exact .bool b
 |int k n=>exact .int k n
 |str l=>exact .str l
 |aW=>exact .aW
 |slnil=>exact .slnil
 |lg a=>exact .lg a
 |sl l blk off cap sz f hb bT jo hlen dQ bQ cj ih =>
  have key:l≠[]->blk<w.heap.size:=fun aM=>by
   obtain⟨e,r,rfl⟩:=List.exists_cons_of_ne_nil aM;have h1:=hlen 0 e rfl;obtain⟨x,hx⟩:∃ x,e.cells[0]?=some x:=⟨e.cells[0]'(by omega),by simp⟩;exact World.block_lt_of_cell? _ _ (dQ 0 0 e x rfl hx)
  refine .sl l blk off cap sz f (fun aM=>(h blk (key aM) (hb aM)).1) bT jo hlen (fun i j e x he hx=>?_) ih cj;have aM:l≠[]:=fun h0=>by subst h0;simp at he
  rw[World.cell?_of_block (h blk (key aM) (hb aM)).2];exact dQ i j e x he hx
 |agg c vs hlen bQ ih=>exact .agg c vs hlen ih
 |aK c vs hlen bQ ih=>exact .aK c vs hlen ih
 |eJ=>exact .eJ
 |aF=>exact .aF
 |im=>exact .im
 |mE=>exact .mE
 |fn f=>exact .fn f
 |raw v h=>exact .raw v h
structure Cx where
 own:Nat->Option (Nat × Nat)
 heap:List af
 ak:Nat->Prop
 w:World
def Cx.bad(c:Cx)(b:Nat):Prop:=c.ak b\/∃ i n,c.own i=some (b,n)
inductive VR (c:Cx):AV->Value->Prop
 |any (v:Value):VR c .any v
 |d (x:DV) (v:Value) (h:VD c.bad c.w x v):VR c (.d x) v
 |own (b g:Nat) (sz:Nat × Nat) (l:List DV) (blk cap:Nat) (hb:c.heap[b]?=some (.arr g sz l)) (ho:c.own b=some (blk,cap)):VR c (.own b g) (.slice (some ⟨blk,0,none⟩) l.length cap)
 |iY (b g:Nat) (sz:Nat × Nat) (hb:c.heap[b]?=some (.arr g sz [])) (ho:c.own b=none):VR c (.own b g) (.slice none 0 0)
 |kB (b g g':Nat) (sz:Nat × Nat) (l:List DV) (v:Value) (hb:c.heap[b]?=some (.arr g' sz l)) (hg:g<g') (hv:v.oneCell'=true):VR c (.own b g) v
 |jR (b g:Nat) (v:Value) (hb:c.heap[b]?=some .gone) (hv:v.oneCell'=true):VR c (.own b g) v
 |mF (b g:Nat) (cs:List AV) (blk cap n:Nat) (hb:c.heap[b]?=some (.cells cs)) (ho:c.own b=some (blk,cap)) (hn:cs.length=n):VR c (.own b g) (.slice (some ⟨blk,0,none⟩) n n)
 |cut (b g k:Nat) (q:Option Nat) (sz:Nat × Nat) (l:List DV) (blk cap o:Nat) (hb:c.heap[b]?=some (.arr g sz l)) (ho:c.own b=some (blk,cap)) (hk:k<=l.length) (tS:k<cap->o=k*sz.2) (hq:∀ n,q=some n->n=cap):VR c (.cut b g k q) (.slice (some ⟨blk,o,none⟩) (l.length-k) (cap-k))
 |mG (b g g' k:Nat) (q:Option Nat) (sz:Nat × Nat) (l:List DV) (v:Value) (hb:c.heap[b]?=some (.arr g' sz l)) (hg:g<g') (hv:v.oneCell'=true):VR c (.cut b g k q) v
 |mH (b g k:Nat) (q:Option Nat) (v:Value) (hb:c.heap[b]?=some .gone) (hv:v.oneCell'=true):VR c (.cut b g k q) v
 |ptr (b off:Nat) (cs:List AV) (blk cap:Nat) (hb:c.heap[b]?=some (.cells cs)) (ho:c.own b=some (blk,cap)):VR c (.ptr b off) (.pointer (some ⟨blk,off,none⟩))
 |jq (b off:Nat) (v:Value) (hb:c.heap[b]?=some .gone) (hv:v.oneCell'=true):VR c (.ptr b off) v
 |cO (b g i off:Nat) (sz:Nat × Nat) (l:List DV) (blk cap:Nat) (hb:c.heap[b]?=some (.arr g sz l)) (ho:c.own b=some (blk,cap)) (hi:i<l.length):VR c (.cO b g i off) (.pointer (some ⟨blk,i*sz.2+off,none⟩))
 |lW (b g g' i off:Nat) (sz:Nat × Nat) (l:List DV) (v:Value) (hb:c.heap[b]?=some (.arr g' sz l)) (hg:g<g') (hv:v.oneCell'=true):VR c (.cO b g i off) v
 |lX (b g i off:Nat) (v:Value) (hb:c.heap[b]?=some .gone) (hv:v.oneCell'=true):VR c (.cO b g i off) v
 |b9 (e:DV) (off blk o:Nat) (f:Nat->Value) (hb:¬ c.bad blk) (aM:e.cells≠[])
   (dQ:∀ (j:Nat) (x:DV),e.cells[j]?=some x->c.w.cell? ⟨blk,o+j,none⟩=some (f j)) (bQ:∀ (j:Nat) (x:DV),e.cells[j]?=some x->VD c.bad c.w x (f j)) :
   VR c (.b9 e off) (.pointer (some ⟨blk,o+off,none⟩))
 |map (b:Nat) (es:List (DV × DV)) (blk cap:Nat) (hb:c.heap[b]?=some (.map es)) (ho:c.own b=some (blk,cap)):VR c (.map b) (.map (some blk))
 |nA (b:Nat) (v:Value) (hb:c.heap[b]?=some .gone) (hv:v.oneCell'=true):VR c (.map b) v
 |agg (a:List AV) (vs:Array Value) (hlen:a.length=vs.size) (bQ:∀ (j:Nat) (x:AV) (v:Value),a[j]?=some x->vs[j]?=some v->VR c x v):VR c (.agg a) (.agg vs)
 |aK (a:List AV) (vs:Array Value) (hlen:a.length=vs.size) (bQ:∀ (j:Nat) (x:AV) (v:Value),a[j]?=some x->vs[j]?=some v->VR c x v):VR c (.aK a) (.tuple vs)
 |fn (f:Fn) (a1 a2:List AV) (v1 v2:Array Value) (iL:a1.length=v1.size) (sk:a2.length=v2.size)
   (h1:∀ (j:Nat) (x:AV) (v:Value),a1[j]?=some x->v1[j]?=some v->VR c x v)
   (h2:∀ (j:Nat) (x:AV) (v:Value),a2[j]?=some x->v2[j]?=some v->VR c x v):VR c (.fn f a1 a2) (.func f v1 v2)
def tT(c c':Cx)(i:Nat):af->Prop
 | .cells cs=>(∃ cs',c'.heap[i]?=some (.cells cs')/\c'.own i=c.own i/\cs'.length=cs.length)\/c'.heap[i]?=some .gone
 | .arr g sz l=>(∃ g' l',c'.heap[i]?=some (.arr g' sz l')/\(g<g'\/g'=g/\l'.length=l.length/\c'.own i=c.own i))\/c'.heap[i]?=some .gone
 | .map _=>(∃ eC,c'.heap[i]?=some (.map eC)/\c'.own i=c.own i)\/c'.heap[i]?=some .gone
 | .gone=>c'.heap[i]?=some .gone
structure Step(c c':Cx):Prop where
 ak:c'.ak=c.ak
 bE:∀ b,c.ak b->b<c.w.heap.size
 os:c'.w.os=c.w.os
 tape:c'.w.tape=c.w.tape
 output:c'.w.output=c.w.output
 size:c.w.heap.size<=c'.w.heap.size
 keep:∀ b,b<c.w.heap.size->(∀ i n,c.own i≠some (b,n))->c'.w.heap[b]?=c.w.heap[b]?
 dw:∀ i b n,c'.own i=some (b,n)->b<c.w.heap.size->∃ m,c.own i=some (b,m)
 boxes:∀ i bx,c.heap[i]?=some bx->tT c c' i bx
theorem Step.refl(c:Cx)(hb:∀ b,c.ak b->b<c.w.heap.size):Step c c :=
 ⟨rfl,hb,rfl,rfl,rfl,Nat.le_refl _,fun _ _ _=>rfl,fun i b n h _=>⟨n,h⟩,fun i bx h=>by
  cases bx with
  |cells cs=>exact .inl ⟨cs,h,rfl,rfl⟩
  |arr g sz l=>exact .inl ⟨g,l,h,.inr ⟨rfl,rfl,rfl⟩⟩
  |map es=>exact .inl ⟨es,h,rfl⟩
  |gone=>exact h⟩
theorem Step.trans{a b c:Cx}(h:Step a b)(k:Step b c):Step a c where
 ak:=k.ak.trans h.ak
 bE:=h.bE
 os:=k.os.trans h.os
 tape:=k.tape.trans h.tape
 output:=k.output.trans h.output
 size:=Nat.le_trans h.size k.size
 keep:=fun x hx hn=>by
  rw[k.keep x (Nat.lt_of_lt_of_le hx h.size) (fun i n hi=>by obtain⟨m,hj⟩:=h.dw i x n hi hx;exact hn i m hj)];exact h.keep x hx hn
 dw:=fun i x n hi hx=>by
  obtain⟨m,hj⟩:=k.dw i x n hi (Nat.lt_of_lt_of_le hx h.size);exact h.dw i x m hj hx
 boxes:=fun i bx hi=>by
  have h1:=h.boxes i bx hi;cases bx with
  |cells cs =>
   rcases h1 with⟨cs',h1,h2,h3⟩|h1
   ·rcases k.boxes i _ h1 with⟨Er,k1,k2,k3⟩|k1
    ·exact .inl ⟨Er,k1,k2.trans h2,k3.trans h3⟩
    ·exact .inr k1
   ·exact .inr (k.boxes i _ h1)
  |arr g sz l =>
   rcases h1 with⟨g',l',h1,h2⟩|h1
   ·rcases k.boxes i _ h1 with⟨Es,Et,k1,k2⟩|k1
    ·refine .inl ⟨Es,Et,k1,?_⟩;rcases h2 with h2|⟨h2,h3,h4⟩<;>rcases k2 with k2|⟨k2,k3,k4⟩
     ·left;omega
     ·left;omega
     ·left;omega
     ·exact .inr ⟨k2.trans h2,k3.trans h3,k4.trans h4⟩
    ·exact .inr k1
   ·exact .inr (k.boxes i _ h1)
  |map es =>
   rcases h1 with⟨eC,h1,h2⟩|h1
   ·rcases k.boxes i _ h1 with⟨Eu,k1,k2⟩|k1
    ·exact .inl ⟨Eu,k1,k2.trans h2⟩
    ·exact .inr k1
   ·exact .inr (k.boxes i _ h1)
  |gone=>exact k.boxes i _ h1
theorem Step.yw{c c':Cx}(h:Step c c')(b:Nat)(hb:b<c.w.heap.size)(hn:¬ c.bad b):¬ c'.bad b/\c'.w.heap[b]?=c.w.heap[b]? := by
 have h0:∀ i n,c.own i≠some (b,n):=fun i n hi=>hn (.inr ⟨i,n,hi⟩);refine⟨?_,h.keep b hb h0⟩;rintro(h1|⟨i,n,h1⟩)
 ·exact hn (.inl (by rw[<- h.ak];exact h1))
 ·obtain⟨m,hj⟩:=h.dw i b n h1 hb;exact h0 i m hj
theorem Step.vd{c c':Cx}(h:Step c c'){x:DV}{v:Value}(hv:VD c.bad c.w x v):VD c'.bad c'.w x v:=hv.mono h.yw
theorem sm{c c':Cx}(iq:∀ b,b<c.w.heap.size->¬ c.bad b->¬ c'.bad b/\c'.w.heap[b]?=c.w.heap[b]?)(dZ:∀ i bx,c.heap[i]?=some bx->tT c c' i bx){x:AV}{v:Value}(hv:VR c x v):VR c' x v:=by
 induction hv with
 |any v=>exact .any v
 |d x v hx=>exact .d x v (hx.mono iq)
 |own b g sz l blk cap hb ho =>
  rcases dZ b _ hb with⟨g',l',h1,h2|⟨rfl,h3,h4⟩⟩|h1
  ·exact .kB b g g' sz l' _ h1 h2 rfl
  ·rw[<- h3];exact .own b g' sz l' blk cap h1 (h4.trans ho)
  ·exact .jR b g _ h1 rfl
 |iY b g sz hb ho =>
  rcases dZ b _ hb with⟨g',l',h1,h2|⟨rfl,h3,h4⟩⟩|h1
  ·exact .kB b g g' sz l' _ h1 h2 rfl
  ·obtain rfl:l'=[]:=List.eq_nil_of_length_eq_zero (by simpa using h3);exact .iY b g' sz h1 (h4.trans ho)
  ·exact .jR b g _ h1 rfl
 |kB b g g1 sz l v hb hg hv =>
  rcases dZ b _ hb with⟨g',l',h1,h2|⟨rfl,h3,h4⟩⟩|h1
  ·exact .kB b g g' sz l' _ h1 (by omega) hv
  ·exact .kB b g g' sz l' _ h1 hg hv
  ·exact .jR b g _ h1 hv
 |jR b g v hb hv=>exact .jR b g v (dZ b _ hb) hv
 |mF b g cs blk cap n hb ho hn =>
  rcases dZ b _ hb with⟨cs',h1,h2,h3⟩|h1
  ·exact .mF b g cs' blk cap n h1 (h2.trans ho) (h3.trans hn)
  ·exact .jR b g _ h1 rfl
 |cut b g k q sz l blk cap o hb ho hk tS hq =>
  rcases dZ b _ hb with⟨g',l',h1,h2|⟨rfl,h3,h4⟩⟩|h1
  ·exact .mG b g g' k q sz l' _ h1 h2 rfl
  ·rw[<- h3];exact .cut b g' k q sz l' blk cap o h1 (h4.trans ho) (by omega) tS hq
  ·exact .mH b g k q _ h1 rfl
 |mG b g g1 k q sz l v hb hg hv =>
  rcases dZ b _ hb with⟨g',l',h1,h2|⟨rfl,h3,h4⟩⟩|h1
  ·exact .mG b g g' k q sz l' _ h1 (by omega) hv
  ·exact .mG b g g' k q sz l' _ h1 hg hv
  ·exact .mH b g k q _ h1 hv
 |mH b g k q v hb hv=>exact .mH b g k q v (dZ b _ hb) hv
 |ptr b off cs blk cap hb ho =>
  rcases dZ b _ hb with⟨cs',h1,h2,h3⟩|h1
  ·exact .ptr b off cs' blk cap h1 (h2.trans ho)
  ·exact .jq b off _ h1 rfl
 |jq b off v hb hv=>exact .jq b off v (dZ b _ hb) hv
 |cO b g i off sz l blk cap hb ho hi =>
  rcases dZ b _ hb with⟨g',l',h1,h2|⟨rfl,h3,h4⟩⟩|h1
  ·exact .lW b g g' i off sz l' _ h1 h2 rfl
  ·exact .cO b g' i off sz l' blk cap h1 (h4.trans ho) (by omega)
  ·exact .lX b g i off _ h1 rfl
 |lW b g g1 i off sz l v hb hg hv =>
  rcases dZ b _ hb with⟨g',l',h1,h2|⟨rfl,h3,h4⟩⟩|h1
  ·exact .lW b g g' i off sz l' _ h1 (by omega) hv
  ·exact .lW b g g' i off sz l' _ h1 hg hv
  ·exact .lX b g i off _ h1 hv
 |lX b g i off v hb hv=>exact .lX b g i off v (dZ b _ hb) hv
 |b9 e off blk o f hb aM dQ bQ =>
  have ai:blk<c.w.heap.size:=by
   obtain⟨x,r,hx⟩:=List.exists_cons_of_ne_nil aM;exact World.block_lt_of_cell? _ _ (dQ 0 x (by rw[hx];rfl))
  have hk:=iq blk ai hb;exact .b9 e off blk o f hk.1 aM (fun j x hx=>by rw[World.cell?_of_block hk.2];exact dQ j x hx) (fun j x hx=>(bQ j x hx).mono iq)
 |map b es blk cap hb ho =>
  rcases dZ b _ hb with⟨eC,h1,h2⟩|h1
  ·exact .map b eC blk cap h1 (h2.trans ho)
  ·exact .nA b _ h1 rfl
 |nA b v hb hv=>exact .nA b v (dZ b _ hb) hv
 |agg a vs hlen bQ ih=>exact .agg a vs hlen ih
 |aK a vs hlen bQ ih=>exact .aK a vs hlen ih
 |fn f a1 a2 v1 v2 iL sk h1 h2 RS RT=>exact .fn f a1 a2 v1 v2 iL sk RS RT
theorem Step.vr{c c':Cx}(h:Step c c'){x:AV}{v:Value}(hv:VR c x v):VR c' x v:=sm h.yw h.boxes hv
end Go.aA
end
section
namespace Go.aA
open Go
universe u
inductive TK where
 |bool|int (k:IntKind)|string|pointer (e:Nat)|slice (e:Nat)|array (n e:Nat)|map (k e:Nat)|struct (fs:List (Nat × Nat))|func|iface|other
def tk:TypeDesc->TK
 | .bool => .bool
 | .int k => .int k
 | .string => .string
 | .pointer e => .pointer e
 | .slice e => .slice e
 | .array n e => .array n e
 | .map k e => .map k e
 | .struct fs => .struct (fs.toList.map fun f=>(f.offset,f.type))
 | .func _ _ _ => .func
 | .interface _ => .iface
 |_ => .other
def tU:Value->Option DV
 | .bool b=>some (.bool b)
 | .int k n=>some (.int k n)
 | .string s=>some (.str s.data.toList)
 | .slice none 0 0=>some .aW
 | .pointer none=>some .eJ
 | .nilFunc=>some .aF
 | .map none=>some .im
 | .nilIface=>some .mE
 |_=>none
theorem JI{bad:Nat->Prop}{w:World}{v:Value}{x:DV}(h:tU v=some x):VD bad w x v:=by
 unfold tU at h;split at h<;>first|(cases h;constructor)|cases h
def TK.agg:TK->Bool
 | .struct _=>true
 | .array _ _=>true
 |_=>false
structure bD where
 k:TK
 size:Nat
 bytes:Nat
 zero:List DV
def yx:List (Option DV)->Option (List DV)
 |[]=>some []
 |none::_=>none
 |some x::l=>(yx l).map (x :: ·)
def wm(z:Option Value):List DV:=(z.bind fun v=>yx (v.cells.toList.map tU)).getD []
def eR(P:Program)(t:Nat):Option bD :=
 match P.info? t,P.underlying t with
 |some i,some d=>some ⟨tk d,i.size,i.bytes,wm i.zero⟩
 |_,_=>none
structure Env where
 P:Program
 T:List bD
 G:List (Nat × DV)
 Q:List Nat
def pt(P:Program)(t:Nat):Bool := !P.stoodInHeld t && !P.eqGuardType P.depth t&&(match P.underlying t with
 |some (.struct fs) => fs.toList.all fun f => f.name != "_"
 |_=>false)
structure Env.OK(E:Env):Prop where
 types:∀ (t:Nat) (i:bD),E.T[t]?=some i->eR E.P t=some i
 eqs:∀ t∈E.Q,pt E.P t=true
section Ev
variable {α:Sort u} {β:Type}
def fI:List β->Nat->β->(List β->α)->α
 |[],_,_,k=>k []
 |_::l,0,v,k=>k (v::l)
 |a::l,i+1,v,k=>fI l i v fun l'=>k (a::l')
theorem gJ(l:List β)(i:Nat)(v:β)(k:List β->α):fI l i v k=k (l.set i v):=by
 induction l generalizing i k with
 |nil=>rfl
 |cons a l ih=>cases i with
  |zero=>rfl
  |succ i=>simp only[fI,ih,List.set_cons_succ]
def aY:List β->Nat->(no:α)->(β->α)->α
 |[],_,no,_=>no
 |a::_,0,_,k=>k a
 |_::l,i+1,no,k=>aY l i no k
theorem By{l:List β}{i:Nat}{x:β}(h:l[i]?=some x)(no:α)(k:β->α):aY l i no k=k x:=by
 induction l generalizing i with
 |nil=>simp at h
 |cons a l ih=>cases i with
  |zero=>simp at h;subst h;rfl
  |succ i=>exact ih (by simpa using h)
theorem JJ{l:List β}{i:Nat}(h:l[i]?=none)(no:α)(k:β->α):aY l i no k=no:=by
 induction l generalizing i with
 |nil=>rfl
 |cons a l ih=>cases i with
  |zero=>simp at h
  |succ i=>exact ih (by simpa using h)
def sq:Nat->List β->(List β->α)->α
 |0,_,k=>k []
 |_+1,[],k=>k []
 |n+1,a::l,k=>sq n l fun l'=>k (a::l')
theorem Bz(n:Nat)(l:List β)(k:List β->α):sq n l k=k (l.take n):=by
 induction n generalizing l k with
 |zero=>simp[sq]
 |succ n ih=>cases l with
  |nil=>simp[sq]
  |cons a l=>simp[sq,ih]
def qD:Nat->List β->(List β->α)->α
 |0,l,k=>k l
 |_+1,[],k=>k []
 |n+1,_::l,k=>qD n l k
theorem yy(n:Nat)(l:List β)(k:List β->α):qD n l k=k (l.drop n):=by
 induction n generalizing l with
 |zero=>simp[qD]
 |succ n ih=>cases l with
  |nil=>simp[qD]
  |cons a l=>simp[qD,ih]
def lY:List β->β->Nat->(List β->Nat->α)->α
 |[],v,n,k=>k [v] n
 |a::l,v,n,k=>lY l v (n+1) fun l' m=>k (a::l') m
theorem nB(l:List β)(v:β)(n:Nat)(k:List β->Nat->α):lY l v n k=k (l++[v]) (n+l.length):=by
 induction l generalizing n k with
 |nil=>rfl
 |cons a l ih=>simp only[lY,ih,List.cons_append,List.length_cons,Nat.add_assoc,Nat.add_comm 1]
def wo:List β->Nat->List β->(List β->α)->α
 |c,_,[],k=>k c
 |c,off,v::l,k=>fI c off v fun c'=>wo c' (off+1) l k
def dG:List β->Nat->List β->List β
 |c,_,[]=>c
 |c,off,v::l=>dG (c.set off v) (off+1) l
theorem Ew(c:List β)(off:Nat)(l:List β)(k:List β->α):wo c off l k=k (dG c off l):=by
 induction l generalizing c off with
 |nil=>rfl
 |cons v l ih=>simp only[wo,gJ,ih,dG]
def oq{γ:Type}(f:β->γ):List β->(List γ->α)->α
 |[],k=>k []
 |a::l,k=>oq f l fun l'=>k (f a::l')
theorem qE{γ:Type}(f:β->γ)(l:List β)(k:List γ->α):oq f l k=k (l.map f):=by
 induction l generalizing k with
 |nil=>rfl
 |cons a l ih=>simp only[oq,ih,List.map_cons]
end Ev
section ops
variable {α:Sort u}
def mI:List AV->(no:α)->(List DV->α)->α
 |[],_,k=>k []
 | .d x::l,no,k=>mI l no fun l'=>k (x::l')
 |_::_,no,_=>no
theorem tV(l:List AV)(no:α)(k:List DV->α):(∃ l',l=l'.map .d/\mI l no k=k l')\/mI l no k=no:=by
 induction l generalizing k with
 |nil=>exact .inl ⟨[],rfl,rfl⟩
 |cons a l ih =>
  cases a
  case d x =>
   rcases ih (fun l'=>k (x::l'))with⟨l',h1,h2⟩|h
   ·exact .inl ⟨x::l',by rw[h1];rfl,h2⟩
   ·exact .inr h
  all_goals exact .inr rfl
def wq(l:List AV)(k:AV->α):α:=mI l (k (.agg l)) fun l'=>k (.d (.agg l'))
def JK(v:Value)(stop:α)(k:AV->α):α :=
 match v with
 | .bool b=>k (.d (.bool b))
 | .int j n=>k (.d (.int j n))
 | .string s=>k (.d (.str s.data.toList))
 | .slice none 0 0=>k (.d .aW)
 | .pointer none=>k (.d .eJ)
 | .nilFunc=>k (.d .aF)
 | .map none=>k (.d .im)
 | .nilIface=>k (.d .mE)
 |_=>stop
def BA:List (Nat × DV)->Nat->(stop:α)->(AV->α)->α
 |[],_,stop,_=>stop
 |(g,e)::l,i,stop,k=>match Nat.beq g i with
  |true=>k (.b9 e 0)
  |false=>BA l i stop k
def cK(G:List (Nat × DV))(s:List AV)(x:Operand)(stop:α)(k:AV->α):α :=
 match x with
 | .tmp t=>aY s t stop k
 | .const v=>JK v stop k
 | .global g=>BA G g stop k
 | .func f=>k (.fn (.func f) [] [])
def tW(G:List (Nat × DV))(s:List AV):List Operand->(stop:α)->(List AV->α)->α
 |[],_,k=>k []
 |x::l,stop,k=>cK G s x stop fun v=>tW G s l stop fun l'=>k (v::l')
def DV.fm:DV->Bool
 | .agg _=>false
 | .aK _=>false
 | .undef=>false
 |_=>true
def AV.fm:AV->Bool
 | .agg _=>false
 | .aK _=>false
 | .any=>false
 | .d x=>x.fm
 |_=>true
def wu(v:AV)(stop:α)(k:List AV->α):α :=
 match v with
 | .agg c=>k c
 | .d (.agg c)=>oq .d c k
 |v=>match v.fm with
  |true=>k [v]
  |false=>stop
def lh(i:bD)(c:List AV)(off:Nat)(stop:α)(k:AV->α):α :=
 match i.k.agg with
 |true=>qD off c fun c1=>sq i.size c1 fun c2=>match Nat.beq c2.length i.size with
  |true=>wq c2 k
  |false=>stop
 |false=>aY c off stop k
def Ex(i:bD)(h:List af)(a:AV)(stop:α)(k:AV->α):α :=
 match a with
 | .ptr b off=>aY h b stop fun
  | .cells c=>lh i c off stop k
  |_=>stop
 | .b9 e off=>match e with
  | .agg c=>oq .d c fun c'=>lh i c' off stop k
  |x=>lh i [.d x] off stop k
 |_=>stop
def Ey(i:bD)(h:List af)(a v:AV)(stop:α)(k:List af->α):α :=
 match a with
 | .ptr b off=>aY h b stop fun
  | .cells c=>wu v stop fun vs=>match Nat.beq vs.length i.size,Nat.ble (off+vs.length) c.length,vs.all AV.fm with
   |true,true,true=>wo c off vs fun c'=>fI h b (.cells c') k
   |_,_,_=>stop
  |_=>stop
 |_=>stop
def Ez(op:BinOp)(j:IntKind)(a b:Int)(stop:α)(k:AV->α):α :=
 match op with
 | .add=>k (.d (.int j (j.wrap (a+b))))
 | .sub=>k (.d (.int j (j.wrap (a-b))))
 | .mul=>k (.d (.int j (j.wrap (a*b))))
 | .eql=>k (.d (.bool (a==b)))
 | .neq=>k (.d (.bool (a != b)))
 | .lss=>k (.d (.bool (decide (a<b))))
 | .leq=>k (.d (.bool (decide (a<=b))))
 | .gtr=>k (.d (.bool (decide (a>b))))
 | .geq=>k (.d (.bool (decide (a>=b))))
 |_=>stop
def EA(op:BinOp)(a b:List UInt8)(stop:α)(k:AV->α):α :=
 match op with
 | .eql=>k (.d (.bool (a==b)))
 | .neq=>k (.d (.bool (!(a==b))))
 | .lss=>k (.d (.bool (Op.bytesLess a b)))
 | .leq=>k (.d (.bool (Op.bytesLess a b||a==b)))
 | .gtr=>k (.d (.bool (!(Op.bytesLess a b||a==b))))
 | .geq=>k (.d (.bool (!(Op.bytesLess a b))))
 |_=>stop
def IntKind.same:IntKind->IntKind->Bool
 | .i8,.i8 | .i16,.i16 | .i32,.i32 | .i64,.i64 | .u8,.u8 | .u16,.u16 | .u32,.u32 | .u64,.u64=>true
 |_,_=>false
def EB(i:bD)(op:BinOp)(x y:AV)(stop:α)(k:AV->α):α :=
 match x,y with
 | .d (.int j a),.d (.int j' b)=>match IntKind.same j j' with
  |true=>Ez op j a b stop k
  |false=>stop
 | .d (.str a),.d (.str b)=>EA op a b stop k
 | .d (.bool a),.d (.bool b)=>match i.k,op with
  | .bool,.eql=>k (.d (.bool (a==b)))
  | .bool,.neq=>k (.d (.bool (!(a==b))))
  |_,_=>stop
 |_,_=>stop
def BB(op:BinOp)(j:IntKind)(a:Int)(y:Operand)(stop:α)(k:AV->α):α :=
 match y with
 | .const (.int j' (.ofNat (m+1)))=>match op with
  | .quo=>match IntKind.same j j' with
   |true=>k (.d (.int j (j.wrap (a.tdiv (.ofNat (m+1))))))
   |false=>stop
  | .rem=>match IntKind.same j j' with
   |true=>k (.d (.int j (a.tmod (.ofNat (m+1)))))
   |false=>stop
  |_=>stop
 |_=>stop
def BC(i:bD)(f:Nat)(stop:α)(k:Nat->Nat->α):α :=
 match i.k with
 | .struct fs=>aY fs f stop fun p=>k p.1 p.2
 |_=>stop
def wv(pl:Nat->Option (Nat × Nat)):List (Nat × AV)->List AV->(stop:α)->(List AV->α)->α
 |[],c,_,k=>k c
 |(f,v)::r,c,stop,k =>
  match pl f with
  |none=>stop
  |some p=>wu v stop fun vs=>match Nat.beq vs.length p.2,Nat.ble (p.1+vs.length) c.length with
   |true,true=>wo c p.1 vs fun c'=>wv pl r c' stop k
   |_,_=>stop
def BD(T:List bD):List (Nat × Nat)->(stop:α)->(List (Nat × Nat)->α)->α
 |[],_,k=>k []
 |(o,t)::l,stop,k=>aY T t stop fun i=>BD T l stop fun l'=>k ((o,i.size)::l')
def eu{β:Type}:List β->Nat->Option β
 |[],_=>none
 |a::_,0=>some a
 |_::l,i+1=>eu l i
def ot(sz:Nat):List (Nat × AV)->List DV->(stop:α)->(List DV->α)->α
 |[],c,_,k=>k c
 |(f,.d x)::r,c,stop,k=>match x with
  | .agg l=>match Nat.beq l.length sz,l.all DV.fm,Nat.blt f c.length with
   |true,true,true=>fI c f (.agg l) fun c'=>ot sz r c' stop k
   |_,_,_=>stop
  |x=>match Nat.beq 1 sz,x.fm,Nat.blt f c.length with
   |true,true,true=>fI c f x fun c'=>ot sz r c' stop k
   |_,_,_=>stop
 |_::_,_,stop,_=>stop
def tX:Nat->DV->(List DV->α)->α
 |0,_,k=>k []
 |n+1,x,k=>tX n x fun l=>k (x::l)
def tY(G:List (Nat × DV))(s:List AV):List (Nat × Operand)->(stop:α)->(List (Nat × AV)->α)->α
 |[],_,k=>k []
 |(i,x)::l,stop,k=>cK G s x stop fun v=>tY G s l stop fun l'=>k ((i,v)::l')
def fo(T:List bD)(G:List (Nat × DV))(o:Op)(s:List AV)(h:List af)(stop:α)(k:AV->List af->α):α :=
 match o with
 | .move x=>cK G s x stop fun v=>k v h
 | .assign x=>cK G s x stop fun v=>k v h
 | .box _ x=>cK G s x stop fun v=>wu v stop fun c=>lY h (.cells c) 0 fun h' n=>k (.ptr n 0) h'
 | .alloc t=>aY T t stop fun i=>match Nat.beq i.zero.length i.size,Nat.blt 0 i.size with
  |true,true=>oq .d i.zero fun c=>lY h (.cells c) 0 fun h' n=>k (.ptr n 0) h'
  |_,_=>stop
 | .load t x=>aY T t stop fun i=>cK G s x stop fun a=>Ex i h a stop fun v=>k v h
 | .store t x y=>aY T t stop fun i=>cK G s x stop fun a=>cK G s y stop fun v=>Ey i h a v stop fun h'=>k (.d .undef) h'
 | .fieldAddr t x f=>aY T t stop fun i=>BC i f stop fun o ft=>aY T ft stop fun fi=>match Nat.blt 0 fi.size with
  |false=>stop
  |true=>cK G s x stop fun
   | .ptr b off=>aY h b stop fun
    | .cells _=>k (.ptr b (off+o)) h
    |_=>stop
   | .b9 e off=>k (.b9 e (off+o)) h
   | .cO b g i off=>aY h b stop fun
    | .arr g' _ _=>match Nat.beq g g' with
     |true=>k (.cO b g i (off+o)) h
     |false=>stop
    |_=>stop
   |_=>stop
 | .field t x f=>aY T t stop fun i=>BC i f stop fun o ft=>aY T ft stop fun fi=>cK G s x stop fun
  | .agg c=>lh fi c o stop fun v=>k v h
  | .d (.agg c)=>oq .d c fun c'=>lh fi c' o stop fun v=>k v h
  |_=>stop
 | .nilCheck x=>cK G s x stop fun
  | .ptr b off=>aY h b stop fun
   | .cells _=>k (.ptr b off) h
   |_=>stop
  | .b9 e off=>k (.b9 e off) h
  | .cO b g i off=>aY h b stop fun
   | .arr g' _ _=>match Nat.beq g g' with
    |true=>k (.cO b g i off) h
    |false=>stop
   |_=>stop
  |_=>stop
 | .binOp op t x y _=>aY T t stop fun i=>cK G s x stop fun a=>cK G s y stop fun b =>
  match op with
  | .quo=>match a with
   | .d (.int j n)=>BB .quo j n y stop fun v=>k v h
   |_=>stop
  | .rem=>match a with
   | .d (.int j n)=>BB .rem j n y stop fun v=>k v h
   |_=>stop
  |op=>EB i op a b stop fun v=>k v h
 | .unOp .not _ x=>cK G s x stop fun
  | .d (.bool b)=>k (.d (.bool !b)) h
  |_=>stop
 | .unOp .neg _ x=>cK G s x stop fun
  | .d (.int j n)=>k (.d (.int j (j.wrap (0-n)))) h
  |_=>stop
 | .pick c a b=>cK G s c stop fun
  | .d (.bool true)=>cK G s a stop fun v=>k v h
  | .d (.bool false)=>cK G s b stop fun v=>k v h
  |_=>stop
 | .extract x i=>cK G s x stop fun
  | .aK l=>aY l i stop fun v=>k v h
  | .d (.aK l)=>aY l i stop fun v=>k (.d v) h
  |_=>stop
 | .convert t0 t x=>aY T t0 stop fun _=>aY T t stop fun i=>cK G s x stop fun v=>match i.k,v with
  | .int j,.d (.int _ n)=>k (.d (.int j (j.wrap n))) h
  | .string,.d (.str l)=>k (.d (.str l)) h
  |_,_=>stop
 | .build t parts=>aY T t stop fun i=>tY G s parts.toList stop fun ps=>match Nat.beq i.zero.length i.size,Nat.blt 0 i.size with
  |true,true=>oq .d i.zero fun z=>match i.k with
   | .struct fs=>BD T fs stop fun pl=>wv (eu pl) ps z stop fun c=>wq c fun v=>k v h
   | .array _ e=>aY T e stop fun ei=>wv (fun i=>some (i*ei.size,ei.size)) ps z stop fun c=>wq c fun v=>k v h
   |_=>stop
  |_,_=>stop
 | .buildSlice t len parts=>aY T t stop fun i=>match i.k with
  | .slice e=>aY T e stop fun ei=>match Nat.beq ei.zero.length ei.size,Nat.blt 0 ei.size,Nat.blt 0 len,Nat.ble (len*ei.size) 16777216,ei.zero.all DV.fm with
   |true,true,true,true,true=>tY G s parts.toList stop fun ps =>
    match ei.zero with
    |[z]=>tX len z fun zs=>ot ei.size ps zs stop fun l=>k (.d (.sl l)) h
    |zl=>tX len (.agg zl) fun zs=>ot ei.size ps zs stop fun l=>k (.d (.sl l)) h
   |_,_,_,_,_=>stop
  |_=>stop
 | .makeFunc f first captured=>tW G s first.toList stop fun a=>tW G s captured.toList stop fun b=>k (.fn f a b) h
 | .call { callee := .builtin .len,args:=args,argTypes:=ts }=>aY args.toList 0 stop fun x=>aY ts.toList 0 stop fun t=>aY T t stop fun i=>cK G s x stop fun v=>match i.k,v with
  | .slice _,.d (.sl l)=>k (.d (.int .i64 l.length)) h
  | .string,.d (.str l)=>k (.d (.int .i64 l.length)) h
  | .slice _,.d .aW=>k (.d (.int .i64 0)) h
  | .slice _,.own b g=>aY h b stop fun
   | .arr g' _ l=>match Nat.beq g g' with
    |true=>k (.d (.int .i64 l.length)) h
    |false=>stop
   |_=>stop
  |_,_=>stop
 |_=>stop
def bL(s:List AV)(d:Option Nat)(v:AV)(k:List AV->α):α :=
 match d with
 |some d=>fI s d v k
 |none=>k s
end ops
end Go.aA
end
section
namespace Go.aA
open Go
structure pw(en:Array MapEntry)(ck n:Nat):Prop where
 size:en.size=n
 born:∀ x∈en.toList,x.born<ck
 nodup:(en.toList.map (·.born)).Nodup
 idx:∀ (j:Nat) (x:MapEntry),en[j]?=some x->x.born=j
 tick:ck=n
theorem pw.push{en:Array MapEntry}{ck n:Nat}(h:pw en ck n)(u w:Value):pw (en.push { key:=u,val:=w,born:=ck }) (ck+1) (n+1):=by
 refine⟨by simp[h.size],fun x hx=>?_,?_,fun j x hj=>?_,by rw[h.tick]⟩
 ·rw[Array.toList_push,List.mem_append]at hx;rcases hx with hx|hx
  ·have:=h.born x hx;omega
  ·simp at hx;subst hx;simp
 ·rw[Array.toList_push,List.map_append,List.nodup_append];refine⟨h.nodup,by simp,fun a ha b hb=>?_⟩;obtain⟨x,hx,rfl⟩:=List.mem_map.1 ha;have:=h.born x hx;simp at hb;omega
 ·rw[Array.getElem?_push]at hj;split at hj
  ·rename_i e;cases hj;rw[e,h.size];exact h.tick
  ·exact h.idx j x hj
theorem pw.modify{en:Array MapEntry}{ck n:Nat}(h:pw en ck n)(i:Nat)(u w:Value):pw (en.modify i fun e=>{ e with key:=u,val:=w }) ck n:=by
 have hm:(en.modify i fun e=>{ e with key:=u,val:=w }).toList.map (·.born)=en.toList.map (·.born):=by
  apply List.ext_getElem?;intro j;simp only[List.getElem?_map,Array.getElem?_toList,Array.getElem?_modify];by_cases hj:i=j
  ·rw[if_pos hj];cases en[j]? <;> rfl
  ·rw[if_neg hj]
 refine⟨by simp[h.size],fun x hx=>?_,by rw[hm];exact h.nodup,fun j x hj=>?_,h.tick⟩
 case refine_2 =>
  have e:(en.toList.map (·.born))[j]?=some x.born:=by rw[<- hm,List.getElem?_map,Array.getElem?_toList,hj];rfl
  simp only[List.getElem?_map,Array.getElem?_toList,Option.map_eq_some_iff]at e;obtain⟨y,hy,e⟩:=e;rw[<- e];exact h.idx j y hy
 have:x.born∈en.toList.map (·.born):=by rw[<- hm];exact List.mem_map_of_mem hx
 obtain⟨y,hy,e⟩:=List.mem_map.1 this;rw[<- e];exact h.born y hy
def jr(c:Cx)(i:Nat):af->Prop
 | .cells cs=>∃ (blk cap:Nat) (vs:Array Value) (ty:TypeId),c.own i=some (blk,cap)/\c.w.heap[blk]?=some (.cells vs ty (0,0))/\vs.size=cs.length /\
   ∀ (j:Nat) (x:AV) (v:Value),cs[j]?=some x->vs[j]?=some v->VR c x v
 | .arr _ ts l=>0<ts.2/\(∀ (i:Nat) (e:DV),l[i]?=some e->e.cells.length=ts.2) /\
   ((c.own i=none/\l=[])\/∃ (blk cap:Nat) (vs:Array Value),c.own i=some (blk,cap)/\c.w.heap[blk]?=some (.cells vs ts.1 (0,0))/\vs.size=cap*ts.2/\l.length<=cap/\cap<=maxLen /\
    ∀ (i j:Nat) (e x:DV),l[i]?=some e->e.cells[j]?=some x->∃ v,vs[i*ts.2+j]?=some v/\v.oneCell'=true/\VD c.bad c.w x v)
 | .map es=>∃ (blk cap:Nat) (en:Array MapEntry) (ck:Nat),c.own i=some (blk,cap)/\c.w.heap[blk]?=some (.map en ck)/\pw en ck es.length /\
   ∀ (j:Nat) (k x:DV) (m:MapEntry),es[j]?=some (k,x)->en[j]?=some m->VD c.bad c.w k m.key/\VD c.bad c.w x m.val
 | .gone=>c.own i=none
structure aE(G:List (Nat × DV))(c:Cx):Prop where
 bE:∀ b,c.ak b->b<c.w.heap.size
 bI:∀ i b n,c.own i=some (b,n)->b<c.w.heap.size/\i<c.heap.length
 inj:∀ i j b n m,c.own i=some (b,n)->c.own j=some (b,m)->i=j
 sep:∀ i b n,c.own i=some (b,n)->¬ c.ak b
 box:∀ i bx,c.heap[i]?=some bx->jr c i bx
 fB:∀ g e,(g,e)∈G->VR c (.b9 e 0) (.pointer (some ⟨g,0,none⟩))
def VS(c:Cx)(s:List AV)(t:Array Value):Prop:=s.length=t.size/\∀ (i:Nat) (x:AV) (v:Value),s[i]?=some x->t[i]?=some v->VR c x v
theorem Step.vs{c c':Cx}(h:Step c c'){s:List AV}{t:Array Value}(hv:VS c s t):VS c' s t:=⟨hv.1,fun i x v hx ht=>h.vr (hv.2 i x v hx ht)⟩
theorem VS.put{c:Cx}{s:List AV}{t:Array Value}(hv:VS c s t)(d:Nat){x:AV}{v:Value}(hx:VR c x v):VS c (s.set d x) (t.setIfInBounds d v):=by
 refine⟨by simpa using hv.1,fun i y u hy hu=>?_⟩;by_cases hd:d=i
 ·subst hd;have h1:d<s.length:=by
   rcases Nat.lt_or_ge d s.length with h|h
   ·exact h
   ·rw[List.getElem?_eq_none (by simpa using h)]at hy;cases hy
  have h2:d<t.size:=by rw[<- hv.1];exact h1
  rw[List.getElem?_set_self h1]at hy;rw[Array.getElem?_setIfInBounds_self_of_lt h2]at hu;cases hy;cases hu;exact hx
 ·rw[List.getElem?_set_ne hd]at hy;rw[Array.getElem?_setIfInBounds_ne hd]at hu;exact hv.2 i y u hy hu
theorem jr.keep{c c':Cx}(h:Step c c'){i:Nat}{bx:af}(hb:jr c i bx)(ho:c'.own i=c.own i)(hw:∀ b n,c.own i=some (b,n)->c'.w.heap[b]?=c.w.heap[b]?):jr c' i bx:=by
 cases bx with
 |cells cs =>
  obtain⟨blk,cap,vs,ty,h1,h2,h3,h4⟩:=hb;exact⟨blk,cap,vs,ty,ho.trans h1,(hw blk cap h1).trans h2,h3,fun j x v hx hv=>h.vr (h4 j x v hx hv)⟩
 |arr g ts l =>
  obtain⟨h0,h1,h2⟩:=hb;refine⟨h0,h1,?_⟩;rcases h2 with⟨h2,h3⟩|⟨blk,cap,vs,h2,h3,h4,h5,h6,h7⟩
  ·exact .inl ⟨ho.trans h2,h3⟩
  ·refine .inr ⟨blk,cap,vs,ho.trans h2,(hw blk cap h2).trans h3,h4,h5,h6,fun i j e x he hx=>?_⟩;obtain⟨v,h8,yz,h9⟩:=h7 i j e x he hx;exact⟨v,h8,yz,h.vd h9⟩
 |map es =>
  obtain⟨blk,cap,en,ck,h1,h2,h3,h4⟩:=hb;exact⟨blk,cap,en,ck,ho.trans h1,(hw blk cap h1).trans h2,h3,fun j k x m hx hm=>⟨h.vd (h4 j k x m hx hm).1,h.vd (h4 j k x m hx hm).2⟩⟩
 |gone=>exact ho.trans hb
theorem aE.next{G:List (Nat × DV)}{c c':Cx}(h:aE G c)(hs:Step c c')(hl:∀ i b n,c'.own i=some (b,n)->b<c'.w.heap.size/\i<c'.heap.length)
  (hi:∀ i j b n m,c'.own i=some (b,n)->c'.own j=some (b,m)->i=j)
  (hb:∀ i bx,c'.heap[i]?=some bx->(c.heap[i]?=some bx/\c'.own i=c.own i/\∀ b n,c.own i=some (b,n)->c'.w.heap[b]?=c.w.heap[b]?)\/jr c' i bx):aE G c' where
 bE:=fun b hb=>Nat.lt_of_lt_of_le (h.bE b (by rw[<- hs.ak];exact hb)) hs.size
 bI:=hl
 inj:=hi
 sep:=fun i b n cT hb=>by
  rw[hs.ak]at hb;obtain⟨m,hj⟩:=hs.dw i b n cT (h.bE b hb);exact h.sep i b m hj hb
 box:=fun i bx hx=>(hb i bx hx).elim (fun⟨h1,h2,h3⟩=>(h.box i bx h1).keep hs h2 h3) id
 fB:=fun g e hg=>hs.vr (h.fB g e hg)
def Cx.dI(c:Cx)(w:World):Cx:={ c with w:=w }
theorem aE.grow{G:List (Nat × DV)}{c:Cx}(h:aE G c){w:World}(hx:Proofs.YtcmnpelmmekdkaaGreatDoor.Ext c.w w):aE G (c.dI w)/\Step c (c.dI w):=by
 have hs:Step c (c.dI w):=⟨rfl,h.bE,hx.os,hx.tape,hx.output,hx.size,fun b hb _=>hx.block b hb,fun i b n hi _=>⟨n,hi⟩,(Step.refl c h.bE).boxes⟩;exact⟨h.next hs (fun i b n hi=>⟨Nat.lt_of_lt_of_le (h.bI i b n hi).1 hx.size,(h.bI i b n hi).2⟩) h.inj (fun i bx hb => .inl ⟨hb,rfl,fun b n hn=>hx.block b (h.bI i b n hn).1⟩),hs⟩
def EC(P:Program)(o:Oper)(a:Act)(w:World)(v:Value)(w':World):Prop :=
 (execOp a.eval o).run P w=.ok (.value v) w'\/(execOp a.eval o).run P w=.ok .skip w'/\v=undef
def aZ(E:Env)(op:Op)(s:List AV)(h:List af)(x:AV)(h':List af):Prop :=
 ∀ (o:Oper) (c:Cx) (a:Act),o.op=op->c.heap=h->aE E.G c->VS c s a.tmps ->
  ∃ (c':Cx) (v:Value),EC E.P o a c.w v c'.w/\c'.heap=h'/\aE E.G c'/\VR c' x v/\Step c c'
def bh(G:List (Nat × DV))(s:List AV)(x:Operand)(v:AV):Prop :=
 ∀ (c:Cx) (a:Act),aE G c->VS c s a.tmps->VR c v (a.eval x)
theorem bp{β:Type}{l:List β}{i:Nat}{stop:Prop}{k:β->Prop}(H:aY l i stop k):stop\/∃ x,l[i]?=some x/\k x:=by
 cases h:l[i]? with
 |none=>rw[JJ h]at H;exact .inl H
 |some x=>rw[By h]at H;exact .inr ⟨x,rfl,H⟩
theorem cL{G:List (Nat × DV)}{s:List AV}{x:Operand}{stop:Prop}{k:AV->Prop}(H:cK G s x stop k):stop\/∃ v,bh G s x v/\k v:=by
 cases x with
 |tmp t =>
  rcases bp H with h|⟨v,hv,h⟩
  ·exact .inl h
  refine .inr ⟨v,fun c a _ hs=>?_,h⟩;have hl:t<a.tmps.size:=by
   rw[<- hs.1];rcases Nat.lt_or_ge t s.length with h|h
   ·exact h
   ·rw[List.getElem?_eq_none h]at hv;cases hv
  have:=hs.2 t v a.tmps[t] hv (by simp[hl])
  simpa [Act.eval,hl]using this
 |const v =>
  simp only[cK,JK]at H;split at H<;>first
   |exact .inl H
   |exact .inr ⟨_,fun c a _ _ => .d _ _ (JI rfl),H⟩
 |global g =>
  simp only[cK]at H;have:∀ l:List (Nat × DV),(∀ p∈l,p∈G)->BA l g stop k->stop\/∃ v,bh G s (.global g) v/\k v:=by
   intro l
   induction l with
   |nil=>exact fun _ h => .inl h
   |cons p l ih =>
    intro hm h;obtain⟨g',e⟩:=p;simp only[BA]at h;split at h
    ·rename_i hg;obtain rfl:g'=g:=Nat.eq_of_beq_eq_true hg;exact .inr ⟨_,fun c a ho _=>ho.fB g' e (hm _ (List.mem_cons_self ..)),h⟩
    ·exact ih (fun p hp=>hm p (List.mem_cons_of_mem _ hp)) h
  exact this G (fun _ h=>h) H
 |func f=>exact .inr ⟨_,fun c a _ _ => .fn _ _ _ _ _ rfl rfl (fun j x v h=>by simp at h) (fun j x v h=>by simp at h),H⟩
theorem aZ.quiet{E:Env}{op:Op}{s:List AV}{h:List af}{x:AV}
  (H:∀ (o:Oper) (c:Cx) (a:Act),o.op=op->c.heap=h->aE E.G c->VS c s a.tmps->∃ v,(execOp a.eval o).run E.P c.w=.ok (.value v) c.w/\VR c x v):aZ E op s h x h :=
 fun o c a h1 h2 h3 h4=>let ⟨v,h5,h6⟩:=H o c a h1 h2 h3 h4;⟨c,v,.inl h5,h2,h3,h6,Step.refl c h3.bE⟩
theorem JM{E:Env}{s:List AV}{h:List af}{x:Operand}{v:AV}(hx:bh E.G s x v):aZ E (.move x) s h v h :=
 .quiet fun o c a h1 _ h3 h4=>⟨_,by simp only[execOp,h1];rfl,hx c a h3 h4⟩
theorem JN{E:Env}{s:List AV}{h:List af}{x:Operand}{v:AV}(hx:bh E.G s x v):aZ E (.assign x) s h v h :=
 .quiet fun o c a h1 _ h3 h4=>⟨_,by simp only[execOp,h1];rfl,hx c a h3 h4⟩
end Go.aA
end
section
namespace Go.aA
open Go
section
variable {E:Env} {s:List AV} {h:List af} {c:Cx}
theorem tZ{b:Bool}{v:Value}(h:VR c (.d (.bool b)) v):v=.bool b:=by cases h with|d _ _ h=>cases h;rfl
theorem gb{k:IntKind}{n:Int}{v:Value}(h:VR c (.d (.int k n)) v):v=.int k n:=by cases h with|d _ _ h=>cases h;rfl
theorem px{l:List UInt8}{v:Value}(h:VR c (.d (.str l)) v):v=.string ⟨l.toArray⟩:=by cases h with|d _ _ h=>cases h;rfl
def VL(c:Cx)(l:List AV)(vs:List Value):Prop:=l.length=vs.length/\∀ (j:Nat) (x:AV) (v:Value),l[j]?=some x->vs[j]?=some v->VR c x v
theorem VL.nil:VL c [] []:=⟨rfl,fun j x v h=>by simp at h⟩
theorem VL.cons{x:AV}{v:Value}{l:List AV}{vs:List Value}(h:VR c x v)(hl:VL c l vs):VL c (x::l) (v::vs) :=
 ⟨by simp[hl.1],fun j y u hy hu=>by
  cases j with
  |zero=>simp at hy hu;subst hy;subst hu;exact h
  |succ j=>exact hl.2 j y u (by simpa using hy) (by simpa using hu)⟩
theorem VL.head{x:AV}{v:Value}{l:List AV}{vs:List Value}(h:VL c (x::l) (v::vs)):VR c x v/\VL c l vs :=
 ⟨h.2 0 x v rfl rfl,by simpa using h.1,fun j y u hy hu=>h.2 (j+1) y u (by simpa using hy) (by simpa using hu)⟩
theorem VL.set{x:AV}{v:Value}{l:List AV}{vs:List Value}(h:VL c l vs)(i:Nat)(hx:VR c x v):VL c (l.set i x) (vs.set i v):=by
 have:=VS.put (t:=vs.toArray) (s:=l) ⟨by simpa using h.1,fun j y u hy hu=>h.2 j y u hy (by simpa using hu)⟩ i hx;exact⟨by simpa using h.1,fun j y u hy hu=>this.2 j y u hy (by simpa using hu)⟩
theorem VL.dG:∀ {xs:List AV} {us:List Value} {cs:List AV} {os:List Value} (_:VL c cs os) (off:Nat) (_:VL c xs us),VL c (dG cs off xs) (aA.dG os off us):=by
 intro xs
 induction xs with
 |nil=>intro us cs os hc off hx;obtain rfl:us=[]:=List.eq_nil_of_length_eq_zero hx.1.symm;exact hc
 |cons x xs ih =>
  intro us cs os hc off hx;cases us with
  |nil=>simp[VL]at hx
  |cons u us=>exact ih (hc.set off hx.head.1) (off+1) hx.head.2
theorem VL.drop{l:List AV}{vs:List Value}(h:VL c l vs)(n:Nat):VL c (l.drop n) (vs.drop n) :=
 ⟨by simp[h.1],fun j y u hy hu=>h.2 (n+j) y u (by simpa using hy) (by simpa using hu)⟩
theorem VL.take{l:List AV}{vs:List Value}(h:VL c l vs)(n:Nat):VL c (l.take n) (vs.take n) :=
 ⟨by simp[h.1],fun j y u hy hu=>by
  rw[List.getElem?_take]at hy hu;split at hy
  ·rename_i hj;rw[if_pos hj]at hu;exact h.2 j y u hy hu
  ·cases hy⟩
theorem VL.uc{l:List DV}{vs:List Value}(hl:l.length=vs.length)(h:∀ (j:Nat) (x:DV) (v:Value),l[j]?=some x->vs[j]?=some v->VD c.bad c.w x v):VL c (l.map .d) vs :=
 ⟨by simpa using hl,fun j y u hy hu=>by
  rw[List.getElem?_map]at hy;cases hx:l[j]? with
  |none=>rw[hx]at hy;cases hy
  |some x=>rw[hx]at hy;cases hy;exact .d _ _ (h j x u hx hu)⟩
theorem VL.py{l:List DV}{vs:List Value}(h:VL c (l.map .d) vs):∀ (j:Nat) (x:DV) (v:Value),l[j]?=some x->vs[j]?=some v->VD c.bad c.w x v:=fun j x v hx hv=>by
 have:=h.2 j (.d x) v (by rw[List.getElem?_map,hx];rfl) hv;cases this with|d _ _ h=>exact h
theorem Step.vl{c c':Cx}(h:Step c c'){l:List AV}{vs:List Value}(hv:VL c l vs):VL c' l vs:=⟨hv.1,fun j x v hx hu=>h.vr (hv.2 j x v hx hu)⟩
theorem yA{l:List AV}{vs:List Value}(h:VL c l vs):VR c (.agg l) (.agg vs.toArray) :=
 .agg l vs.toArray (by simpa using h.1) (fun j x v hx hv=>h.2 j x v hx (by simpa using hv))
theorem yB{l:List AV}{k:AV->Prop}(H:wq l k):∃ v,k v/\∀ (c:Cx) (vs:List Value),VL c l vs->VR c v (.agg vs.toArray):=by
 unfold wq at H;rcases tV l (k (.agg l)) (fun l'=>k (.d (.agg l')))with⟨l',h1,h2⟩|h2
 ·rw[h2]at H;refine⟨_,H,fun c vs hv => .d _ _ (.agg _ _ (by have:=hv.1;rw[h1]at this;simpa using this) ?_)⟩;rw[h1]at hv;exact fun j x v hx ir=>hv.py j x v hx (by simpa using ir)
 ·rw[h2]at H;exact⟨_,H,fun c vs hv=>yA hv⟩
theorem ED{l:List DV}{v:Value}(h:VR c (.d (.agg l)) v):∃ vs:List Value,v=.agg vs.toArray/\VL c (l.map .d) vs:=by
 cases h with
 |d _ _ h=>cases h with
  |agg _ vs hl hv=>exact⟨vs.toList,by simp,.uc (by simpa using hl) (fun j x v hx hu=>hv j x v hx (by simpa using hu))⟩
theorem sr{l:List AV}{v:Value}(h:VR c (.agg l) v):∃ vs:List Value,v=.agg vs.toArray/\VL c l vs:=by
 cases h with
 |agg _ vs hl hv=>exact⟨vs.toList,by simp,by simpa using hl,fun j x v hx hu=>hv j x v hx (by simpa using hu)⟩
theorem yC{bad:Nat->Prop}{w:World}{x:DV}{v:Value}(h:VD bad w x v)(h1:x.fm=true):v.oneCell'=true:=by
 cases h<;>first|rfl|assumption|cases h1
theorem EE{x:AV}{v:Value}(h:VR c x v)(h1:x.fm=true):v.oneCell'=true:=by
 cases h with
 |d y v hy=>exact yC hy h1
 |_=>first|rfl|assumption|cases h1
theorem cells_one{v:Value}(h:v.oneCell'=true):v.cells = #[v]:=by
 cases v<;>first|rfl|cases h
def EF(x:AV)(l:List AV):Prop:=∀ (c:Cx) (v:Value),VR c x v->∃ vs:List Value,v.cells=vs.toArray/\VL c l vs
theorem BE{x:AV}{stop:Prop}{k:List AV->Prop}(H:wu x stop k):stop\/∃ l,EF x l/\k l:=by
 unfold wu at H;split at H
 ·rename_i l;exact .inr ⟨l,fun c v hv=>(by obtain⟨vs,rfl,h⟩:=sr hv;exact⟨vs,rfl,h⟩),H⟩
 ·rename_i l;rw[qE]at H;exact .inr ⟨_,fun c v hv=>(by obtain⟨vs,rfl,h⟩:=ED hv;exact⟨vs,rfl,h⟩),H⟩
 ·split at H
  ·rename_i hs;exact .inr ⟨[x],fun c v hv=>⟨[v],cells_one (EE hv hs),.cons hv .nil⟩,H⟩
  ·exact .inl H
theorem cM{P:Program}{t:Nat}{i:bD}(h:eR P t=some i):∃ ti d,P.info? t=some ti/\P.underlying t=some d/\i.k=tk d/\i.size=ti.size/\i.bytes=ti.bytes/\i.zero=wm ti.zero:=by
 unfold eR at h;split at h
 ·rename_i ti d h1 h2;cases h;exact⟨ti,d,h1,h2,rfl,rfl,rfl,rfl⟩
 ·cases h
theorem BF{P:Program}{t:Nat}{i:bD}(h:eR P t=some i)(w:World):(isAgg t).run P w=.ok i.k.agg w:=by
 obtain⟨ti,d,h1,h2,h3,-⟩:=cM h;rw[h3];simp only[isAgg,underlying,bind,Sem.bind,program,h2,pure,Sem.run];cases d<;>rfl
theorem run_sizeOf{P:Program}{t:Nat}{i:bD}(h:eR P t=some i)(w:World):(Go.sizeOf t).run P w=.ok i.size w:=by
 obtain⟨ti,d,h1,h2,h3,h4,-⟩:=cM h;simp only[Go.sizeOf,typeInfo,bind,Sem.bind,program,h1,pure,Sem.run,h4]
def BG(w:World)(b o:Nat)(vs:List Value):Prop:=∀ j v,vs[j]?=some v->w.cell? ⟨b,o+j,none⟩=some v
theorem lj(b o j:Nat):(⟨b,o,none⟩:Addr).add j=⟨b,o+j,none⟩:=by unfold Addr.add;split<;>simp_all
theorem RU{P:Program}{t:Nat}{i:bD}(h:eR P t=some i){w:World}{b o:Nat}{vs:List Value}(hr:BG w b o vs)(hs:vs.length=i.size)(fp:i.k.agg=true) :
  (Instr.loadAt t (.pointer (some ⟨b,o,none⟩))).run P w=.ok (.agg vs.toArray) w:=by
 have h1:=run_loadCells_list (P:=P) w ⟨b,o,none⟩ vs (fun j v hv=>by rw[lj];exact hr j v hv);rw[hs]at h1;simp only[Instr.loadAt,Instr.sureAddr,loadVar,Sem.run_bind,Sem.run_pure,Result.andThen_ok,BF h,fp,run_sizeOf h,h1,if_true]
theorem RV{P:Program}{t:Nat}{i:bD}(h:eR P t=some i){w:World}{a:Addr}{v:Value}(hr:w.cell? a=some v)(fp:i.k.agg=false) :
  (Instr.loadAt t (.pointer (some a))).run P w=.ok v w:=by
 simp only[Instr.loadAt,Instr.sureAddr,loadVar,Sem.run_bind,Sem.run_pure,Result.andThen_ok,BF h,fp,Bool.false_eq_true,if_false,load,Sem.run,hr]
theorem BH{i:bD}{l:List AV}{off:Nat}{stop:Prop}{k:AV->Prop}(H:lh i l off stop k):stop\/∃ x,k x/\∀ (P:Program) (t:Nat) (c:Cx) (b o:Nat) (vs:List Value),eR P t=some i->VL c l vs->BG c.w b o vs ->
  ∃ v,(Instr.loadAt t (.pointer (some ⟨b,o+off,none⟩))).run P c.w=.ok v c.w/\VR c x v:=by
 unfold lh at H;split at H
 ·rename_i fp;rw[yy,Bz]at H;split at H
  ·rename_i hl;obtain⟨x,hx,h⟩:=yB H;refine .inr ⟨x,hx,fun P t c b o vs ht hv hr=>⟨_,RU ht (b:=b) (o:=o+off) (vs:=(vs.drop off).take i.size) (fun j v hj=>?_) ?_ fp,h c _ ((hv.drop off).take _)⟩⟩
   ·rw[List.getElem?_take]at hj;split at hj
    ·have:=hr (off+j) v (by simpa using hj);rwa [<- Nat.add_assoc]at this
    ·cases hj
   ·have:=Nat.eq_of_beq_eq_true hl;simp only[List.length_take,List.length_drop]at this ⊢;rw[<- hv.1];exact this
  ·exact .inl H
 ·rename_i fp;rcases bp H with h|⟨x,hx,h⟩
  ·exact .inl h
  refine .inr ⟨x,h,fun P t c b o vs ht hv hr=>?_⟩;have ai:off<vs.length:=by
   rw[<- hv.1];rcases Nat.lt_or_ge off l.length with h|h
   ·exact h
   ·rw[List.getElem?_eq_none h]at hx;cases hx
  exact⟨vs[off],RV ht (hr off _ (by simp[ai])) fp,hv.2 off x _ hx (by simp[ai])⟩
end
end Go.aA
end
section
namespace Go.aA
open Go Go.RowKit
section
variable {E:Env} {s:List AV} {h:List af} {c:Cx} {G:List (Nat × DV)}
theorem yD(b:Nat):∀ (vs:List Value) (o:Nat) (w:World),(w.setCells b o vs).os=w.os/\(w.setCells b o vs).tape=w.tape/\(w.setCells b o vs).output=w.output/\(w.setCells b o vs).heap.size=w.heap.size
 |[],_,_=>⟨rfl,rfl,rfl,rfl⟩
 |v::r,o,w=>by
  obtain⟨h1,h2,h3,h4⟩:=yD b r (o+1) (w.setCell ⟨b,o,none⟩ v);exact⟨h1,h2,h3,h4.trans (by simp)⟩
theorem ud(b:Nat):∀ (vs:List Value) (o:Nat) (w:World) (k:Nat),k≠b->(w.setCells b o vs).heap[k]?=w.heap[k]?
 |[],_,_,_,_=>rfl
 |v::r,o,w,k,hk=>by
  have:=ud b r (o+1) (w.setCell ⟨b,o,none⟩ v) k hk;exact this.trans (Below.heap_setCell w _ v k hk)
theorem yE(b:Nat)(ty:TypeId)(fr:Nat × Nat):∀ (vs:List Value) (o:Nat) (w:World) (cur:Array Value),w.heap[b]?=some (.cells cur ty fr) ->
  (w.setCells b o vs).heap[b]?=some (.cells (dG cur.toList o vs).toArray ty fr)
 |[],_,_,cur,hb=>by simpa [dG,World.setCells]using hb
 |v::r,o,w,cur,hb=>by
  have h1:(w.setCell ⟨b,o,none⟩ v).heap[b]?=some (.cells (cur.setIfInBounds o v) ty fr):=by
   simp only[World.setCell,Array.getElem?_modify,if_true,hb,Option.map_some];rfl
  have:=yE b ty fr r (o+1) (w.setCell ⟨b,o,none⟩ v) _ h1
  simpa [dG,World.setCells]using this
theorem wx{β:Type}:∀ (vs:List β) (o:Nat) (l:List β),(dG l o vs).length=l.length
 |[],_,_=>rfl
 |v::r,o,l=>by simp[dG,wx r]
theorem mJ{w:World}{b:Nat}{vs:Array Value}{ty:TypeId}{fr:Nat × Nat}(h:w.heap[b]?=some (.cells vs ty fr)):BG w b 0 vs.toList:=fun j v hv=>by
 simp only[World.cell?,h,Nat.zero_add]
 simpa using hv
theorem aE.cells(ho:aE G c){b:Nat}{cs:List AV}(hb:c.heap[b]?=some (.cells cs)):∃ (blk cap:Nat) (vs:Array Value) (ty:TypeId),c.own b=some (blk,cap)/\c.w.heap[blk]?=some (.cells vs ty (0,0))/\VL c cs vs.toList:=by
 obtain⟨blk,cap,vs,ty,h1,h2,h3,h4⟩:=ho.box b _ hb;exact⟨blk,cap,vs,ty,h1,h2,by simpa using h3.symm,fun j x v hx hv=>h4 j x v hx (by simpa using hv)⟩
theorem RW(hE:E.OK){t:Nat}{x:Operand}{i:bD}(hi:E.T[t]?=some i){a:AV}(ha:bh E.G s x a){stop:Prop}{k:AV->Prop}(H:Ex i h a stop k):stop\/∃ v,k v/\aZ E (.load t x) s h v h:=by
 have ht:=hE.types t i hi;have run:∀ (o:Oper) (ac:Act) (w:World) (v:Value),o.op=.load t x->(Instr.loadAt t (ac.eval x)).run E.P w=.ok v w->(execOp ac.eval o).run E.P w=.ok (.value v) w:=fun o ac w v h1 h2=>by
  simp only[execOp,h1,Sem.run_bind,h2,Result.andThen_ok,Sem.run_pure]
 unfold Ex at H;split at H
 ·rename_i b off;rcases bp H with h1|⟨bx,hb,H⟩
  ·exact .inl h1
  split at H
  ·rename_i cs;rcases BH H with h1|⟨v,hk,hp⟩
   ·exact .inl h1
   refine .inr ⟨v,hk,.quiet fun o c ac h1 h2 h3 h4=>?_⟩;subst h2;obtain⟨blk,cap,vs,ty,g1,g2,g3⟩:=h3.cells hb;have hv:=ha c ac h3 h4;obtain⟨u,hu,qF⟩:=hp E.P t c blk 0 vs.toList ht g3 (mJ g2);refine⟨u,run o ac c.w u h1 ?_,qF⟩;generalize ac.eval x=p at hv;cases hv with
   |ptr b off cs' lk jS cU cV =>
    rw[g1]at cV;cases cV
    rwa [Nat.zero_add]at hu
   |jq b off v' cU _=>rw[hb]at cU;cases cU
  ·exact .inl H
 ·rename_i e off;have key:∀ l:List AV,l=e.cells.map .d->lh i l off stop k->stop\/∃ v,k v/\aZ E (.load t x) s h v h:=fun l hl H=>by
   rcases BH H with h1|⟨v,hk,hp⟩
   ·exact .inl h1
   refine .inr ⟨v,hk,.quiet fun o c ac h1 h2 h3 h4=>?_⟩;have hv:=ha c ac h3 h4;generalize ss:ac.eval x=p at hv;cases hv with
   |b9 _ _ blk o' f iq aM dQ bQ =>
    obtain⟨u,hu,qF⟩:=hp E.P t c blk o' ((List.range e.cells.length).map f) ht (by
      rw[hl];refine .uc (by simp) (fun j y v hy hv=>?_);have hj:j<e.cells.length:=by
       rcases Nat.lt_or_ge j e.cells.length with h|h
       ·exact h
       ·rw[List.getElem?_eq_none h]at hy;cases hy
      simp[hj]at hv;subst hv;exact bQ j y hy) (fun j v hv=>by
      rcases Nat.lt_or_ge j e.cells.length with hj|hj
      ·simp[hj]at hv;subst hv;exact dQ j e.cells[j] (by simp[hj])
      ·rw[List.getElem?_eq_none (by simpa using hj)]at hv;cases hv)
    exact⟨u,run o ac c.w u h1 (by rw[ss];exact hu),qF⟩
  split at H
  ·rename_i l;rw[qE]at H;exact key _ rfl H
  ·rename_i ue;exact key _ (by cases e<;>first|rfl|exact absurd rfl (ue _)) H
 ·exact .inl H
theorem JO{P:Program}{t:Nat}{i:bD}(ht:eR P t=some i){w:World}{b o:Nat}{v:Value}{vs:List Value}(hv:v.cells=vs.toArray)(hs:vs.length=i.size){cur:Array Value}{ty:TypeId}(hb:w.heap[b]?=some (.cells cur ty (0,0)))
  (dJ:o+vs.length<=cur.size) (h1:∀ u∈vs,u.oneCell'=true):(Instr.storeAt t (.pointer (some ⟨b,o,none⟩)) v).run P w=.ok () (w.setCells b o vs):=by
 have aT:=run_storeCells_cells (P:=P) b o vs 0 w (fun j hj=>by
   simp only[World.cell?,hb]
   simp;omega) (fun j hj=>by simp[World.frozen?,hb]) h1
 simp only[Instr.storeAt,Instr.sureAddr,storeVar,Sem.run_bind,Sem.run_pure,Result.andThen_ok,run_sizeOf ht,hv];simp only[List.size_toArray,hs,ne_eq,not_true_eq_false,if_false]
 simpa using aT
theorem aE.write(ho:aE G c){b blk cap:Nat}{cs cs':List AV}{vs:Array Value}{ty:TypeId}(hb:c.heap[b]?=some (.cells cs))(bJ:c.own b=some (blk,cap))(hblk:c.w.heap[blk]?=some (.cells vs ty (0,0)))
  {us:List Value} {off:Nat} (hl:cs'.length=cs.length) (hv:VL c cs' (dG vs.toList off us)) :
  let c':Cx:={ c with heap:=c.heap.set b (.cells cs'),w:=c.w.setCells blk off us }
  aE G c'/\Step c c':=by
 intro c';obtain⟨e1,e2,e3,e4⟩:=yD blk us off c.w;have eD:b<c.heap.length:=(ho.bI b blk cap bJ).2
 have hs:Step c c':={
  ak:=rfl
  bE:=ho.bE
  os:=e1
  tape:=e2
  output:=e3
  size:=Nat.le_of_eq e4.symm
  keep:=fun x _ hn=>ud blk us off c.w x (fun e=>hn b cap (by rw[e];exact bJ))
  dw:=fun i x n hi _=>⟨n,hi⟩
  boxes:=fun i bx hi=>by
   by_cases bR:i=b
   ·subst bR;rw[hb]at hi;cases hi;exact .inl ⟨cs',by show(c.heap.set i _)[i]?=_;rw[List.getElem?_set_self eD],rfl,hl⟩
   ·have h':c'.heap[i]?=some bx:=by show(c.heap.set b _)[i]?=_;rw[List.getElem?_set_ne (Ne.symm bR)];exact hi
    cases bx with
    |cells cs=>exact .inl ⟨cs,h',rfl,rfl⟩
    |arr g sz l=>exact .inl ⟨g,l,h',.inr ⟨rfl,rfl,rfl⟩⟩
    |map es=>exact .inl ⟨es,h',rfl⟩
    |gone=>exact h' }
 refine⟨ho.next hs (fun i x n hi=>⟨by show x<(c.w.setCells blk off us).heap.size;rw[e4];exact(ho.bI i x n hi).1,by show i<(c.heap.set b _).length;rw[List.length_set];exact(ho.bI i x n hi).2⟩) ho.inj (fun i bx hi=>?_),hs⟩;by_cases bR:i=b
 ·subst bR;have cT:(c.heap.set i (.cells cs'))[i]?=some bx:=hi;rw[List.getElem?_set_self eD]at cT;cases cT;right;have ir:=hs.vl hv;exact⟨blk,cap,(dG vs.toList off us).toArray,ty,bJ,yE blk ty (0,0) us off c.w vs hblk,by simpa using ir.1.symm,fun j x v hx hu=>ir.2 j x v hx (by simpa using hu)⟩
 ·left;have cT:(c.heap.set b (.cells cs'))[i]?=some bx:=hi;rw[List.getElem?_set_ne (Ne.symm bR)]at cT;exact⟨cT,rfl,fun x n hn=>ud blk us off c.w x (fun e=>bR (ho.inj i b blk n cap (by rw[<- e];exact hn) bJ))⟩
theorem RX(hE:E.OK){t:Nat}{x y:Operand}{i:bD}(hi:E.T[t]?=some i){a v:AV}(ha:bh E.G s x a)(hv:bh E.G s y v){stop:Prop}{k:List af->Prop}(H:Ey i h a v stop k):stop\/∃ h',k h'/\aZ E (.store t x y) s h (.d .undef) h':=by
 have ht:=hE.types t i hi;unfold Ey at H;split at H
 ·rename_i b off;rcases bp H with h1|⟨bx,hb,H⟩
  ·exact .inl h1
  split at H
  ·rename_i cs;rcases BE H with h1|⟨l,hl,H⟩
   ·exact .inl h1
   split at H
   ·rename_i q1 q2 q3;rw[Ew,gJ]at H;refine .inr ⟨_,H,fun o c ac h1 h2 h3 h4=>?_⟩;subst h2;have hp:=ha c ac h3 h4;have hu:=hv c ac h3 h4;obtain⟨blk,cap,vs,ty,g1,g2,g3⟩:=h3.cells hb;obtain⟨us,pA,js⟩:=hl c _ hu;have q1:=Nat.eq_of_beq_eq_true q1;have q2:=Nat.le_of_ble_eq_true q2;have dJ:off+us.length<=vs.size:=by
     rw[<- js.1];have:=g3.1;simp at this;omega
    have cj:∀ u∈us,u.oneCell'=true:=fun u hu=>by
     obtain⟨j,hj,rfl⟩:=List.getElem_of_mem hu;have mK:j<l.length:=by rw[js.1];exact hj
     exact EE (js.2 j l[j] us[j] (by simp[mK]) (by simp[hj])) (List.all_eq_true.1 q3 _ (List.getElem_mem mK))
    have cW:(Instr.storeAt t (ac.eval x) (ac.eval y)).run E.P c.w=.ok () (c.w.setCells blk off us):=by
     generalize ac.eval x=p at hp;cases hp with
     |ptr b off cs' lk jS cU cV =>
      rw[g1]at cV;cases cV;exact JO ht pA (by rw[<- js.1];exact q1) g2 dJ cj
     |jq b off v' cU _=>rw[hb]at cU;cases cU
    obtain⟨w1,w2⟩:=h3.write (cs':=dG cs off l) (us:=us) (off:=off) hb g1 g2 (wx _ _ _) (VL.dG g3 off js);refine⟨_,Go.undef,.inr ⟨?_,rfl⟩,rfl,w1,.d _ _ .undef,w2⟩;simp only[execOp,h1,Sem.run_bind,cW,Result.andThen_ok,Sem.run_pure]
   ·exact .inl H
  ·exact .inl H
 ·exact .inl H
def Cx.add(c:Cx)(bx:af)(cap:Nat)(o:Obj):Cx:={ c with own:=fun i=>if i=c.heap.length then some (c.w.heap.size,cap)else c.own i,heap:=c.heap++[bx],w:=c.w.alloc o }
theorem aE.add(ho:aE G c)(bx:af)(cap:Nat)(o:Obj):Step c (c.add bx cap o)/\(jr (c.add bx cap o) c.heap.length bx->aE G (c.add bx cap o)):=by
 have dR:∀ i b n,c.own i=some (b,n)->i≠c.heap.length:=fun i b n hi e=>by have:=(ho.bI i b n hi).2;omega
 have hs:Step c (c.add bx cap o):={
  ak:=rfl
  bE:=ho.bE
  os:=rfl
  tape:=rfl
  output:=rfl
  size:=by simp[Cx.add]
  keep:=fun x hx _=>Below.heap_alloc c.w o x hx
  dw:=fun i x n hi hx=>by
   simp only[Cx.add]at hi;split at hi
   ·cases hi;omega
   ·exact⟨n,hi⟩
  boxes:=fun i b hi=>by
   have ai:i<c.heap.length:=by
    rcases Nat.lt_or_ge i c.heap.length with h|h
    ·exact h
    ·rw[List.getElem?_eq_none h]at hi;cases hi
   have h':(c.add bx cap o).heap[i]?=some b:=by simp only[Cx.add];rw[List.getElem?_append_left ai];exact hi
   have qG:(c.add bx cap o).own i=c.own i:=by simp only[Cx.add];rw[if_neg (by omega)]
   cases b with
   |cells cs=>exact .inl ⟨cs,h',qG,rfl⟩
   |arr g sz l=>exact .inl ⟨g,l,h',.inr ⟨rfl,rfl,qG⟩⟩
   |map es=>exact .inl ⟨es,h',qG⟩
   |gone=>exact h' }
 refine⟨hs,fun iu=>ho.next hs ?_ ?_ ?_⟩
 ·intro i b n hi;simp only[Cx.add]at hi ⊢;split at hi
  ·cases hi;simp;omega
  ·have:=ho.bI i b n hi;simp;omega
 ·intro i j b n m hi hj;simp only[Cx.add]at hi hj;split at hi<;>split at hj
  ·omega
  ·cases hi;have:=(ho.bI j _ _ hj).1;omega
  ·cases hj;have:=(ho.bI i _ _ hi).1;omega
  ·exact ho.inj i j b n m hi hj
 ·intro i b hi;by_cases iZ:i=c.heap.length
  ·subst iZ;right;have:b=bx:=by simp[Cx.add]at hi;exact hi.symm
   subst this;exact iu
  ·left;have ai:i<c.heap.length:=by
    rcases Nat.lt_or_ge i c.heap.length with h|h
    ·exact h
    ·rw[List.getElem?_eq_none (by simp[Cx.add];omega)]at hi;cases hi
   refine⟨?_,by simp only[Cx.add];rw[if_neg iZ],fun x n hn=>Below.heap_alloc c.w o x (ho.bI i x n hn).1⟩;simp only[Cx.add]at hi
   rwa [List.getElem?_append_left ai]at hi
theorem aE.EG(ho:aE G c){cs:List AV}{vs:List Value}(hv:VL c cs vs)(ty:TypeId) :
  let c':=c.add (.cells cs) 0 (.cells vs.toArray ty)
  aE G c'/\Step c c'/\VR c' (.ptr c.heap.length 0) (.pointer (some ⟨c.w.heap.size,0,none⟩)):=by
 intro c';obtain⟨h1,h2⟩:=ho.add (.cells cs) 0 (.cells vs.toArray ty);have e1:c'.own c.heap.length=some (c.w.heap.size,0):=by simp[c',Cx.add]
 have ir:=h1.vl hv;refine⟨h2 ⟨c.w.heap.size,0,vs.toArray,ty,e1,heap_alloc_new _ _,by simpa using hv.1.symm,fun j x v hx hu=>ir.2 j x v hx (by simpa using hu)⟩,h1,.ptr _ _ cs _ 0 ?_ e1⟩;simp[c',Cx.add]
theorem RY{t:Nat}{x:Operand}{v:AV}(hv:bh E.G s x v){l:List AV}(hl:EF v l):aZ E (.box t x) s h (.ptr h.length 0) (h++[.cells l]):=fun o c a h1 h2 h3 h4=>by
 subst h2;obtain⟨us,pA,js⟩:=hl c _ (hv c a h3 h4);obtain⟨w1,w2,w3⟩:=h3.EG js t;refine⟨_,_,.inl ?_,rfl,w1,w3,w2⟩;simp only[execOp,h1,Instr.box,newVar,newRow,newObj,Sem.run_bind,Sem.run,Result.andThen_ok,Sem.run_pure,pA];rfl
theorem JP:∀ {vs:List Value} {l:List DV},yx (vs.map tU)=some l->l.length=vs.length/\∀ (j:Nat) (x:DV) (v:Value),l[j]?=some x->vs[j]?=some v->tU v=some x
 |[],l,h=>by cases h;exact⟨rfl,fun j x v h=>by simp at h⟩
 |v::vs,l,h=>by
  simp only[List.map_cons]at h;cases hv:tU v with
  |none=>rw[hv]at h;cases h
  |some x =>
   rw[hv]at h;simp only[yx,Option.map_eq_some_iff]at h;obtain⟨l',h1,rfl⟩:=h;obtain⟨h2,h3⟩:=JP h1;refine⟨by simp[h2],fun j y u hy hu=>?_⟩;cases j with
   |zero=>simp at hy hu;subst hy;subst hu;exact hv
   |succ j=>exact h3 j y u (by simpa using hy) (by simpa using hu)
theorem EH{P:Program}{t:Nat}{i:bD}(ht:eR P t=some i)(hz:i.zero.length=i.size)(cD:0<i.size):∃ z:Value,(∀ w,(zeroValue t).run P w=.ok z w)/\∀ c:Cx,∃ vs:List Value,z.cells=vs.toArray/\VL c (i.zero.map .d) vs:=by
 obtain⟨ti,d,h1,h2,h3,h4,h5,h6⟩:=cM ht;cases kC:ti.zero with
 |none=>rw[h6,kC]at hz;simp[wm]at hz;omega
 |some z =>
  rw[h6,kC]at hz;simp only[wm,Option.bind_some]at hz;cases ha:yx (z.cells.toList.map tU)with
  |none=>rw[ha]at hz;simp at hz;omega
  |some l =>
   refine⟨z,fun w=>by simp only[zeroValue,typeInfo,bind,Sem.bind,program,h1,pure,Sem.run,kC],fun c=>⟨z.cells.toList,by simp,?_⟩⟩;have:i.zero=l:=by rw[h6,kC];simp[wm,ha]
   rw[this];obtain⟨g1,g2⟩:=JP ha;exact .uc g1 (fun j x v hx hu=>JI (g2 j x v hx hu))
theorem EI(hE:E.OK){t:Nat}{i:bD}(hi:E.T[t]?=some i)(hz:i.zero.length=i.size)(cD:0<i.size):aZ E (.alloc t) s h (.ptr h.length 0) (h++[.cells (i.zero.map .d)]):=fun o c a h1 h2 h3 h4=>by
 subst h2;obtain⟨z,jT,iv⟩:=EH (hE.types t i hi) hz cD;obtain⟨us,pA,js⟩:=iv c;obtain⟨w1,w2,w3⟩:=h3.EG js t;refine⟨_,_,.inl ?_,rfl,w1,w3,w2⟩;simp only[execOp,h1,Instr.alloc,newVar,newRow,newObj,Sem.run_bind,Sem.run,Result.andThen_ok,Sem.run_pure,jT,pA];rfl
end
end Go.aA
end
section
namespace Go.aA
open Go Go.RowKit
section
variable {E:Env} {s:List AV} {h:List af} {c:Cx} {G:List (Nat × DV)}
theorem RZ{x a b:Operand}{v:AV}(hx:bh E.G s x (.d (.bool true)))(ha:bh E.G s a v):aZ E (.pick x a b) s h v h :=
 .quiet fun o c ac h1 _ h3 h4=>⟨_,by simp only[execOp,h1,tZ (hx c ac h3 h4),asBool,Sem.run_bind,Sem.run_pure,Result.andThen_ok,if_true],ha c ac h3 h4⟩
theorem R0{x a b:Operand}{v:AV}(hx:bh E.G s x (.d (.bool false)))(hb:bh E.G s b v):aZ E (.pick x a b) s h v h :=
 .quiet fun o c ac h1 _ h3 h4=>⟨_,by simp only[execOp,h1,tZ (hx c ac h3 h4),asBool,Sem.run_bind,Sem.run_pure,Result.andThen_ok];rfl,hb c ac h3 h4⟩
theorem wy(op:BinOp)(t:TypeId)(x y:Operand)(j j':IntKind)(a b:Int):eqGuard op t x y (.int j a) (.int j' b)=pure ():=by
 unfold eqGuard;cases op<;>rfl
theorem R2(op:BinOp)(t:TypeId)(x y:Operand)(a b:ByteArray):eqGuard op t x y (.string a) (.string b)=pure ():=by
 unfold eqGuard;cases op<;>rfl
theorem R3(op:BinOp)(t:TypeId)(x y:Operand)(a b:Bool):eqGuard op t x y (.bool a) (.bool b)=pure ():=by
 unfold eqGuard;cases op<;>rfl
theorem su{j j':IntKind}(h:IntKind.same j j'=true):j=j':=by
 cases j<;>cases j'<;>first|rfl|cases h
theorem qH{P:Program}{o:Oper}{ac:Act}{w:World}{op:BinOp}{t t':TypeId}{x y:Operand}{u:Value}(h1:o.op=.binOp op t x y t')(hg:eqGuard op t x y (ac.eval x) (ac.eval y)=pure ())
  (h:(binOp op t (ac.eval x) (ac.eval y)).run P w=.ok u w):(execOp ac.eval o).run P w=.ok (.value u) w:=by
 simp only[execOp,h1,hg,Sem.run_bind,Sem.run_pure,Result.andThen_ok,h]
theorem ok_int{op:BinOp}{t t':TypeId}{x y:Operand}{j:IntKind}{a b:Int}(hx:bh E.G s x (.d (.int j a)))(hy:bh E.G s y (.d (.int j b))){stop:Prop}{k:AV->Prop}(H:Ez op j a b stop k) :
  stop\/∃ v,k v/\aZ E (.binOp op t x y t') s h v h:=by
 unfold Ez at H;split at H;all_goals first
  |exact .inl H
  |refine .inr ⟨_,H,.quiet fun o c ac h1 _ h3 h4=>?_⟩
   have e1:=gb (hx c ac h3 h4);have e2:=gb (hy c ac h3 h4)
   refine⟨_,qH h1 (by rw[e1,e2];exact wy ..) (u:=?_) (by
    rw[e1,e2];simp only[binOp,ne_eq,not_true_eq_false,if_false,Op.intArith,Op.intCmp]
    rfl),.d _ _ (by constructor)⟩
theorem R4{op:BinOp}{t t':TypeId}{x y:Operand}{a b:List UInt8}(hx:bh E.G s x (.d (.str a)))(hy:bh E.G s y (.d (.str b))){stop:Prop}{k:AV->Prop}(H:EA op a b stop k) :
  stop\/∃ v,k v/\aZ E (.binOp op t x y t') s h v h:=by
 have tl:∀ l:List UInt8,(ByteArray.mk l.toArray).toList=l:=fun l=>by simp
 unfold EA at H;split at H;all_goals first
  |exact .inl H
  |refine .inr ⟨_,H,.quiet fun o c ac h1 _ h3 h4=>?_⟩
   have e1:=px (hx c ac h3 h4);have e2:=px (hy c ac h3 h4)
   refine⟨_,qH h1 (by rw[e1,e2];exact R2 ..) (u:=?_) (by
    rw[e1,e2];simp only[binOp,Op.stringOp,tl]
    rfl),.d _ _ (by constructor)⟩
theorem JQ{op:BinOp}{t t':TypeId}{x y:Operand}{i:bD}(ht:eR E.P t=some i){a b:Bool}(hx:bh E.G s x (.d (.bool a)))(hy:bh E.G s y (.d (.bool b)))(hk:i.k=.bool)(v:Bool)
  (bX:op=.eql/\v=(a==b)\/op=.neq/\v = !(a==b)):aZ E (.binOp op t x y t') s h (.d (.bool v)) h :=
 .quiet fun o c ac h1 _ h3 h4=>by
  have e1:=tZ (hx c ac h3 h4);have e2:=tZ (hy c ac h3 h4);obtain⟨ti,d,g1,g2,g3,-⟩:=cM ht;have hd:d=.bool:=by rw[hk]at g3;cases d<;>first|rfl|cases g3
  subst hd;have heq:∀ w,(Op.equal t (.bool a) (.bool b)).run E.P w=.ok (a==b) w:=fun w=>by
   have:∀ n,(Op.equalIn (n+1) t (.bool a) (.bool b)).run E.P w=.ok (a==b) w:=fun n=>by
    rw[Op.equalIn];simp only[Sem.run_bind,run_underlying g2,Result.andThen_ok,Sem.run_pure]
   exact this 9999
  refine⟨_,qH h1 (by rw[e1,e2];exact R3 ..) (u := .bool v) ?_,.d _ _ (.bool v)⟩;rw[e1,e2];rcases bX with⟨rfl,rfl⟩|⟨rfl,rfl⟩<;>simp only[binOp,Sem.run_bind,heq,Result.andThen_ok,Sem.run_pure]
theorem JS{op:BinOp}{t t':TypeId}{x y:Operand}{j:IntKind}{a:Int}(bX:op=.quo\/op=.rem)(hx:bh E.G s x (.d (.int j a))){stop:Prop}{k:AV->Prop}(H:BB op j a y stop k) :
  stop\/∃ v,k v/\aZ E (.binOp op t x y t') s h v h:=by
 unfold BB at H;split at H
 ·rename_i j' m;have aM:¬ (Int.ofNat (m+1)=0):=by intro h;cases h
  rcases bX with rfl|rfl
  ·dsimp only at H;split at H
   ·rename_i hs;obtain rfl:=su hs;refine .inr ⟨_,H,.quiet fun o c ac h1 _ h3 h4=>⟨_,qH h1 (by rw[gb (hx c ac h3 h4)];exact wy ..) (u := .int j (j.wrap (a.tdiv (.ofNat (m+1))))) ?_,.d _ _ (.int _ _)⟩⟩;rw[gb (hx c ac h3 h4)];simp only[Act.eval,binOp,ne_eq,not_true_eq_false,if_false,Op.intDiv,aM,Sem.run_pure]
   ·exact .inl H
  ·dsimp only at H;split at H
   ·rename_i hs;obtain rfl:=su hs;refine .inr ⟨_,H,.quiet fun o c ac h1 _ h3 h4=>⟨_,qH h1 (by rw[gb (hx c ac h3 h4)];exact wy ..) (u := .int j (a.tmod (.ofNat (m+1)))) ?_,.d _ _ (.int _ _)⟩⟩;rw[gb (hx c ac h3 h4)];simp only[Act.eval,binOp,ne_eq,not_true_eq_false,if_false,Op.intDiv,aM,Sem.run_pure]
   ·exact .inl H
 ·exact .inl H
theorem R5{op:BinOp}(bX:op ≠ .quo/\op ≠ .rem){t t':TypeId}{x y:Operand}{i:bD}(ht:eR E.P t=some i){a b:AV}(hx:bh E.G s x a)(hy:bh E.G s y b){stop:Prop}{k:AV->Prop}(H:EB i op a b stop k) :
  stop\/∃ v,k v/\aZ E (.binOp op t x y t') s h v h:=by
 unfold EB at H;split at H
 ·split at H
  ·rename_i hs;obtain rfl:=su hs;exact ok_int hx hy H
  ·exact .inl H
 ·exact R4 hx hy H
 ·split at H
  ·rename_i hk;exact .inr ⟨_,H,JQ ht hx hy hk _ (.inl ⟨rfl,rfl⟩)⟩
  ·rename_i hk;exact .inr ⟨_,H,JQ ht hx hy hk _ (.inr ⟨rfl,rfl⟩)⟩
  ·exact .inl H
 ·exact .inl H
theorem R6{t:TypeId}{x:Operand}{b:Bool}(hx:bh E.G s x (.d (.bool b))):aZ E (.unOp .not t x) s h (.d (.bool !b)) h :=
 .quiet fun o c ac h1 _ h3 h4=>⟨.bool !b,by simp only[execOp,h1,tZ (hx c ac h3 h4),Op.unary,Sem.run_bind,Sem.run_pure,Result.andThen_ok],.d _ _ (.bool _)⟩
theorem R7{t:TypeId}{x:Operand}{j:IntKind}{n:Int}(hx:bh E.G s x (.d (.int j n))):aZ E (.unOp .neg t x) s h (.d (.int j (j.wrap (0-n)))) h :=
 .quiet fun o c ac h1 _ h3 h4=>⟨.int j (j.wrap (0-n)),by simp only[execOp,h1,gb (hx c ac h3 h4),Op.unary,Op.intArith,Sem.run_bind,Sem.run_pure,Result.andThen_ok],.d _ _ (.int _ _)⟩
theorem JT{x:Operand}{n:Nat}{l:List AV}(hx:bh E.G s x (.aK l)){v:AV}(hv:l[n]?=some v):aZ E (.extract x n) s h v h :=
 .quiet fun o c ac h1 _ h3 h4=>by
  have:=hx c ac h3 h4;generalize he:ac.eval x=u at this;cases this with
  |aK _ vs hl bQ =>
   have hn:n<vs.size:=by
    rw[<- hl];rcases Nat.lt_or_ge n l.length with h|h
    ·exact h
    ·rw[List.getElem?_eq_none h]at hv;cases hv
   exact⟨vs[n],by simp only[execOp,h1,he,Instr.extract,Sem.run_bind,Sem.run_pure,Result.andThen_ok,Array.getElem?_eq_getElem hn],bQ n v vs[n] hv (by simp[hn])⟩
theorem JU{x:Operand}{n:Nat}{l:List DV}(hx:bh E.G s x (.d (.aK l))){v:DV}(hv:l[n]?=some v):aZ E (.extract x n) s h (.d v) h :=
 .quiet fun o c ac h1 _ h3 h4=>by
  have:=hx c ac h3 h4;generalize he:ac.eval x=u at this;cases this with
  |d _ _ hd=>cases hd with
   |aK _ vs hl bQ =>
    have hn:n<vs.size:=by
     rw[<- hl];rcases Nat.lt_or_ge n l.length with h|h
     ·exact h
     ·rw[List.getElem?_eq_none h]at hv;cases hv
    exact⟨vs[n],by simp only[execOp,h1,he,Instr.extract,Sem.run_bind,Sem.run_pure,Result.andThen_ok,Array.getElem?_eq_getElem hn],.d _ _ (bQ n v vs[n] hv (by simp[hn]))⟩
theorem wz{d:TypeDesc}{j:IntKind}(h:TK.int j=tk d):d=.int j:=by cases d<;>first|cases h<;>rfl|cases h
theorem sx{d:TypeDesc}(h:TK.string=tk d):d=.string:=by cases d<;>first|rfl|cases h
theorem lZ{d:TypeDesc}{e:Nat}(h:TK.slice e=tk d):d=.slice e:=by cases d<;>first|cases h<;>rfl|cases h
theorem yF{d:TypeDesc}{n e:Nat}(h:TK.array n e=tk d):d=.array n e:=by cases d<;>first|cases h<;>rfl|cases h
theorem ou{d:TypeDesc}{fs:List (Nat × Nat)}(h:TK.struct fs=tk d):∃ fl,d=.struct fl/\fs=fl.toList.map fun f=>(f.offset,f.type):=by
 cases d with
 |struct fl=>exact⟨fl,rfl,by injection h⟩
 |_=>cases h
theorem R8{t0 t:TypeId}{x:Operand}{i i0:bD}(ht:eR E.P t=some i)(EJ:eR E.P t0=some i0){j j':IntKind}{n:Int}(hk:i.k=.int j)(hx:bh E.G s x (.d (.int j' n))):aZ E (.convert t0 t x) s h (.d (.int j (j.wrap n))) h :=
 .quiet fun o c ac h1 _ h3 h4=>by
  obtain⟨ti,d,g1,g2,g3,-⟩:=cM ht;obtain⟨yG,d0,k1,k2,-⟩:=cM EJ;obtain rfl:=wz (hk.symm.trans g3);refine⟨.int j (j.wrap n),?_,.d _ _ (.int _ _)⟩;simp only[execOp,h1,gb (hx c ac h3 h4),convert,Sem.run_bind,run_underlying k2,run_underlying g2,Result.andThen_ok,Conv.intToInt,Sem.run_pure]
theorem R9{t0 t:TypeId}{x:Operand}{i i0:bD}(ht:eR E.P t=some i)(EJ:eR E.P t0=some i0){l:List UInt8}(hk:i.k=.string)(hx:bh E.G s x (.d (.str l))):aZ E (.convert t0 t x) s h (.d (.str l)) h :=
 .quiet fun o c ac h1 _ h3 h4=>by
  obtain⟨ti,d,g1,g2,g3,-⟩:=cM ht;obtain⟨yG,d0,k1,k2,-⟩:=cM EJ;obtain rfl:=sx (hk.symm.trans g3);refine⟨.string ⟨l.toArray⟩,?_,.d _ _ (.str _)⟩;simp only[execOp,h1,px (hx c ac h3 h4),convert,Sem.run_bind,run_underlying k2,run_underlying g2,Result.andThen_ok,Sem.run_pure]
end
end Go.aA
end
section
namespace Go.aA
open Go Go.RowKit
section
variable {E:Env} {s:List AV} {h:List af} {c:Cx} {G:List (Nat × DV)}
theorem Sa{P:Program}{t f off ft:Nat}{i fi:bD}(ht:eR P t=some i)(Sb:eR P ft=some fi)(cD:0<fi.size){fs:List (Nat × Nat)}(hk:i.k=.struct fs)(hf:fs[f]?=some (off,ft))(w:World)(b o:Nat) :
  (Instr.fieldAt t (.pointer (some ⟨b,o,none⟩)) f).run P w=.ok (.pointer (some ⟨b,o+off,none⟩)) w:=by
 obtain⟨ti,d,g1,g2,g3,-⟩:=cM ht;obtain⟨fl,rfl,rfl⟩:=ou (hk.symm.trans g3);simp only[List.getElem?_map,Option.map_eq_some_iff]at hf;obtain⟨fd,hf,yH⟩:=hf;simp only[Prod.mk.injEq]at yH;obtain⟨rfl,rfl⟩:=yH;have wA:fl[f]?=some fd:=by simpa using hf
 have hz:¬ (fi.size=0):=by omega
 simp only[Instr.fieldAt,Sem.run_bind,run_underlying g2,Result.andThen_ok,wA,Instr.sureAddr,Sem.run_pure,fieldPlace,run_sizeOf Sb,hz,if_false,lj]
theorem JV{i:bD}{f:Nat}{stop:Prop}{k:Nat->Nat->Prop}(H:BC i f stop k):stop\/∃ fs off ft,i.k=.struct fs/\fs[f]?=some (off,ft)/\k off ft:=by
 unfold BC at H;split at H
 ·rename_i fs hk;rcases bp H with h|⟨p,hp,h⟩
  ·exact .inl h
  ·exact .inr ⟨fs,p.1,p.2,hk,hp,h⟩
 ·exact .inl H
theorem EK(hE:E.OK){t f off ft:Nat}{x:Operand}{i fi:bD}(hi:E.T[t]?=some i)(jU:E.T[ft]?=some fi)(cD:0<fi.size){fs:List (Nat × Nat)}(hk:i.k=.struct fs)(hf:fs[f]?=some (off,ft)){a a':AV}(ha:bh E.G s x a)
  (EL:(∃ b o,a=.ptr b o/\a'=.ptr b (o+off)/\∃ cs,h[b]?=some (.cells cs))\/(∃ e o,a=.b9 e o/\a'=.b9 e (o+off))\/(∃ b g i o ts l,a=.cO b g i o/\a'=.cO b g i (o+off)/\h[b]?=some (.arr g ts l))) :
  aZ E (.fieldAddr t x f) s h a' h := .quiet fun o c ac h1 h2 h3 h4=>by
 subst h2;have hv:=ha c ac h3 h4;have run:=Sa (hE.types t i hi) (hE.types ft fi jU) cD hk hf;generalize hp:ac.eval x=p at hv;have fin:∀ blk o',p=.pointer (some ⟨blk,o',none⟩)->(execOp ac.eval o).run E.P c.w=.ok (.value (.pointer (some ⟨blk,o'+off,none⟩))) c.w:=fun blk o' e=>by
  simp only[execOp,h1,hp,e,Sem.run_bind,run,Result.andThen_ok,Sem.run_pure]
 rcases EL with⟨b,o1,rfl,rfl,cs,hb⟩|⟨e,o1,rfl,rfl⟩|⟨b,g,j,o1,ts,l,rfl,rfl,hb⟩
 ·cases hv with
  |ptr _ _ cs blk cap k1 k2=>exact⟨_,fin blk o1 rfl,.ptr _ _ cs blk cap k1 k2⟩
  |jq _ _ _ k1 _=>rw[hb]at k1;cases k1
 ·cases hv with
  |b9 _ _ blk o' fv k1 k2 k3 k4=>exact⟨_,fin blk (o'+o1) rfl,by rw[Nat.add_assoc];exact .b9 _ _ blk o' fv k1 k2 k3 k4⟩
 ·cases hv with
  |cO _ _ _ _ ts l blk cap k1 k2 k3=>exact⟨_,fin blk (j*ts.2+o1) rfl,by rw[Nat.add_assoc];exact .cO _ _ _ _ ts l blk cap k1 k2 k3⟩
  |lW _ _ g' _ _ _ _ _ k1 k2 _=>rw[hb]at k1;cases k1;omega
  |lX _ _ _ _ _ k1 _=>rw[hb]at k1;cases k1
theorem EM{P:Program}{t:Nat}{i:bD}(ht:eR P t=some i)(w:World)(vs:List Value)(off:Nat)(fp:i.k.agg=true) :
  (part t vs.toArray off).run P w=.ok (.agg ((vs.drop off).take i.size).toArray) w:=by
 have:vs.toArray.extract off (off+i.size)=((vs.drop off).take i.size).toArray:=by
  simp[List.extract_eq_take_drop]
 simp only[part,Sem.run_bind,BF ht,fp,Result.andThen_ok,if_true,run_sizeOf ht,Sem.run_pure,this]
theorem wB{P:Program}{t:Nat}{i:bD}(ht:eR P t=some i)(w:World)(vs:List Value)(off:Nat)(v:Value)(hv:vs[off]?=some v)(fp:i.k.agg=false) :
  (part t vs.toArray off).run P w=.ok v w:=by
 have:vs.toArray[off]?=some v:=by simpa using hv
 simp only[part,Sem.run_bind,BF ht,fp,Result.andThen_ok,Bool.false_eq_true,if_false,this,Sem.run_pure]
theorem Sc{i:bD}{l:List AV}{off:Nat}{stop:Prop}{k:AV->Prop}(H:lh i l off stop k):stop\/∃ x,k x/\∀ (P:Program) (t:Nat) (c:Cx) (vs:List Value),eR P t=some i->VL c l vs ->
  ∃ v,(part t vs.toArray off).run P c.w=.ok v c.w/\VR c x v:=by
 unfold lh at H;split at H
 ·rename_i fp;rw[yy,Bz]at H;split at H
  ·obtain⟨x,hx,h⟩:=yB H;refine .inr ⟨x,hx,fun P t c vs ht hv=>⟨_,?_,h c _ ((hv.drop off).take _)⟩⟩;exact EM ht c.w vs off fp
  ·exact .inl H
 ·rename_i fp;rcases bp H with h|⟨x,hx,h⟩
  ·exact .inl h
  refine .inr ⟨x,h,fun P t c vs ht hv=>?_⟩;have ai:off<vs.length:=by
   rw[<- hv.1];rcases Nat.lt_or_ge off l.length with h|h
   ·exact h
   ·rw[List.getElem?_eq_none h]at hx;cases hx
  exact⟨vs[off],wB ht c.w vs off _ (by simp[ai]) fp,hv.2 off x _ hx (by simp[ai])⟩
theorem JW(hE:E.OK){t f off ft:Nat}{x:Operand}{i fi:bD}(hi:E.T[t]?=some i)(jU:E.T[ft]?=some fi){fs:List (Nat × Nat)}(hk:i.k=.struct fs)(hf:fs[f]?=some (off,ft)){a:AV}(ha:bh E.G s x a){l:List AV}
  (hl:∀ (c:Cx) (v:Value),VR c a v->∃ vs:List Value,v=.agg vs.toArray/\VL c l vs) {stop:Prop} {k:AV->Prop} (H:lh fi l off stop k):stop\/∃ v,k v/\aZ E (.field t x f) s h v h:=by
 rcases Sc H with h|⟨v,hv,hp⟩
 ·exact .inl h
 refine .inr ⟨v,hv,.quiet fun o c ac h1 _ h3 h4=>?_⟩;obtain⟨vs,he,gd⟩:=hl c _ (ha c ac h3 h4);obtain⟨u,hu,qF⟩:=hp E.P ft c vs (hE.types ft fi jU) gd;obtain⟨ti,d,g1,g2,g3,-⟩:=cM (hE.types t i hi);obtain⟨fl,rfl,rfl⟩:=ou (hk.symm.trans g3);simp only[List.getElem?_map,Option.map_eq_some_iff]at hf;obtain⟨fd,hf,yH⟩:=hf;simp only[Prod.mk.injEq]at yH;obtain⟨rfl,rfl⟩:=yH;have wA:fl[f]?=some fd:=by simpa using hf
 refine⟨u,?_,qF⟩;simp only[execOp,h1,he,Instr.field,Sem.run_bind,run_underlying g2,Result.andThen_ok,wA,asAgg,Sem.run_pure,hu]
theorem EN{x:Operand}{a:AV}(ha:bh E.G s x a)
  (EL:(∃ b o,a=.ptr b o/\∃ cs,h[b]?=some (.cells cs))\/(∃ e o,a=.b9 e o)\/(∃ b g i o ts l,a=.cO b g i o/\h[b]?=some (.arr g ts l))):aZ E (.nilCheck x) s h a h := .quiet fun o c ac h1 h2 h3 h4=>by
 subst h2;have hv:=ha c ac h3 h4;refine⟨ac.eval x,?_,hv⟩;generalize hp:ac.eval x=p at hv;have fin:∀ a',p=.pointer (some a')->(execOp ac.eval o).run E.P c.w=.ok (.value p) c.w:=fun a' e=>by
  simp only[execOp,h1,hp,e];rfl
 rcases EL with⟨b,o1,rfl,cs,hb⟩|⟨e,o1,rfl⟩|⟨b,g,j,o1,ts,l,rfl,hb⟩
 ·cases hv with
  |ptr _ _ cs blk cap k1 k2=>exact fin _ rfl
  |jq _ _ _ k1 _=>rw[hb]at k1;cases k1
 ·cases hv with
  |b9 _ _ blk o' fv k1 k2 k3 k4=>exact fin _ rfl
 ·cases hv with
  |cO _ _ _ _ ts l blk cap k1 k2 k3=>exact fin _ rfl
  |lW _ _ g' _ _ _ _ _ k1 k2 _=>rw[hb]at k1;cases k1;omega
  |lX _ _ _ _ _ k1 _=>rw[hb]at k1;cases k1
def iw(G:List (Nat × DV))(s:List AV)(xs:List Operand)(vs:List AV):Prop:=∀ (c:Cx) (a:Act),aE G c->VS c s a.tmps->VL c vs (xs.map a.eval)
theorem yI{stop:Prop}:∀ {xs:List Operand} {k:List AV->Prop},tW G s xs stop k->stop\/∃ vs,iw G s xs vs/\k vs
 |[],k,H => .inr ⟨[],fun _ _ _ _ => .nil,H⟩
 |x::xs,k,H=>by
  simp only[tW]at H;rcases cL H with h|⟨v,hv,H⟩
  ·exact .inl h
  rcases yI H with h|⟨vs,gK,H⟩
  ·exact .inl h
  exact .inr ⟨v::vs,fun c a h1 h2 => .cons (hv c a h1 h2) (gK c a h1 h2),H⟩
theorem Sd{f:Fn}{a1 a2:Array Operand}{l1 l2:List AV}(h1:iw E.G s a1.toList l1)(h2:iw E.G s a2.toList l2):aZ E (.makeFunc f a1 a2) s h (.fn f l1 l2) h :=
 .quiet fun o c ac e1 _ h3 h4=>by
  have g1:=h1 c ac h3 h4;have g2:=h2 c ac h3 h4;refine⟨.func f (a1.map ac.eval) (a2.map ac.eval),by simp only[execOp,e1,Instr.makeFunc,Sem.run_bind,Sem.run_pure,Result.andThen_ok],.fn _ _ _ _ _ (by simpa using g1.1) (by simpa using g2.1) ?_ ?_⟩
  ·exact fun j x v hx hv=>g1.2 j x v hx (by simpa using hv)
  ·exact fun j x v hx hv=>g2.2 j x v hx (by simpa using hv)
theorem wC{P:Program}{o:Oper}{ac:Act}{w:World}{args:Array Operand}{ts:Array TypeId}{x:Operand}{t:Nat}{i:bD}{n:Nat}{v:Value}(h1:o.op=.call { callee := .builtin .len,args:=args,argTypes:=ts })(hx:args.toList[0]?=some x)(ht:ts.toList[0]?=some t)(cm:eR P t=some i)(he:ac.eval x=v)
  (hv:(∃ e a cap,i.k=.slice e/\v=.slice a n cap)\/(∃ b,i.k=.string/\v=.string b/\b.size=n)):(execOp ac.eval o).run P w=.ok (.value (.int .i64 n)) w:=by
 have eS:args[0]?=some x:=by simpa using hx
 have qI:ts[0]?=some t:=by simpa using ht
 have dK:(args.map ac.eval)[0]?=some v:=by rw[Array.getElem?_map,eS];simp[he]
 obtain⟨ti,d,g1,g2,g3,-⟩:=cM cm;rcases hv with⟨e,a,cap,hk,rfl⟩|⟨b,hk,rfl,hb⟩
 ·obtain rfl:=lZ (hk.symm.trans g3);simp only[execOp,h1,resolve,invoke,builtin,Builtin.len_,qI,dK,Sem.run_bind,Sem.run_pure,Result.andThen_ok,run_underlying g2,goInt]
 ·obtain rfl:=sx (hk.symm.trans g3);simp only[execOp,h1,resolve,invoke,builtin,Builtin.len_,qI,dK,Sem.run_bind,Sem.run_pure,Result.andThen_ok,run_underlying g2,goInt,hb]
def yJ(G:List (Nat × DV))(s:List AV)(xs:List (Nat × Operand))(vs:List (Nat × AV)):Prop:=∀ (c:Cx) (a:Act),aE G c->VS c s a.tmps->vs.map (·.1)=xs.map (·.1)/\VL c (vs.map (·.2)) (xs.map fun p=>a.eval p.2)
theorem yK{stop:Prop}:∀ {xs:List (Nat × Operand)} {k:List (Nat × AV)->Prop},tY G s xs stop k->stop\/∃ vs,yJ G s xs vs/\k vs
 |[],k,H => .inr ⟨[],fun _ _ _ _=>⟨rfl,.nil⟩,H⟩
 |(n,x)::xs,k,H=>by
  simp only[tY]at H;rcases cL H with h|⟨v,hv,H⟩
  ·exact .inl h
  rcases yK H with h|⟨vs,gK,H⟩
  ·exact .inl h
  exact .inr ⟨(n,v)::vs,fun c a h1 h2=>⟨by simp[(gK c a h1 h2).1],.cons (hv c a h1 h2) (gK c a h1 h2).2⟩,H⟩
theorem EO(off:Nat):∀ (vs:List Value) (n:Nat) (cs:Array Value),((vs.zipIdx n).foldl (fun cs (x:Value × Nat)=>cs.setIfInBounds (off+x.2) x.1) cs)=(dG cs.toList (off+n) vs).toArray
 |[],_,cs=>by simp[dG]
 |v::r,n,cs=>by
  simp only[List.zipIdx_cons,List.foldl_cons];rw[EO off r (n+1)];simp[dG,Nat.add_assoc]
theorem BI{pl:Nat->Option (Nat × Nat)}{stop:Prop}:∀ {ps:List (Nat × AV)} {l:List AV} {k:List AV->Prop},wv pl ps l stop k->stop\/∃ l',k l' /\
  ∀ (c:Cx) (vs us:List Value),VL c l vs->VL c (ps.map (·.2)) us->∃ cQ:List Value,Instr.fill pl vs.toArray ((ps.map (·.1)).zip us)=some cQ.toArray/\VL c l' cQ
 |[],l,k,H => .inr ⟨l,H,fun c vs us hv hu=>⟨vs,by simp[Instr.fill],hv⟩⟩
 |(f,x)::ps,l,k,H=>by
  simp only[wv]at H;split at H
  ·exact .inl H
  rename_i p hp;rcases BE H with h|⟨xs,ov,H⟩
  ·exact .inl h
  split at H
  ·rename_i q1 q2;rw[Ew]at H;rcases BI H with h|⟨l',hk,hf⟩
   ·exact .inl h
   refine .inr ⟨l',hk,fun c vs us hv hu=>?_⟩;cases us with
   |nil=>have:=hu.1;simp at this
   |cons u us =>
    simp only[List.map_cons]at hu ⊢;obtain⟨h1,h2⟩:=hu.head;obtain⟨cv,mL,gd⟩:=ov c u h1;obtain⟨cQ,h3,h4⟩:=hf c (dG vs p.1 cv) us (VL.dG hv p.1 gd) h2;refine⟨cQ,?_,h4⟩;have q1:=Nat.eq_of_beq_eq_true q1;have q2:=Nat.le_of_ble_eq_true q2;rw[gd.1]at q1 q2;rw[hv.1]at q2;simp only[List.zip_cons_cons,Instr.fill,hp];rw[if_neg (by simp[mL,q1];omega)];rw[<- h3]
    congr 1
    rw[mL];have:=EO p.1 cv 0 vs.toArray;simp only[Nat.add_zero]at this;rw[<- this];simp
  ·exact .inl H
theorem JX{P:Program}{T:List bD}(hT:∀ (t:Nat) (i:bD),T[t]?=some i->eR P t=some i){stop:Prop}:∀ {fs:List Field} {k:List (Nat × Nat)->Prop},BD T (fs.map fun f=>(f.offset,f.type)) stop k ->
  stop\/∃ pl,k pl/\fs.mapM (fun f=>(P.info? f.type).map fun i=>(f.offset,i.size))=some pl
 |[],k,H => .inr ⟨[],H,rfl⟩
 |f::fs,k,H=>by
  simp only[List.map_cons,BD]at H;rcases bp H with h|⟨i,hi,H⟩
  ·exact .inl h
  rcases JX hT H with h|⟨pl,hk,hp⟩
  ·exact .inl h
  obtain⟨ti,d,g1,g2,g3,g4,-⟩:=cM (hT _ _ hi);refine .inr ⟨_,hk,?_⟩;simp[List.mapM_cons,g1,hp,g4]
theorem gg{β:Type}(l:List β)(i:Nat):eu l i=l[i]? := by
 induction l generalizing i with
 |nil=>rfl
 |cons a l ih=>cases i with
  |zero=>rfl
  |succ i=>simpa [eu]using ih i
theorem zeroOf{P:Program}{t:Nat}{i:bD}(ht:eR P t=some i)(hz:i.zero.length=i.size)(cD:0<i.size):∃ (ti:TypeInfo) (z:Value),P.info? t=some ti/\ti.zero=some z/\i.size=ti.size/\∀ c:Cx,∃ vs:List Value,z.cells=vs.toArray/\VL c (i.zero.map .d) vs:=by
 obtain⟨ti,d,h1,h2,h3,h4,h5,h6⟩:=cM ht;obtain⟨z,jT,iv⟩:=EH ht hz cD;cases kC:ti.zero with
 |none=>rw[h6,kC]at hz;simp[wm]at hz;omega
 |some z' =>
  have:=jT default;simp only[zeroValue,typeInfo,bind,Sem.bind,program,h1,pure,Sem.run,kC,Result.ok.injEq,and_true]at this;subst this;exact⟨ti,z',h1,kC,h4,iv⟩
theorem JY(hE:E.OK){t:Nat}{i:bD}(hi:E.T[t]?=some i){parts:Array (Nat × Operand)}{ps:List (Nat × AV)}(eT:yJ E.G s parts.toList ps)(hz:i.zero.length=i.size)(cD:0<i.size){pl:Nat->Option (Nat × Nat)}{l:List AV}{v:AV}
  (hb:∀ (ti:TypeInfo) (z:Value),E.P.info? t=some ti->ti.zero=some z->∀ us,E.P.built t us=Instr.fill pl z.cells us)
  (hf:∀ (c:Cx) (vs us:List Value),VL c (i.zero.map .d) vs->VL c (ps.map (·.2)) us->∃ cQ:List Value,Instr.fill pl vs.toArray ((ps.map (·.1)).zip us)=some cQ.toArray/\VL c l cQ)
  (hv:∀ (c:Cx) (vs:List Value),VL c l vs->VR c v (.agg vs.toArray)):aZ E (.build t parts) s h v h :=
 .quiet fun o c ac h1 _ h3 h4=>by
  obtain⟨ti,z,g1,g2,g3,g4⟩:=zeroOf (hE.types t i hi) hz cD;obtain⟨zs,gL,jV⟩:=g4 c;obtain⟨p1,p2⟩:=eT c ac h3 h4;obtain⟨cQ,f1,f2⟩:=hf c zs _ jV p2;refine⟨.agg cQ.toArray,?_,hv c cQ f2⟩;have cU:=hb ti z g1 g2 (parts.map fun(i,x)=>(i,ac.eval x)).toList;have e:(parts.map fun(i,x)=>(i,ac.eval x)).toList=(ps.map (·.1)).zip (parts.toList.map fun p=>ac.eval p.2):=by
   rw[p1,Array.toList_map];generalize parts.toList=q
   induction q with
   |nil=>rfl
   |cons a q ih=>simp only[List.map_cons,List.zip_cons_cons,ih]
  rw[e,gL,f1]at cU;rw[<- e]at cU;simp only[execOp,h1,Sem.run_bind,run_build c.w t _ _ cU,Result.andThen_ok,Sem.run_pure]
theorem Se{P:Program}{t:Nat}{ti:TypeInfo}{z:Value}{fl:Array Field}{pl:List (Nat × Nat)}(h1:P.info? t=some ti)(h2:P.underlying t=some (.struct fl))(h3:ti.zero=some z)(h4:fl.toList.mapM (fun f=>(P.info? f.type).map fun i=>(f.offset,i.size))=some pl)(us:List (Nat × Value)) :
  P.built t us=Instr.fill (eu pl) z.cells us:=by
 have:(eu pl)=(pl.toArray[·]?):=funext fun i=>by rw[gg];simp
 simp only[Program.built,h1,h2,h3,h4,this]
theorem Sf{P:Program}{t n e:Nat}{ti ei:TypeInfo}{z:Value}(h1:P.info? t=some ti)(h2:P.underlying t=some (.array n e))(h3:ti.zero=some z)(h4:P.info? e=some ei)(us:List (Nat × Value)) :
  P.built t us=Instr.fill (fun i=>some (i*ei.size,ei.size)) z.cells us:=by
 simp only[Program.built,h1,h2,h3,h4]
end
end Go.aA
end
section
namespace Go.aA
open Go Go.RowKit
def flat(l:List DV):List DV:=l.flatMap DV.cells
theorem EP{β:Type}:∀ (v p a r:List β),a.length=v.length->dG (p++a++r) p.length v=p++v++r
 |[],p,a,r,h=>by obtain rfl:a=[]:=List.eq_nil_of_length_eq_zero h;simp[dG]
 |x::v,p,a,r,h=>by
  cases a with
  |nil=>simp at h
  |cons y a =>
   have h1:(p++y::a++r).set p.length x=(p++[x])++a++r:=by simp
   have:=EP v (p++[x]) a r (by simpa using h);simp only[List.length_append,List.length_cons,List.length_nil,Nat.zero_add]at this;rw[dG,h1,this];simp
theorem BJ(a b:List DV):flat (a++b)=flat a++flat b:=by simp[flat]
theorem ln{sz:Nat}:∀ {l:List DV},(∀ (i:Nat) (e:DV),l[i]?=some e->e.cells.length=sz)->(flat l).length=l.length*sz
 |[],_=>by simp[flat]
 |e::l,h=>by
  have h1:=h 0 e rfl;have h2:=ln (l:=l) (fun i e he=>h (i+1) e (by simpa using he));simp only[flat,List.flatMap_cons,List.length_append,List.length_cons]at h2 ⊢;rw[h1,h2,Nat.add_mul,Nat.one_mul,Nat.add_comm]
theorem flat_get{sz:Nat}{l:List DV}(h:∀ (i:Nat) (e:DV),l[i]?=some e->e.cells.length=sz){i j:Nat}{e:DV}(he:l[i]?=some e)(hj:j<sz):(flat l)[i*sz+j]?=e.cells[j]? := by
 induction l generalizing i with
 |nil=>simp at he
 |cons a l ih =>
  have h0:=h 0 a rfl;cases i with
  |zero =>
   simp at he;subst he;simp only[flat,List.flatMap_cons,Nat.zero_mul,Nat.zero_add];rw[List.getElem?_append_left (by omega)]
  |succ i =>
   have:=ih (fun i e he=>h (i+1) e (by simpa using he)) (i:=i) (by simpa using he);simp only[flat,List.flatMap_cons]at this ⊢;rw[List.getElem?_append_right (by rw[h0,Nat.add_mul];omega),h0,<- this]
   congr 1
   rw[Nat.add_mul];omega
theorem Sg{sz:Nat}{l:List DV}(h:∀ (i:Nat) (e:DV),l[i]?=some e->e.cells.length=sz){f:Nat}(hf:f<l.length){e:DV}(he:e.cells.length=sz):flat (l.set f e)=dG (flat l) (f*sz) e.cells:=by
 have h1:l=l.take f++l[f]::l.drop (f+1):=by simp
 have h2:l.set f e=l.take f++e::l.drop (f+1):=by rw[List.set_eq_take_append_cons_drop,if_pos hf]
 have h3:(flat (l.take f)).length=f*sz:=by
  rw[ln (sz:=sz) (fun i e he=>h i e (by rw[List.getElem?_take]at he;split at he;exact he;cases he)),List.length_take,Nat.min_eq_left (by omega)]
 have h4:=EP e.cells (flat (l.take f)) l[f].cells (flat (l.drop (f+1))) (by rw[he];exact h f _ (by simp[hf]));have e1:flat l=flat (l.take f)++l[f].cells++flat (l.drop (f+1)):=by
  have:=congrArg flat h1;rw[BJ]at this;rw[this];simp only[flat,List.flatMap_cons,List.append_assoc]
 have e2:flat (l.set f e)=flat (l.take f)++e.cells++flat (l.drop (f+1)):=by rw[h2,BJ];simp[flat]
 rw[e2,e1,<- h3];exact h4.symm
section
variable {E:Env} {s:List AV} {h:List af} {c:Cx} {G:List (Nat × DV)}
theorem BK{k:List DV->Prop}{x:DV}:∀ {n:Nat},tX n x k=k (List.replicate n x):=by
 intro n
 induction n generalizing k with
 |zero=>rfl
 |succ n ih=>simp only[tX,ih,List.replicate_succ]
def gM(sz:Nat)(l:List DV):Prop:=∀ (i:Nat) (e:DV),l[i]?=some e->e.cells.length=sz
theorem gM.set{sz:Nat}{l:List DV}(hl:gM sz l)(f:Nat){e:DV}(he:e.cells.length=sz):gM sz (l.set f e):=fun i e' h'=>by
 rw[List.getElem?_set]at h';split at h'
 ·split at h'
  ·cases h';exact he
  ·cases h'
 ·exact hl i e' h'
def pB(l:List DV):Prop:=∀ (i:Nat) (e:DV),l[i]?=some e->∀ y∈e.cells,y.fm=true
theorem pB.set{l:List DV}(hl:pB l)(f:Nat){e:DV}(he:∀ y∈e.cells,y.fm=true):pB (l.set f e):=fun i e' h'=>by
 rw[List.getElem?_set]at h';split at h'
 ·split at h'
  ·cases h';exact he
  ·cases h'
 ·exact hl i e' h'
theorem pB.flat{l:List DV}(hl:pB l):∀ x∈flat l,x.fm=true:=fun x hx=>by
 simp only[aA.flat,List.mem_flatMap]at hx;obtain⟨e,he,hx⟩:=hx;obtain⟨i,hi⟩:=List.getElem?_of_mem he;exact hl i e hi x hx
theorem ER{sz:Nat}{stop:Prop}:∀ {ps:List (Nat × AV)} {l:List DV} {k:List DV->Prop},gM sz l->pB l->ot sz ps l stop k->stop\/∃ l',k l'/\gM sz l'/\pB l'/\l'.length=l.length /\
  ∀ (c:Cx) (vs us:List Value),VL c ((flat l).map .d) vs->VL c (ps.map (·.2)) us->∃ cQ:List Value,Instr.fill (fun i=>some (i*sz,sz)) vs.toArray ((ps.map (·.1)).zip us)=some cQ.toArray/\VL c ((flat l').map .d) cQ
 |[],l,k,hl,mM,H => .inr ⟨l,H,hl,mM,rfl,fun c vs us hv hu=>⟨vs,by simp[Instr.fill],hv⟩⟩
 |(f,x)::ps,l,k,hl,mM,H=>by
  have key:∀ (e:DV),x=.d e->e.cells.length=sz->(∀ y∈e.cells,y.fm=true)->f<l.length->ot sz ps (l.set f e) stop k->stop\/∃ l',k l'/\gM sz l'/\pB l'/\l'.length=l.length /\
    ∀ (c:Cx) (vs us:List Value),VL c ((flat l).map .d) vs->VL c (((f,x)::ps).map (·.2)) us->∃ cQ:List Value,Instr.fill (fun i=>some (i*sz,sz)) vs.toArray ((((f,x)::ps).map (·.1)).zip us)=some cQ.toArray/\VL c ((flat l').map .d) cQ:=by
   intro e hx he jt hf H';subst hx;rcases ER (hl.set f he) (mM.set f jt) H' with h|⟨l',h1,h2,iD,h3,h4⟩
   ·exact .inl h
   refine .inr ⟨l',h1,h2,iD,by simpa using h3,fun c vs us hv hu=>?_⟩;cases us with
   |nil=>have:=hu.1;simp at this
   |cons u us =>
    simp only[List.map_cons]at hu ⊢;obtain⟨g1,g2⟩:=hu.head;have wD:∃ cv:List Value,u.cells=cv.toArray/\VL c (e.cells.map .d) cv:=by
     by_cases fp:∃ el,e=.agg el
     ·obtain⟨el,rfl⟩:=fp;obtain⟨cv,rfl,hc⟩:=ED g1;exact⟨cv,rfl,hc⟩
     ·have jW:e.cells=[e]:=by cases e<;>first|rfl|exact absurd ⟨_,rfl⟩ fp
      rw[jW];refine⟨[u],?_,.cons g1 .nil⟩;cases g1 with
      |d _ _ g=>cases g<;>first|rfl|(rename_i h1;revert h1;cases u<;>intro h1<;>first|rfl|cases h1)|exact absurd ⟨_,rfl⟩ fp
    obtain⟨cv,mL,gd⟩:=wD;have gh:VL c ((flat (l.set f e)).map .d) (dG vs (f*sz) cv):=by
     rw[Sg hl hf he];have:=VL.dG hv (f*sz) gd;have hm:∀ (q:List DV) (o:Nat) (p:List DV),(dG p o q).map AV.d=dG (p.map .d) o (q.map .d):=by
      intro q
      induction q with
      |nil=>intro o p;rfl
      |cons a q ih=>intro o p;simp[dG,ih]
     rw[hm];exact this
    obtain⟨cQ,f1,f2⟩:=h4 c _ us gh g2;refine⟨cQ,?_,f2⟩;have iL:cv.length=sz:=by rw[<- gd.1];simpa using he
    have sk:f*sz+sz<=vs.length:=by
     have:=hv.1;rw[List.length_map,ln hl]at this;rw[<- this]
     calc f*sz+sz=(f+1)*sz:=by rw[Nat.add_mul,Nat.one_mul]
      _<=l.length*sz:=Nat.mul_le_mul_right _ hf
    simp only[List.zip_cons_cons,Instr.fill];rw[if_neg (by simp[mL,iL];omega)];rw[<- f1]
    congr 1
    rw[mL];have:=EO (f*sz) cv 0 vs.toArray;simp only[Nat.add_zero]at this;rw[<- this];simp
  cases x
  case d e =>
   simp only[ot]at H;split at H
   ·rename_i el;split at H
    ·rename_i q1 q2 q3;rw[gJ]at H;exact key _ rfl (Nat.eq_of_beq_eq_true q1) (fun y hy=>List.all_eq_true.1 q2 y hy) (Nat.le_of_ble_eq_true q3) H
    ·exact .inl H
   ·split at H
    ·rename_i ue _ _ _ q1 q2 q3;rw[gJ]at H;have jW:e.cells=[e]:=by cases e<;>first|rfl|exact absurd rfl (ue _)
     refine key _ rfl ?_ (fun y hy=>by rw[jW]at hy;simp at hy;subst hy;exact q2) (Nat.le_of_ble_eq_true q3) H;have:=Nat.eq_of_beq_eq_true q1;rw[<- this,jW];rfl
    ·exact .inl H
  all_goals exact .inl H
theorem Sh{bad:Nat->Prop}{w:World}{l:List DV}{sz cap:Nat}{vs:List Value}{ty:TypeId}{fr:Nat × Nat}(bT:0<sz)(hl:gM sz l)(hb:¬ bad w.heap.size)(jo:l.length<=cap)(hlen:(flat l).length<=vs.length)(h1:∀ (x:DV),x∈flat l->x.fm=true)
  (hv:∀ (j:Nat) (x:DV) (v:Value),(flat l)[j]?=some x->vs[j]?=some v->VD bad (w.alloc (.cells vs.toArray ty fr)) x v) :
  VD bad (w.alloc (.cells vs.toArray ty fr)) (.sl l) (.slice (some ⟨w.heap.size,0,none⟩) l.length cap):=by
 have cb:=mJ (heap_alloc_new w (.cells vs.toArray ty fr));have at_:∀ (i j:Nat) (e x:DV),l[i]?=some e->e.cells[j]?=some x->∃ v,vs[i*sz+j]?=some v/\(flat l)[i*sz+j]?=some x:=fun i j e x he hx=>by
  have hj:j<sz:=by
   rw[<- hl i e he];rcases Nat.lt_or_ge j e.cells.length with h|h
   ·exact h
   ·rw[List.getElem?_eq_none h]at hx;cases hx
  have h1:=flat_get hl he hj;rw[hx]at h1;have h2:i*sz+j<(flat l).length:=by
   rcases Nat.lt_or_ge (i*sz+j) (flat l).length with h|h
   ·exact h
   ·rw[List.getElem?_eq_none h]at h1;cases h1
  have h3:i*sz+j<vs.length:=by omega
  exact⟨vs[i*sz+j],by simp[h3],h1⟩
 refine .sl l w.heap.size 0 cap sz (fun i j=>vs.getD (i*sz+j) undef) (fun _=>hb) bT jo hl (fun i j e x he hx=>?_) (fun i j e x he hx=>?_) (fun i j e x he hx=>?_)
 ·obtain⟨v,h1,h2⟩:=at_ i j e x he hx;have:=cb (i*sz+j) v (by simpa using h1);rw[this];simp[List.getD,h1]
 ·obtain⟨v,h1,h2⟩:=at_ i j e x he hx;simp only[List.getD,h1,Option.getD_some];exact hv _ x v h2 h1
 ·obtain⟨v,h3,h2⟩:=at_ i j e x he hx;simp only[List.getD,h3,Option.getD_some];exact yC (hv _ x v h2 h3) (h1 x (List.mem_of_getElem? h2))
theorem J1(hE:E.OK){t e len:Nat}{i ei:bD}(hi:E.T[t]?=some i)(cd:E.T[e]?=some ei)(hk:i.k=.slice e){parts:Array (Nat × Operand)}{ps:List (Nat × AV)}(eT:yJ E.G s parts.toList ps)
  (hz:ei.zero.length=ei.size) (cD:0<ei.size) (hlen:0<len) (BL:len*ei.size<=16777216) {z:DV} (uf:z.cells=ei.zero) (gL:∀ y∈ei.zero,y.fm=true) {stop:Prop} {k:List DV->Prop} (H:ot ei.size ps (List.replicate len z) stop k) :
  stop\/∃ l,k l/\aZ E (.buildSlice t len parts) s h (.d (.sl l)) h:=by
 have dN:gM ei.size (List.replicate len z):=fun j e' h'=>by
  rw[List.getElem?_replicate]at h';split at h'
  ·cases h';rw[uf,hz]
  ·cases h'
 have mM:pB (List.replicate len z):=fun j e' h'=>by
  rw[List.getElem?_replicate]at h';split at h'
  ·cases h';rw[uf];exact gL
  ·cases h'
 rcases ER dN mM H with h'|⟨l,h1,h2,iD,h3,h4⟩
 ·exact .inl h'
 refine .inr ⟨l,h1,fun o c ac e1 e2 e3 e4=>?_⟩;subst e2;obtain⟨ti,zv,g1,g2,g3,g4⟩:=zeroOf (hE.types e ei cd) hz cD;obtain⟨zs,yL,jV⟩:=g4 c;obtain⟨p1,p2⟩:=eT c ac e3 e4;have l4:zs.length=ei.size:=by rw[<- jV.1];simpa using hz
 have yM:VL c ((flat (List.replicate len z)).map .d) ((Array.range (len*ti.size)).map (zv.cells[· % zv.cells.size]!)).toList:=by
  refine .uc (by rw[ln dN];simp[g3]) (fun j x v hx hv=>?_);have hj:j<len*ei.size:=by
   have:=ln dN;rw[List.length_replicate]at this;rw[<- this];rcases Nat.lt_or_ge j (flat (List.replicate len z)).length with h|h
   ·exact h
   ·rw[List.getElem?_eq_none h]at hx;cases hx
  have hd:j / ei.size<len:=Nat.div_lt_of_lt_mul (by rw[Nat.mul_comm];exact hj);have hm:j % ei.size<ei.size:=Nat.mod_lt _ cD;have h5:=flat_get dN (i:=j / ei.size) (j:=j % ei.size) (e:=z) (by simp[hd]) hm;rw[Nat.mul_comm,Nat.div_add_mod,hx,uf]at h5;have ir:v=zs[j % ei.size]'(by omega):=by
   have dL:j<len*ti.size:=by rw[<- g3];exact hj
   simp[dL,yL,l4]at hv;rw[<- hv];simp[l4,hm]
  rw[ir];exact jV.py (j % ei.size) x _ h5.symm (by simp[l4,hm])
 obtain⟨cQ,f1,f2⟩:=h4 c _ _ yM p2;obtain⟨yN,d,q1,q2,q3,-⟩:=cM (hE.types t i hi);obtain rfl:=lZ (hk.symm.trans q3);have eq:(parts.map fun(i,x)=>(i,ac.eval x)).toList=(ps.map (·.1)).zip (parts.toList.map fun p=>ac.eval p.2):=by
  rw[p1,Array.toList_map];generalize parts.toList=q
  induction q with
  |nil=>rfl
  |cons a q ih=>simp only[List.map_cons,List.zip_cons_cons,ih]
 have yO:Instr.fill (fun i=>some (i*ti.size,ti.size)) ((Array.range (len*ti.size)).map (zv.cells[· % zv.cells.size]!)) (parts.map fun(i,x)=>(i,ac.eval x)).toList=some cQ.toArray:=by
  rw[eq,<- f1,g3]
 have cW:=run_buildSlice (P:=E.P) c.w t e len (parts.map fun(i,x)=>(i,ac.eval x)) cQ.toArray ti zv q2 g1 g2 (by rw[<- g3];omega) (by rw[<- g3];have:=Nat.mul_pos hlen cD;omega) yO;obtain⟨k1,k2⟩:=e3.grow ((Proofs.YtcmnpelmmekdkaaGreatDoor.Ext.refl c.w).alloc (.cells cQ.toArray e));refine⟨c.dI (c.w.alloc (.cells cQ.toArray e)),.slice (some ⟨c.w.heap.size,0,none⟩) len len,.inl (by simp only[execOp,e1,Sem.run_bind,cW,Result.andThen_ok,Sem.run_pure];rfl),rfl,k1,?_,k2⟩;have ug:l.length=len:=by rw[h3];simp
 rw[<- ug];refine .d _ _ (Sh cD h2 ?_ (Nat.le_refl _) (by have:=f2.1;simp at this;omega) iD.flat (fun j x v hx hv=>?_))
 ·rintro(hb|⟨j,n,hj⟩)
  ·have:=e3.bE _ hb;omega
  ·have:=(e3.bI j _ n hj).1;omega
 ·exact k2.vd (f2.py j x v hx hv)
theorem ix{a b:Nat}(h:Nat.blt a b=true):a<b:=Nat.le_of_ble_eq_true h
theorem uh(hE:E.OK){o:Op}{stop:Prop}{k:AV->List af->Prop}(H:fo E.T E.G o s h stop k):stop\/∃ v h',k v h'/\aZ E o s h v h':=by
 unfold fo at H;split at H
 ·
  rcases cL H with h|⟨v,hv,H⟩
  ·exact .inl h
  exact .inr ⟨v,h,H,JM hv⟩
 ·
  rcases cL H with h|⟨v,hv,H⟩
  ·exact .inl h
  exact .inr ⟨v,h,H,JN hv⟩
 ·
  rcases cL H with h|⟨v,hv,H⟩
  ·exact .inl h
  rcases BE H with h|⟨l,hl,H⟩
  ·exact .inl h
  rw[nB,Nat.zero_add]at H;exact .inr ⟨_,_,H,RY hv hl⟩
 ·
  rcases bp H with h|⟨i,hi,H⟩
  ·exact .inl h
  split at H
  ·rename_i q1 q2;rw[qE,nB,Nat.zero_add]at H;exact .inr ⟨_,_,H,EI hE hi (Nat.eq_of_beq_eq_true q1) (ix q2)⟩
  ·exact .inl H
 ·
  rcases bp H with h|⟨i,hi,H⟩
  ·exact .inl h
  rcases cL H with h|⟨a,ha,H⟩
  ·exact .inl h
  rcases RW hE hi ha H with h|⟨v,H,hv⟩
  ·exact .inl h
  exact .inr ⟨v,h,H,hv⟩
 ·
  rcases bp H with h|⟨i,hi,H⟩
  ·exact .inl h
  rcases cL H with h|⟨a,ha,H⟩
  ·exact .inl h
  rcases cL H with h|⟨v,hv,H⟩
  ·exact .inl h
  rcases RX hE hi ha hv H with h|⟨h',H,ho⟩
  ·exact .inl h
  exact .inr ⟨_,h',H,ho⟩
 ·
  rcases bp H with h|⟨i,hi,H⟩
  ·exact .inl h
  rcases JV H with h|⟨fs,off,ft,hk,hf,H⟩
  ·exact .inl h
  rcases bp H with h|⟨fi,jU,H⟩
  ·exact .inl h
  split at H
  ·exact .inl H
  rename_i q;rcases cL H with h|⟨a,ha,H⟩
  ·exact .inl h
  split at H
  ·rcases bp H with h|⟨bx,hb,H⟩
   ·exact .inl h
   split at H
   ·exact .inr ⟨_,_,H,EK hE hi jU (ix q) hk hf ha (.inl ⟨_,_,rfl,rfl,_,hb⟩)⟩
   ·exact .inl H
  ·exact .inr ⟨_,_,H,EK hE hi jU (ix q) hk hf ha (.inr (.inl ⟨_,_,rfl,rfl⟩))⟩
  ·rcases bp H with h|⟨bx,hb,H⟩
   ·exact .inl h
   split at H
   ·split at H
    ·rename_i g' ts l _ qg;have:=Nat.eq_of_beq_eq_true qg;subst this;exact .inr ⟨_,_,H,EK hE hi jU (ix q) hk hf ha (.inr (.inr ⟨_,_,_,_,_,_,rfl,rfl,hb⟩))⟩
    ·exact .inl H
   ·exact .inl H
  ·exact .inl H
 ·
  rcases bp H with h|⟨i,hi,H⟩
  ·exact .inl h
  rcases JV H with h|⟨fs,off,ft,hk,hf,H⟩
  ·exact .inl h
  rcases bp H with h|⟨fi,jU,H⟩
  ·exact .inl h
  rcases cL H with h|⟨a,ha,H⟩
  ·exact .inl h
  split at H
  ·rcases JW hE hi jU hk hf ha (fun c v hv=>sr hv) H with h|⟨v,H,hv⟩
   ·exact .inl h
   exact .inr ⟨_,_,H,hv⟩
  ·rw[qE]at H;rcases JW hE hi jU hk hf ha (fun c v hv=>ED hv) H with h|⟨v,H,hv⟩
   ·exact .inl h
   exact .inr ⟨_,_,H,hv⟩
  ·exact .inl H
 ·
  rcases cL H with h|⟨a,ha,H⟩
  ·exact .inl h
  split at H
  ·rcases bp H with h|⟨bx,hb,H⟩
   ·exact .inl h
   split at H
   ·exact .inr ⟨_,_,H,EN ha (.inl ⟨_,_,rfl,_,hb⟩)⟩
   ·exact .inl H
  ·exact .inr ⟨_,_,H,EN ha (.inr (.inl ⟨_,_,rfl⟩))⟩
  ·rcases bp H with h|⟨bx,hb,H⟩
   ·exact .inl h
   split at H
   ·split at H
    ·rename_i g' ts l _ qg;have:=Nat.eq_of_beq_eq_true qg;subst this;exact .inr ⟨_,_,H,EN ha (.inr (.inr ⟨_,_,_,_,_,_,rfl,hb⟩))⟩
    ·exact .inl H
   ·exact .inl H
  ·exact .inl H
 ·
  rcases bp H with h|⟨i,hi,H⟩
  ·exact .inl h
  rcases cL H with h|⟨a,ha,H⟩
  ·exact .inl h
  rcases cL H with h|⟨b,hb,H⟩
  ·exact .inl h
  split at H
  ·split at H
   ·rcases JS (.inl rfl) ha H with h|⟨v,H,hv⟩
    ·exact .inl h
    exact .inr ⟨_,_,H,hv⟩
   ·exact .inl H
  ·split at H
   ·rcases JS (.inr rfl) ha H with h|⟨v,H,hv⟩
    ·exact .inl h
    exact .inr ⟨_,_,H,hv⟩
   ·exact .inl H
  ·rename_i n1 n2;rcases R5 ⟨n1,n2⟩ (hE.types _ _ hi) ha hb H with h|⟨v,H,hv⟩
   ·exact .inl h
   exact .inr ⟨_,_,H,hv⟩
 ·
  rcases cL H with h|⟨a,ha,H⟩
  ·exact .inl h
  split at H
  ·exact .inr ⟨_,_,H,R6 ha⟩
  ·exact .inl H
 ·
  rcases cL H with h|⟨a,ha,H⟩
  ·exact .inl h
  split at H
  ·exact .inr ⟨_,_,H,R7 ha⟩
  ·exact .inl H
 ·
  rcases cL H with h|⟨a,ha,H⟩
  ·exact .inl h
  split at H
  ·rcases cL H with h|⟨v,hv,H⟩
   ·exact .inl h
   exact .inr ⟨_,_,H,RZ ha hv⟩
  ·rcases cL H with h|⟨v,hv,H⟩
   ·exact .inl h
   exact .inr ⟨_,_,H,R0 ha hv⟩
  ·exact .inl H
 ·
  rcases cL H with h|⟨a,ha,H⟩
  ·exact .inl h
  split at H
  ·rcases bp H with h|⟨v,hv,H⟩
   ·exact .inl h
   exact .inr ⟨_,_,H,JT ha hv⟩
  ·rcases bp H with h|⟨v,hv,H⟩
   ·exact .inl h
   exact .inr ⟨_,_,H,JU ha hv⟩
  ·exact .inl H
 ·
  rcases bp H with h|⟨i0,fQ,H⟩
  ·exact .inl h
  rcases bp H with h|⟨i,hi,H⟩
  ·exact .inl h
  rcases cL H with h|⟨a,ha,H⟩
  ·exact .inl h
  split at H
  ·rename_i hk;exact .inr ⟨_,_,H,R8 (hE.types _ _ hi) (hE.types _ _ fQ) hk ha⟩
  ·rename_i hk;exact .inr ⟨_,_,H,R9 (hE.types _ _ hi) (hE.types _ _ fQ) hk ha⟩
  ·exact .inl H
 ·
  rcases bp H with h|⟨i,hi,H⟩
  ·exact .inl h
  rcases yK H with h|⟨ps,eT,H⟩
  ·exact .inl h
  split at H
  ·rename_i q1 q2;rw[qE]at H;have hz:=Nat.eq_of_beq_eq_true q1;have cD:=ix q2;obtain⟨ti,d,g1,g2,g3,-⟩:=cM (hE.types _ _ hi);split at H
   ·rename_i fs hk;obtain⟨fl,rfl,rfl⟩:=ou (hk.symm.trans g3);rcases JX hE.types H with h|⟨pl,H,ju⟩
    ·exact .inl h
    rcases BI H with h|⟨l,H,hf⟩
    ·exact .inl h
    obtain⟨v,H,hv⟩:=yB H;exact .inr ⟨_,_,H,JY hE hi eT hz cD (fun ti z k1 k2 us=>Se k1 g2 k2 ju us) hf hv⟩
   ·rename_i n e hk;obtain rfl:=yF (hk.symm.trans g3);rcases bp H with h|⟨ei,cd,H⟩
    ·exact .inl h
    rcases BI H with h|⟨l,H,hf⟩
    ·exact .inl h
    obtain⟨v,H,hv⟩:=yB H;obtain⟨eti,ed,k1,k2,k3,k4,-⟩:=cM (hE.types _ _ cd);exact .inr ⟨_,_,H,JY hE hi eT hz cD (fun ti z r1 r2 us=>by rw[Sf r1 g2 r2 k1 us,k4]) hf hv⟩
   ·exact .inl H
  ·exact .inl H
 ·
  rcases bp H with h|⟨i,hi,H⟩
  ·exact .inl h
  split at H
  ·rename_i e hk;rcases bp H with h|⟨ei,cd,H⟩
   ·exact .inl h
   split at H
   ·rename_i q1 q2 q3 q4 q5;rcases yK H with h|⟨ps,eT,H⟩
    ·exact .inl h
    split at H
    ·rename_i z jT;rw[BK]at H;have gL:z.fm=true:=by rw[jT]at q5;simpa using q5
     rcases J1 hE hi cd hk eT (Nat.eq_of_beq_eq_true q1) (ix q2) (ix q3) (Nat.le_of_ble_eq_true q4) (z:=z) (by rw[jT];cases z<;>first|rfl|cases gL) (fun y hy=>List.all_eq_true.1 q5 y hy) H with h|⟨l,H,hl⟩
     ·exact .inl h
     exact .inr ⟨_,_,H,hl⟩
    ·rw[BK]at H;rcases J1 hE hi cd hk eT (Nat.eq_of_beq_eq_true q1) (ix q2) (ix q3) (Nat.le_of_ble_eq_true q4) (z := .agg ei.zero) rfl (fun y hy=>List.all_eq_true.1 q5 y hy) H with h|⟨l,H,hl⟩
     ·exact .inl h
     exact .inr ⟨_,_,H,hl⟩
   ·exact .inl H
  ·exact .inl H
 ·
  rcases yI H with h|⟨a,ha,H⟩
  ·exact .inl h
  rcases yI H with h|⟨b,hb,H⟩
  ·exact .inl h
  exact .inr ⟨_,_,H,Sd ha hb⟩
 ·
  rcases bp H with h|⟨x,hx,H⟩
  ·exact .inl h
  rcases bp H with h|⟨t,ht,H⟩
  ·exact .inl h
  rcases bp H with h|⟨i,hi,H⟩
  ·exact .inl h
  rcases cL H with h|⟨a,ha,H⟩
  ·exact .inl h
  have cm:=hE.types _ _ hi;split at H
  ·rename_i e l hk;refine .inr ⟨_,_,H,.quiet fun o c ac h1 _ h3 h4=>⟨_,wC h1 hx ht cm rfl (.inl ?_),.d _ _ (.int _ _)⟩⟩;have:=ha c ac h3 h4;generalize ac.eval x=u at this;cases this with
   |d _ _ hd=>cases hd with
    |slnil=>exact⟨e,_,_,hk,rfl⟩
    |lg=>exact⟨e,_,_,hk,rfl⟩
    |sl _ _ _ _ _ _ _ _ _ _ _ _ _=>exact⟨e,_,_,hk,rfl⟩
  ·rename_i l hk;exact .inr ⟨_,_,H,.quiet fun o c ac h1 _ h3 h4=>⟨_,wC h1 hx ht cm (px (ha c ac h3 h4)) (.inr ⟨_,hk,rfl,by simp[ByteArray.size]⟩),.d _ _ (.int _ _)⟩⟩
  ·rename_i e hk;refine .inr ⟨_,_,H,.quiet fun o c ac h1 _ h3 h4=>⟨.int .i64 (0:Nat),wC h1 hx ht cm rfl (.inl ?_),.d _ _ (.int _ _)⟩⟩;have:=ha c ac h3 h4;generalize ac.eval x=u at this;cases this with
   |d _ _ hd=>cases hd with
    |aW=>exact⟨e,_,_,hk,rfl⟩
  ·rename_i e b g hk;rcases bp H with h|⟨bx,hb,H⟩
   ·exact .inl h
   split at H
   ·split at H
    ·rename_i g' ts l _ qg;have:=Nat.eq_of_beq_eq_true qg;subst this;refine .inr ⟨_,_,H,.quiet fun o c ac h1 h2 h3 h4=>⟨_,wC h1 hx ht cm rfl (.inl ?_),.d _ _ (.int _ _)⟩⟩;subst h2;have:=ha c ac h3 h4;generalize ac.eval x=u at this;cases this with
     |own _ _ _ l' _ _ k1 k2=>rw[hb]at k1;cases k1;exact⟨e,_,_,hk,rfl⟩
     |iY _ _ _ k1 k2=>rw[hb]at k1;cases k1;exact⟨e,_,_,hk,rfl⟩
     |kB _ _ g1 _ _ _ k1 k2 _=>rw[hb]at k1;cases k1;omega
     |jR _ _ _ k1 _=>rw[hb]at k1;cases k1
     |mF _ _ _ _ _ _ k1 _ _=>rw[hb]at k1;cases k1
    ·exact .inl H
   ·exact .inl H
  ·exact .inl H
 ·exact .inl H
end
end Go.aA
end
