/- Lemmas of mine. Conditions: as stated. -/
import Derived.Test.YtfmdaiojokniiaaGreatDoorRows
import Derived.WalkKit
import Derived.WalkSpells
import Derived.WalkLawsBesides
import Derived.Deep.QuietTactic
import Derived.BigQuiet
import Derived.Lib.Hide
import Derived.Laws.EntriesVeiled
import Derived.Deep.RegionHeld3
import Derived.Deep.LoopGhost
import Derived.Sort.Grow
import Derived.Laws.Cells
import Derived.Laws.IdiomCopy
import Derived.Great.BuildSlice
set_option linter.unusedVariables false
set_option linter.unusedSimpArgs false
open Array renaming getElem?_toList->aeh,toList_push->aeq,getElem?_modify->aes,getElem?_eq_getElem->aev,toList_map->aex,range->aeD
open Bool renaming false_eq_true->aet
open List renaming getElem?_eq_none->adW,map_cons->ad0,getElem?_map->ad1,replicate->ad6,all_eq_true->ad',zip_cons_cons->aea,flatMap_cons->aeb,eq_nil_of_length_eq_zero->aee,length_cons->aef,getElem?_set_self->aei,getElem?_set_ne->aej,getElem?_take->aek,getElem?_append_left->ael,getD->aem,exists_cons_of_ne_nil->aeo,mem_map->aer,length_take->aeu,length_append->aey,getElem?_set->aeA,getElem?_replicate->aeC
open Nat renaming lt_or_ge->adV,eq_of_beq_eq_true->adX,beq->adY,blt->adZ,le_of_ble_eq_true->ad3,lt_of_lt_of_le->ad4,zero_add->ad5,add_assoc->ad7,add_mul->aec,le_refl->aed,le_trans->aen,add_comm->aep,add_zero->aew,mul_comm->aeE
open Option renaming map_eq_some_iff->ad8,getD_some->aeB
open Go.Result renaming andThen_ok->adU
open Go.Sem renaming run_pure->adS,run_bind->adT,run->ad2,bind->ad9
section
namespace Go.Proofs.YtfmdaiojokniiaaGreatDoor
open Go.RowKit
structure Ext(w w':World):Prop where
 os:w'.os=w.os
 tape:w'.tape=w.tape
 output:w'.output=w.output
 size:w.heap.size<=w'.heap.size
 block:∀ k,k<w.heap.size->w'.heap[k]?=w.heap[k]?
theorem Ext.refl(w:World):Ext w w:=⟨rfl,rfl,rfl,aed _,fun _ _=>rfl⟩
theorem Ext.trans{a b c:World}(h:Ext a b)(k:Ext b c):Ext a c :=
 ⟨k.os.trans h.os,k.tape.trans h.tape,k.output.trans h.output,aen h.size k.size,
  fun i hi=>(k.block i (ad4 hi h.size)).trans (h.block i hi)⟩
theorem Ext.drew{a w:World}(h:Ext a w):Ext a w.drew:=⟨h.os,h.tape,h.output,h.size,h.block⟩
theorem Ext.drewN{a w:World}(h:Ext a w)(n:Nat):Ext a (w.drewN n):=⟨h.os,h.tape,h.output,h.size,h.block⟩
theorem Ext.alloc{a w:World}(h:Ext a w)(o:Obj):Ext a (w.alloc o) :=
 ⟨h.os,h.tape,h.output,by simp;exact Nat.le_succ_of_le h.size,fun k hk=>by
  rw[Below.heap_alloc w o k (ad4 hk h.size)];exact h.block k hk⟩
theorem Ext.setCell{a w:World}(h:Ext a w){p:Addr}(hp:a.heap.size<=p.block)(v:Value):Ext a (w.setCell p v) :=
 ⟨h.os,h.tape,h.output,by simpa [World.setCell]using h.size,fun k hk=>by
  rw[Below.heap_setCell w p v k (by omega)];exact h.block k hk⟩
theorem Ext.below{a w:World}(h:Ext a w):Below a.heap.size a w:=⟨h.os,h.tape,h.output,h.size,h.block⟩
theorem Ext.cells{W w1:World}(h:Ext W w1):(∀ b o,b<W.heap.size->w1.cell? ⟨b,o,none⟩=W.cell? ⟨b,o,none⟩)/\(∀ b o,b<W.heap.size->w1.frozen? ⟨b,o,none⟩=W.frozen? ⟨b,o,none⟩) :=
 ⟨fun b o hb=>h.below.cell (p:=⟨b,o,none⟩) hb,fun b o hb=>h.below.frozen (p:=⟨b,o,none⟩) hb⟩
theorem Ext.keep{W w1:World}(h:Ext W w1){a:Addr}{v:Value}(hc:W.cell? a=some v):w1.cell? a=some v:=by
 rw[h.below.cell (World.block_lt_of_cell? _ _ hc)];exact hc
theorem Ext.QJ{a w:World}(h:Below a.heap.size a w):Ext a w:=⟨h.os,h.tape,h.output,h.size,h.block⟩
theorem Ext.grown{a w w':World}{row:Option Nat}(h:Ext a w)(hg:w.grownBy w' row)(hr:∀ k,row=some k->a.heap.size<=k):Ext a w' :=
 Ext.QJ (h.below.grown hg h.size hr)
end Go.Proofs.YtfmdaiojokniiaaGreatDoor
end
section
namespace Go.aA
open Go
inductive DV where
 |undef
 |bool (b:Bool)
 |int (k:IntKind) (n:Int)
 |str (s:List UInt8)
 |aI
 |sl (l:List DV)
 |agg (c:List DV)
 |aF (c:List DV)
 |ec|az|jA|eR
 |fn (f:Fn)
 |raw (v:Value)
def DV.cells:DV->List DV
 | .agg c=>c
 |x=>[x]
inductive AV where
 |any
 |d (x:DV)
 |own (b g:Nat)
 |cut (b g k:Nat) (q:Option Nat)
 |ptr (b off:Nat)
 |cX (b g i off:Nat)
 |bQ (e:DV) (off:Nat)
 |map (b:Nat)
 |agg (c:List AV)
 |aF (c:List AV)
 |fn (f:Fn) (first captured:List AV)
def AV.cells:AV->List AV
 | .agg c=>c
 | .d x=>x.cells.map .d
 |x=>[x]
inductive af where
 |cells (c:List AV)
 |arr (g:Nat) (ts:Nat × Nat) (l:List DV)
 |map (es:List (DV × DV))
 |gone
 |hole
inductive VD (bad:Nat->Prop) (w:World):DV->Value->Prop
 |undef:VD bad w .undef Go.undef
 |bool (b:Bool):VD bad w (.bool b) (.bool b)
 |int (k:IntKind) (n:Int):VD bad w (.int k n) (.int k n)
 |str (l:List UInt8):VD bad w (.str l) (.string ⟨l.toArray⟩)
 |aI:VD bad w .aI (.slice none 0 0)
 |slnil:VD bad w (.sl []) (.slice none 0 0)
 |jX (a:Addr):VD bad w (.sl []) (.slice (some a) 0 0)
 |sl (l:List DV) (blk off cap sz:Nat) (f:Nat->Nat->Value) (hb:l≠[]->¬ bad blk) (bR:0<sz) (jB:l.length<=cap)
   (hlen:∀ (i:Nat) (e:DV),l[i]?=some e->e.cells.length=sz)
   (dO:∀ (i j:Nat) (e x:DV),l[i]?=some e->e.cells[j]?=some x->w.cell? ⟨blk,off+(i*sz+j),none⟩=some (f i j))
   (bG:∀ (i j:Nat) (e x:DV),l[i]?=some e->e.cells[j]?=some x->VD bad w x (f i j))
   (bZ:∀ (i j:Nat) (e x:DV),l[i]?=some e->e.cells[j]?=some x->(f i j).oneCell'=true) :
   VD bad w (.sl l) (.slice (some ⟨blk,off,none⟩) l.length cap)
 |agg (c:List DV) (vs:Array Value) (hlen:c.length=vs.size) (bG:∀ (j:Nat) (x:DV) (v:Value),c[j]?=some x->vs[j]?=some v->VD bad w x v):VD bad w (.agg c) (.agg vs)
 |aF (c:List DV) (vs:Array Value) (hlen:c.length=vs.size) (bG:∀ (j:Nat) (x:DV) (v:Value),c[j]?=some x->vs[j]?=some v->VD bad w x v):VD bad w (.aF c) (.tuple vs)
 |ec:VD bad w .ec (.pointer none)
 |az:VD bad w .az .nilFunc
 |jA:VD bad w .jA (.map none)
 |eR:VD bad w .eR .nilIface
 |fn (f:Fn):VD bad w (.fn f) (.func f #[] #[])
 |raw (v:Value) (h:v.oneCell'=true):VD bad w (.raw v) v
theorem VD.mono{bad wx:Nat->Prop}{w w':World}(h:∀ b,b<w.heap.size->¬ bad b->¬ wx b/\w'.heap[b]?=w.heap[b]?){x:DV}{v:Value}(hv:VD bad w x v):VD wx w' x v:=by
 induction hv with
 |undef=>exact .undef
 |bool b=>exact .bool b
 |int k n=>exact .int k n
 |str l=>exact .str l
 |aI=>exact .aI
 |slnil=>exact .slnil
 |jX a=>exact .jX a
 |sl l blk off cap sz f hb bR jB hlen dO bG bZ ih =>
  have key:l≠[]->blk<w.heap.size:=fun aJ=>by
   obtain⟨e,r,rfl⟩:=aeo aJ;have h1:=hlen 0 e rfl;obtain⟨x,hx⟩:∃ x,e.cells[0]?=some x:=⟨e.cells[0]'(by omega),by simp⟩;exact World.block_lt_of_cell? _ _ (dO 0 0 e x rfl hx)
  refine .sl l blk off cap sz f (fun aJ=>(h blk (key aJ) (hb aJ)).1) bR jB hlen (fun i j e x he hx=>?_) ih bZ;have aJ:l≠[]:=fun h0=>by subst h0;simp at he
  rw[World.cell?_of_block (h blk (key aJ) (hb aJ)).2];exact dO i j e x he hx
 |agg c vs hlen bG ih=>exact .agg c vs hlen ih
 |aF c vs hlen bG ih=>exact .aF c vs hlen ih
 |ec=>exact .ec
 |az=>exact .az
 |jA=>exact .jA
 |eR=>exact .eR
 |fn f=>exact .fn f
 |raw v h=>exact .raw v h
structure Cx where
 own:Nat->Option (Nat × Nat)
 heap:List af
 aE:Nat->Prop
 w:World
def Cx.bad(c:Cx)(b:Nat):Prop:=c.aE b\/∃ i n,c.own i=some (b,n)
inductive VR (c:Cx):AV->Value->Prop
 |any (v:Value):VR c .any v
 |d (x:DV) (v:Value) (h:VD c.bad c.w x v):VR c (.d x) v
 |own (b g:Nat) (sz:Nat × Nat) (l:List DV) (blk cap:Nat) (hb:c.heap[b]?=some (.arr g sz l)) (ho:c.own b=some (blk,cap)):VR c (.own b g) (.slice (some ⟨blk,0,none⟩) l.length cap)
 |iH (b g:Nat) (sz:Nat × Nat) (hb:c.heap[b]?=some (.arr g sz [])) (ho:c.own b=none):VR c (.own b g) (.slice none 0 0)
 |kQ (b g g':Nat) (sz:Nat × Nat) (l:List DV) (v:Value) (hb:c.heap[b]?=some (.arr g' sz l)) (hg:g<g') (hv:v.oneCell'=true):VR c (.own b g) v
 |jY (b g:Nat) (v:Value) (hb:c.heap[b]?=some .gone) (hv:v.oneCell'=true):VR c (.own b g) v
 |mZ (b g:Nat) (cs:List AV) (blk cap n:Nat) (hb:c.heap[b]?=some (.cells cs)) (ho:c.own b=some (blk,cap)) (hn:cs.length=n):VR c (.own b g) (.slice (some ⟨blk,0,none⟩) n n)
 |cut (b g k:Nat) (q:Option Nat) (sz:Nat × Nat) (l:List DV) (blk cap o:Nat) (hb:c.heap[b]?=some (.arr g sz l)) (ho:c.own b=some (blk,cap)) (hk:k<=l.length) (Bl:k<cap->o=k*sz.2) (hq:∀ n,q=some n->n=cap):VR c (.cut b g k q) (.slice (some ⟨blk,o,none⟩) (l.length-k) (cap-k))
 |nY (b g g' k:Nat) (q:Option Nat) (sz:Nat × Nat) (l:List DV) (v:Value) (hb:c.heap[b]?=some (.arr g' sz l)) (hg:g<g') (hv:v.oneCell'=true):VR c (.cut b g k q) v
 |nZ (b g k:Nat) (q:Option Nat) (v:Value) (hb:c.heap[b]?=some .gone) (hv:v.oneCell'=true):VR c (.cut b g k q) v
 |ptr (b off:Nat) (cs:List AV) (blk cap:Nat) (hb:c.heap[b]?=some (.cells cs)) (ho:c.own b=some (blk,cap)):VR c (.ptr b off) (.pointer (some ⟨blk,off,none⟩))
 |iI (b off:Nat) (v:Value) (hb:c.heap[b]?=some .gone) (hv:v.oneCell'=true):VR c (.ptr b off) v
 |cX (b g i off:Nat) (sz:Nat × Nat) (l:List DV) (blk cap:Nat) (hb:c.heap[b]?=some (.arr g sz l)) (ho:c.own b=some (blk,cap)) (hi:i<l.length):VR c (.cX b g i off) (.pointer (some ⟨blk,i*sz.2+off,none⟩))
 |mc (b g g' i off:Nat) (sz:Nat × Nat) (l:List DV) (v:Value) (hb:c.heap[b]?=some (.arr g' sz l)) (hg:g<g') (hv:v.oneCell'=true):VR c (.cX b g i off) v
 |me (b g i off:Nat) (v:Value) (hb:c.heap[b]?=some .gone) (hv:v.oneCell'=true):VR c (.cX b g i off) v
 |bQ (e:DV) (off blk o:Nat) (f:Nat->Value) (hb:¬ c.bad blk) (aJ:e.cells≠[])
   (dO:∀ (j:Nat) (x:DV),e.cells[j]?=some x->c.w.cell? ⟨blk,o+j,none⟩=some (f j)) (bG:∀ (j:Nat) (x:DV),e.cells[j]?=some x->VD c.bad c.w x (f j)) :
   VR c (.bQ e off) (.pointer (some ⟨blk,o+off,none⟩))
 |map (b:Nat) (es:List (DV × DV)) (blk cap:Nat) (hb:c.heap[b]?=some (.map es)) (ho:c.own b=some (blk,cap)):VR c (.map b) (.map (some blk))
 |n0 (b:Nat) (v:Value) (hb:c.heap[b]?=some .gone) (hv:v.oneCell'=true):VR c (.map b) v
 |agg (a:List AV) (vs:Array Value) (hlen:a.length=vs.size) (bG:∀ (j:Nat) (x:AV) (v:Value),a[j]?=some x->vs[j]?=some v->VR c x v):VR c (.agg a) (.agg vs)
 |aF (a:List AV) (vs:Array Value) (hlen:a.length=vs.size) (bG:∀ (j:Nat) (x:AV) (v:Value),a[j]?=some x->vs[j]?=some v->VR c x v):VR c (.aF a) (.tuple vs)
 |fn (f:Fn) (a1 a2:List AV) (v1 v2:Array Value) (si:a1.length=v1.size) (oQ:a2.length=v2.size)
   (h1:∀ (j:Nat) (x:AV) (v:Value),a1[j]?=some x->v1[j]?=some v->VR c x v)
   (h2:∀ (j:Nat) (x:AV) (v:Value),a2[j]?=some x->v2[j]?=some v->VR c x v):VR c (.fn f a1 a2) (.func f v1 v2)
def tY(c c':Cx)(i:Nat):af->Prop
 | .cells cs=>(∃ cs',c'.heap[i]?=some (.cells cs')/\c'.own i=c.own i/\cs'.length=cs.length)\/c'.heap[i]?=some .gone
 | .arr g sz l=>(∃ g' l',c'.heap[i]?=some (.arr g' sz l')/\(g<g'\/g'=g/\l'.length=l.length/\c'.own i=c.own i))\/c'.heap[i]?=some .gone
 | .map _=>(∃ ee,c'.heap[i]?=some (.map ee)/\c'.own i=c.own i)\/c'.heap[i]?=some .gone
 | .gone=>c'.heap[i]?=some .gone
 | .hole=>∃ b,c'.heap[i]?=some b
theorem tY.ex{c c':Cx}{i:Nat}{b:af}(h:tY c c' i b):∃ b',c'.heap[i]?=some b':=by
 cases b with
 |cells cs=>rcases h with⟨_,h,_⟩|h<;>exact⟨_,h⟩
 |arr g ts l=>rcases h with⟨_,_,h,_⟩|h<;>exact⟨_,h⟩
 |map es=>rcases h with⟨_,h,_⟩|h<;>exact⟨_,h⟩
 |gone=>exact⟨_,h⟩
 |hole=>exact h
structure Step(c c':Cx):Prop where
 aE:c'.aE=c.aE
 bS:∀ b,c.aE b->b<c.w.heap.size
 os:c'.w.os=c.w.os
 tape:c'.w.tape=c.w.tape
 output:c'.w.output=c.w.output
 size:c.w.heap.size<=c'.w.heap.size
 keep:∀ b,b<c.w.heap.size->(∀ i n,c.own i≠some (b,n))->c'.w.heap[b]?=c.w.heap[b]?
 dB:∀ i b n,c'.own i=some (b,n)->b<c.w.heap.size->∃ m,c.own i=some (b,m)
 boxes:∀ i bx,c.heap[i]?=some bx->tY c c' i bx
theorem Step.refl(c:Cx)(hb:∀ b,c.aE b->b<c.w.heap.size):Step c c :=
 ⟨rfl,hb,rfl,rfl,rfl,aed _,fun _ _ _=>rfl,fun i b n h _=>⟨n,h⟩,fun i bx h=>by
  cases bx with
  |cells cs=>exact .inl ⟨cs,h,rfl,rfl⟩
  |arr g sz l=>exact .inl ⟨g,l,h,.inr ⟨rfl,rfl,rfl⟩⟩
  |map es=>exact .inl ⟨es,h,rfl⟩
  |gone=>exact h
  |hole=>exact⟨_,h⟩⟩
theorem Step.trans{a b c:Cx}(h:Step a b)(k:Step b c):Step a c where
 aE:=k.aE.trans h.aE
 bS:=h.bS
 os:=k.os.trans h.os
 tape:=k.tape.trans h.tape
 output:=k.output.trans h.output
 size:=aen h.size k.size
 keep:=fun x hx hn=>by
  rw[k.keep x (ad4 hx h.size) (fun i n hi=>by obtain⟨m,hj⟩:=h.dB i x n hi hx;exact hn i m hj)];exact h.keep x hx hn
 dB:=fun i x n hi hx=>by
  obtain⟨m,hj⟩:=k.dB i x n hi (ad4 hx h.size);exact h.dB i x m hj hx
 boxes:=fun i bx hi=>by
  have h1:=h.boxes i bx hi;cases bx with
  |cells cs =>
   rcases h1 with⟨cs',h1,h2,h3⟩|h1
   ·rcases k.boxes i _ h1 with⟨Ea,k1,k2,k3⟩|k1
    ·exact .inl ⟨Ea,k1,k2.trans h2,k3.trans h3⟩
    ·exact .inr k1
   ·exact .inr (k.boxes i _ h1)
  |arr g sz l =>
   rcases h1 with⟨g',l',h1,h2⟩|h1
   ·rcases k.boxes i _ h1 with⟨Eb,Ec,k1,k2⟩|k1
    ·refine .inl ⟨Eb,Ec,k1,?_⟩;rcases h2 with h2|⟨h2,h3,h4⟩<;>rcases k2 with k2|⟨k2,k3,k4⟩
     ·left;omega
     ·left;omega
     ·left;omega
     ·exact .inr ⟨k2.trans h2,k3.trans h3,k4.trans h4⟩
    ·exact .inr k1
   ·exact .inr (k.boxes i _ h1)
  |map es =>
   rcases h1 with⟨ee,h1,h2⟩|h1
   ·rcases k.boxes i _ h1 with⟨Ed,k1,k2⟩|k1
    ·exact .inl ⟨Ed,k1,k2.trans h2⟩
    ·exact .inr k1
   ·exact .inr (k.boxes i _ h1)
  |gone=>exact k.boxes i _ h1
  |hole=>obtain⟨b,h1⟩:=h1;exact(k.boxes i b h1).ex
theorem Step.yz{c c':Cx}(h:Step c c')(b:Nat)(hb:b<c.w.heap.size)(hn:¬ c.bad b):¬ c'.bad b/\c'.w.heap[b]?=c.w.heap[b]? := by
 have h0:∀ i n,c.own i≠some (b,n):=fun i n hi=>hn (.inr ⟨i,n,hi⟩);refine⟨?_,h.keep b hb h0⟩;rintro(h1|⟨i,n,h1⟩)
 ·exact hn (.inl (by rw[<- h.aE];exact h1))
 ·obtain⟨m,hj⟩:=h.dB i b n h1 hb;exact h0 i m hj
theorem Step.vd{c c':Cx}(h:Step c c'){x:DV}{v:Value}(hv:VD c.bad c.w x v):VD c'.bad c'.w x v:=hv.mono h.yz
theorem sj{c c':Cx}(oR:∀ b,b<c.w.heap.size->¬ c.bad b->¬ c'.bad b/\c'.w.heap[b]?=c.w.heap[b]?)(dx:∀ i bx,c.heap[i]?=some bx->tY c c' i bx){x:AV}{v:Value}(hv:VR c x v):VR c' x v:=by
 induction hv with
 |any v=>exact .any v
 |d x v hx=>exact .d x v (hx.mono oR)
 |own b g sz l blk cap hb ho =>
  rcases dx b _ hb with⟨g',l',h1,h2|⟨rfl,h3,h4⟩⟩|h1
  ·exact .kQ b g g' sz l' _ h1 h2 rfl
  ·rw[<- h3];exact .own b g' sz l' blk cap h1 (h4.trans ho)
  ·exact .jY b g _ h1 rfl
 |iH b g sz hb ho =>
  rcases dx b _ hb with⟨g',l',h1,h2|⟨rfl,h3,h4⟩⟩|h1
  ·exact .kQ b g g' sz l' _ h1 h2 rfl
  ·obtain rfl:l'=[]:=aee (by simpa using h3);exact .iH b g' sz h1 (h4.trans ho)
  ·exact .jY b g _ h1 rfl
 |kQ b g g1 sz l v hb hg hv =>
  rcases dx b _ hb with⟨g',l',h1,h2|⟨rfl,h3,h4⟩⟩|h1
  ·exact .kQ b g g' sz l' _ h1 (by omega) hv
  ·exact .kQ b g g' sz l' _ h1 hg hv
  ·exact .jY b g _ h1 hv
 |jY b g v hb hv=>exact .jY b g v (dx b _ hb) hv
 |mZ b g cs blk cap n hb ho hn =>
  rcases dx b _ hb with⟨cs',h1,h2,h3⟩|h1
  ·exact .mZ b g cs' blk cap n h1 (h2.trans ho) (h3.trans hn)
  ·exact .jY b g _ h1 rfl
 |cut b g k q sz l blk cap o hb ho hk Bl hq =>
  rcases dx b _ hb with⟨g',l',h1,h2|⟨rfl,h3,h4⟩⟩|h1
  ·exact .nY b g g' k q sz l' _ h1 h2 rfl
  ·rw[<- h3];exact .cut b g' k q sz l' blk cap o h1 (h4.trans ho) (by omega) Bl hq
  ·exact .nZ b g k q _ h1 rfl
 |nY b g g1 k q sz l v hb hg hv =>
  rcases dx b _ hb with⟨g',l',h1,h2|⟨rfl,h3,h4⟩⟩|h1
  ·exact .nY b g g' k q sz l' _ h1 (by omega) hv
  ·exact .nY b g g' k q sz l' _ h1 hg hv
  ·exact .nZ b g k q _ h1 hv
 |nZ b g k q v hb hv=>exact .nZ b g k q v (dx b _ hb) hv
 |ptr b off cs blk cap hb ho =>
  rcases dx b _ hb with⟨cs',h1,h2,h3⟩|h1
  ·exact .ptr b off cs' blk cap h1 (h2.trans ho)
  ·exact .iI b off _ h1 rfl
 |iI b off v hb hv=>exact .iI b off v (dx b _ hb) hv
 |cX b g i off sz l blk cap hb ho hi =>
  rcases dx b _ hb with⟨g',l',h1,h2|⟨rfl,h3,h4⟩⟩|h1
  ·exact .mc b g g' i off sz l' _ h1 h2 rfl
  ·exact .cX b g' i off sz l' blk cap h1 (h4.trans ho) (by omega)
  ·exact .me b g i off _ h1 rfl
 |mc b g g1 i off sz l v hb hg hv =>
  rcases dx b _ hb with⟨g',l',h1,h2|⟨rfl,h3,h4⟩⟩|h1
  ·exact .mc b g g' i off sz l' _ h1 (by omega) hv
  ·exact .mc b g g' i off sz l' _ h1 hg hv
  ·exact .me b g i off _ h1 hv
 |me b g i off v hb hv=>exact .me b g i off v (dx b _ hb) hv
 |bQ e off blk o f hb aJ dO bG =>
  have ah:blk<c.w.heap.size:=by
   obtain⟨x,r,hx⟩:=aeo aJ;exact World.block_lt_of_cell? _ _ (dO 0 x (by rw[hx];rfl))
  have hk:=oR blk ah hb;exact .bQ e off blk o f hk.1 aJ (fun j x hx=>by rw[World.cell?_of_block hk.2];exact dO j x hx) (fun j x hx=>(bG j x hx).mono oR)
 |map b es blk cap hb ho =>
  rcases dx b _ hb with⟨ee,h1,h2⟩|h1
  ·exact .map b ee blk cap h1 (h2.trans ho)
  ·exact .n0 b _ h1 rfl
 |n0 b v hb hv=>exact .n0 b v (dx b _ hb) hv
 |agg a vs hlen bG ih=>exact .agg a vs hlen ih
 |aF a vs hlen bG ih=>exact .aF a vs hlen ih
 |fn f a1 a2 v1 v2 si oQ h1 h2 QK QL=>exact .fn f a1 a2 v1 v2 si oQ QK QL
theorem Step.vr{c c':Cx}(h:Step c c'){x:AV}{v:Value}(hv:VR c x v):VR c' x v:=sj h.yz h.boxes hv
end Go.aA
end
section
namespace Go.aA
open Go
universe u
inductive TK where
 |bool|int (k:IntKind)|string|pointer (e:Nat)|slice (e:Nat)|array (n e:Nat)|map (k e:Nat)|struct (fs:List (Nat × Nat))|func|iface|other
def tk:TypeDesc->TK
 | .bool => .bool
 | .int k => .int k
 | .string => .string
 | .pointer e => .pointer e
 | .slice e => .slice e
 | .array n e => .array n e
 | .map k e => .map k e
 | .struct fs => .struct (fs.toList.map fun f=>(f.offset,f.type))
 | .func _ _ _ => .func
 | .interface _ => .iface
 |_ => .other
def tZ:Value->Option DV
 | .bool b=>some (.bool b)
 | .int k n=>some (.int k n)
 | .string s=>some (.str s.data.toList)
 | .slice none 0 0=>some .aI
 | .pointer none=>some .ec
 | .nilFunc=>some .az
 | .map none=>some .jA
 | .nilIface=>some .eR
 |_=>none
theorem Jk{bad:Nat->Prop}{w:World}{v:Value}{x:DV}(h:tZ v=some x):VD bad w x v:=by
 unfold tZ at h;split at h<;>first|(cases h;constructor)|cases h
def TK.agg:TK->Bool
 | .struct _=>true
 | .array _ _=>true
 |_=>false
structure bu where
 k:TK
 size:Nat
 bytes:Nat
 zero:List DV
def yA:List (Option DV)->Option (List DV)
 |[]=>some []
 |none::_=>none
 |some x::l=>(yA l).map (x :: ·)
def wy(z:Option Value):List DV:=(z.bind fun v=>yA (v.cells.toList.map tZ)).getD []
def fe(P:Program)(t:Nat):Option bu :=
 match P.info? t,P.underlying t with
 |some i,some d=>some ⟨tk d,i.size,i.bytes,wy i.zero⟩
 |_,_=>none
structure Env where
 P:Program
 T:List bu
 G:List (Nat × DV)
 Q:List Nat
def Bm(P:Program)(t:Nat):Bool := !P.stoodInHeld t && !P.eqGuardType P.depth t&&(match P.underlying t with
 |some (.struct fs) => fs.toList.all fun f => f.name != "_"
 |_=>false)
structure Env.OK(E:Env):Prop where
 types:∀ (t:Nat) (i:bu),E.T[t]?=some i->fe E.P t=some i
 eqs:∀ t∈E.Q,Bm E.P t=true
section Ee
variable {α:Sort u} {β:Type}
def fG:List β->Nat->β->(List β->α)->α
 |[],_,_,k=>k []
 |_::l,0,v,k=>k (v::l)
 |a::l,i+1,v,k=>fG l i v fun l'=>k (a::l')
theorem gF(l:List β)(i:Nat)(v:β)(k:List β->α):fG l i v k=k (l.set i v):=by
 induction l generalizing i k with
 |nil=>rfl
 |cons a l ih=>cases i with
  |zero=>rfl
  |succ i=>simp only[fG,ih,List.set_cons_succ]
def aZ:List β->Nat->(no:α)->(β->α)->α
 |[],_,no,_=>no
 |a::_,0,_,k=>k a
 |_::l,i+1,no,k=>aZ l i no k
theorem Bn{l:List β}{i:Nat}{x:β}(h:l[i]?=some x)(no:α)(k:β->α):aZ l i no k=k x:=by
 induction l generalizing i with
 |nil=>simp at h
 |cons a l ih=>cases i with
  |zero=>simp at h;subst h;rfl
  |succ i=>exact ih (by simpa using h)
theorem Jl{l:List β}{i:Nat}(h:l[i]?=none)(no:α)(k:β->α):aZ l i no k=no:=by
 induction l generalizing i with
 |nil=>rfl
 |cons a l ih=>cases i with
  |zero=>simp at h
  |succ i=>exact ih (by simpa using h)
def wz:Nat->List β->(List β->α)->α
 |0,_,k=>k []
 |_+1,[],k=>k []
 |n+1,a::l,k=>wz n l fun l'=>k (a::l')
theorem Jm(n:Nat)(l:List β)(k:List β->α):wz n l k=k (l.take n):=by
 induction n generalizing l k with
 |zero=>simp[wz]
 |succ n ih=>cases l with
  |nil=>simp[wz]
  |cons a l=>simp[wz,ih]
def ua:Nat->List β->(List β->α)->α
 |0,l,k=>k l
 |_+1,[],k=>k []
 |n+1,_::l,k=>ua n l k
theorem Ef(n:Nat)(l:List β)(k:List β->α):ua n l k=k (l.drop n):=by
 induction n generalizing l with
 |zero=>simp[ua]
 |succ n ih=>cases l with
  |nil=>simp[ua]
  |cons a l=>simp[ua,ih]
def n4:List β->β->Nat->(List β->Nat->α)->α
 |[],v,n,k=>k [v] n
 |a::l,v,n,k=>n4 l v (n+1) fun l' m=>k (a::l') m
theorem sk(l:List β)(v:β)(n:Nat)(k:List β->Nat->α):n4 l v n k=k (l++[v]) (n+l.length):=by
 induction l generalizing n k with
 |nil=>rfl
 |cons a l ih=>simp only[n4,ih,List.cons_append,aef,ad7,aep 1]
def wA:List β->Nat->List β->(List β->α)->α
 |c,_,[],k=>k c
 |c,off,v::l,k=>fG c off v fun c'=>wA c' (off+1) l k
def dy:List β->Nat->List β->List β
 |c,_,[]=>c
 |c,off,v::l=>dy (c.set off v) (off+1) l
theorem Eg(c:List β)(off:Nat)(l:List β)(k:List β->α):wA c off l k=k (dy c off l):=by
 induction l generalizing c off with
 |nil=>rfl
 |cons v l ih=>simp only[wA,gF,ih,dy]
def oS{γ:Type}(f:β->γ):List β->(List γ->α)->α
 |[],k=>k []
 |a::l,k=>oS f l fun l'=>k (f a::l')
theorem ub{γ:Type}(f:β->γ)(l:List β)(k:List γ->α):oS f l k=k (l.map f):=by
 induction l generalizing k with
 |nil=>rfl
 |cons a l ih=>simp only[oS,ih,ad0]
end Ee
section ops
variable {α:Sort u}
def qz:List AV->(no:α)->(List DV->α)->α
 |[],_,k=>k []
 | .d x::l,no,k=>qz l no fun l'=>k (x::l')
 |_::_,no,_=>no
theorem yB(l:List AV)(no:α)(k:List DV->α):(∃ l',l=l'.map .d/\qz l no k=k l')\/qz l no k=no:=by
 induction l generalizing k with
 |nil=>exact .inl ⟨[],rfl,rfl⟩
 |cons a l ih =>
  cases a
  case d x =>
   rcases ih (fun l'=>k (x::l'))with⟨l',h1,h2⟩|h
   ·exact .inl ⟨x::l',by rw[h1];rfl,h2⟩
   ·exact .inr h
  all_goals exact .inr rfl
def wB(l:List AV)(k:AV->α):α:=qz l (k (.agg l)) fun l'=>k (.d (.agg l'))
def Jn(v:Value)(stop:α)(k:AV->α):α :=
 match v with
 | .bool b=>k (.d (.bool b))
 | .int j n=>k (.d (.int j n))
 | .string s=>k (.d (.str s.data.toList))
 | .slice none 0 0=>k (.d .aI)
 | .pointer none=>k (.d .ec)
 | .nilFunc=>k (.d .az)
 | .map none=>k (.d .jA)
 | .nilIface=>k (.d .eR)
 |_=>stop
def Bo:List (Nat × DV)->Nat->(stop:α)->(AV->α)->α
 |[],_,stop,_=>stop
 |(g,e)::l,i,stop,k=>match adY g i with
  |true=>k (.bQ e 0)
  |false=>Bo l i stop k
def cd(G:List (Nat × DV))(s:List AV)(x:Operand)(stop:α)(k:AV->α):α :=
 match x with
 | .tmp t=>aZ s t stop k
 | .const v=>Jn v stop k
 | .global g=>Bo G g stop k
 | .func f=>k (.fn (.func f) [] [])
def uc(G:List (Nat × DV))(s:List AV):List Operand->(stop:α)->(List AV->α)->α
 |[],_,k=>k []
 |x::l,stop,k=>cd G s x stop fun v=>uc G s l stop fun l'=>k (v::l')
def DV.fm:DV->Bool
 | .agg _=>false
 | .aF _=>false
 | .undef=>false
 |_=>true
def AV.fm:AV->Bool
 | .agg _=>false
 | .aF _=>false
 | .any=>false
 | .d x=>x.fm
 |_=>true
def wC(v:AV)(stop:α)(k:List AV->α):α :=
 match v with
 | .agg c=>k c
 | .d (.agg c)=>oS .d c k
 |v=>match v.fm with
  |true=>k [v]
  |false=>stop
def lE(i:bu)(c:List AV)(off:Nat)(stop:α)(k:AV->α):α :=
 match i.k.agg with
 |true=>ua off c fun c1=>wz i.size c1 fun c2=>match adY c2.length i.size with
  |true=>wB c2 k
  |false=>stop
 |false=>aZ c off stop k
def Eh(i:bu)(h:List af)(a:AV)(stop:α)(k:AV->α):α :=
 match a with
 | .ptr b off=>aZ h b stop fun
  | .cells c=>lE i c off stop k
  |_=>stop
 | .bQ e off=>match e with
  | .agg c=>oS .d c fun c'=>lE i c' off stop k
  |x=>lE i [.d x] off stop k
 |_=>stop
def Ei(i:bu)(h:List af)(a v:AV)(stop:α)(k:List af->α):α :=
 match a with
 | .ptr b off=>aZ h b stop fun
  | .cells c=>wC v stop fun vs=>match adY vs.length i.size,Nat.ble (off+vs.length) c.length,vs.all AV.fm with
   |true,true,true=>wA c off vs fun c'=>fG h b (.cells c') k
   |_,_,_=>stop
  |_=>stop
 |_=>stop
def Ej(op:BinOp)(j:IntKind)(a b:Int)(stop:α)(k:AV->α):α :=
 match op with
 | .add=>k (.d (.int j (j.wrap (a+b))))
 | .sub=>k (.d (.int j (j.wrap (a-b))))
 | .mul=>k (.d (.int j (j.wrap (a*b))))
 | .eql=>k (.d (.bool (a==b)))
 | .neq=>k (.d (.bool (a != b)))
 | .lss=>k (.d (.bool (decide (a<b))))
 | .leq=>k (.d (.bool (decide (a<=b))))
 | .gtr=>k (.d (.bool (decide (a>b))))
 | .geq=>k (.d (.bool (decide (a>=b))))
 |_=>stop
def Ek(op:BinOp)(a b:List UInt8)(stop:α)(k:AV->α):α :=
 match op with
 | .eql=>k (.d (.bool (a==b)))
 | .neq=>k (.d (.bool (!(a==b))))
 | .lss=>k (.d (.bool (Op.bytesLess a b)))
 | .leq=>k (.d (.bool (Op.bytesLess a b||a==b)))
 | .gtr=>k (.d (.bool (!(Op.bytesLess a b||a==b))))
 | .geq=>k (.d (.bool (!(Op.bytesLess a b))))
 |_=>stop
def IntKind.same:IntKind->IntKind->Bool
 | .i8,.i8 | .i16,.i16 | .i32,.i32 | .i64,.i64 | .u8,.u8 | .u16,.u16 | .u32,.u32 | .u64,.u64=>true
 |_,_=>false
def El(i:bu)(op:BinOp)(x y:AV)(stop:α)(k:AV->α):α :=
 match x,y with
 | .d (.int j a),.d (.int j' b)=>match IntKind.same j j' with
  |true=>Ej op j a b stop k
  |false=>stop
 | .d (.str a),.d (.str b)=>Ek op a b stop k
 | .d (.bool a),.d (.bool b)=>match i.k,op with
  | .bool,.eql=>k (.d (.bool (a==b)))
  | .bool,.neq=>k (.d (.bool (!(a==b))))
  |_,_=>stop
 |_,_=>stop
def Bp(op:BinOp)(j:IntKind)(a:Int)(y:Operand)(stop:α)(k:AV->α):α :=
 match y with
 | .const (.int j' (.ofNat (m+1)))=>match op with
  | .quo=>match IntKind.same j j' with
   |true=>k (.d (.int j (j.wrap (a.tdiv (.ofNat (m+1))))))
   |false=>stop
  | .rem=>match IntKind.same j j' with
   |true=>k (.d (.int j (a.tmod (.ofNat (m+1)))))
   |false=>stop
  |_=>stop
 |_=>stop
def Bq(i:bu)(f:Nat)(stop:α)(k:Nat->Nat->α):α :=
 match i.k with
 | .struct fs=>aZ fs f stop fun p=>k p.1 p.2
 |_=>stop
def wD(pl:Nat->Option (Nat × Nat)):List (Nat × AV)->List AV->(stop:α)->(List AV->α)->α
 |[],c,_,k=>k c
 |(f,v)::r,c,stop,k =>
  match pl f with
  |none=>stop
  |some p=>wC v stop fun vs=>match adY vs.length p.2,Nat.ble (p.1+vs.length) c.length with
   |true,true=>wA c p.1 vs fun c'=>wD pl r c' stop k
   |_,_=>stop
def Br(T:List bu):List (Nat × Nat)->(stop:α)->(List (Nat × Nat)->α)->α
 |[],_,k=>k []
 |(o,t)::l,stop,k=>aZ T t stop fun i=>Br T l stop fun l'=>k ((o,i.size)::l')
def dJ{β:Type}:List β->Nat->Option β
 |[],_=>none
 |a::_,0=>some a
 |_::l,i+1=>dJ l i
def oT(sz:Nat):List (Nat × AV)->List DV->(stop:α)->(List DV->α)->α
 |[],c,_,k=>k c
 |(f,.d x)::r,c,stop,k=>match x with
  | .agg l=>match adY l.length sz,l.all DV.fm,adZ f c.length with
   |true,true,true=>fG c f (.agg l) fun c'=>oT sz r c' stop k
   |_,_,_=>stop
  |x=>match adY 1 sz,x.fm,adZ f c.length with
   |true,true,true=>fG c f x fun c'=>oT sz r c' stop k
   |_,_,_=>stop
 |_::_,_,stop,_=>stop
def ud:Nat->DV->(List DV->α)->α
 |0,_,k=>k []
 |n+1,x,k=>ud n x fun l=>k (x::l)
def ue(G:List (Nat × DV))(s:List AV):List (Nat × Operand)->(stop:α)->(List (Nat × AV)->α)->α
 |[],_,k=>k []
 |(i,x)::l,stop,k=>cd G s x stop fun v=>ue G s l stop fun l'=>k ((i,v)::l')
def jZ(T:List bu)(G:List (Nat × DV))(o:Op)(s:List AV)(h:List af)(stop:α)(k:AV->List af->α):α :=
 match o with
 | .move x=>cd G s x stop fun v=>k v h
 | .assign x=>cd G s x stop fun v=>k v h
 | .box _ x=>cd G s x stop fun v=>wC v stop fun c=>n4 h (.cells c) 0 fun h' n=>k (.ptr n 0) h'
 | .alloc t=>aZ T t stop fun i=>match adY i.zero.length i.size,adZ 0 i.size with
  |true,true=>oS .d i.zero fun c=>n4 h (.cells c) 0 fun h' n=>k (.ptr n 0) h'
  |_,_=>stop
 | .load t x=>aZ T t stop fun i=>cd G s x stop fun a=>Eh i h a stop fun v=>k v h
 | .store t x y=>aZ T t stop fun i=>cd G s x stop fun a=>cd G s y stop fun v=>Ei i h a v stop fun h'=>k (.d .undef) h'
 | .fieldAddr t x f=>aZ T t stop fun i=>Bq i f stop fun o ft=>aZ T ft stop fun fi=>match adZ 0 fi.size with
  |false=>stop
  |true=>cd G s x stop fun
   | .ptr b off=>aZ h b stop fun
    | .cells _=>k (.ptr b (off+o)) h
    |_=>stop
   | .bQ e off=>k (.bQ e (off+o)) h
   | .cX b g i off=>aZ h b stop fun
    | .arr g' _ _=>match adY g g' with
     |true=>k (.cX b g i (off+o)) h
     |false=>stop
    |_=>stop
   |_=>stop
 | .field t x f=>aZ T t stop fun i=>Bq i f stop fun o ft=>aZ T ft stop fun fi=>cd G s x stop fun
  | .agg c=>lE fi c o stop fun v=>k v h
  | .d (.agg c)=>oS .d c fun c'=>lE fi c' o stop fun v=>k v h
  |_=>stop
 | .nilCheck x=>cd G s x stop fun
  | .ptr b off=>aZ h b stop fun
   | .cells _=>k (.ptr b off) h
   |_=>stop
  | .bQ e off=>k (.bQ e off) h
  | .cX b g i off=>aZ h b stop fun
   | .arr g' _ _=>match adY g g' with
    |true=>k (.cX b g i off) h
    |false=>stop
   |_=>stop
  |_=>stop
 | .binOp op t x y _=>aZ T t stop fun i=>cd G s x stop fun a=>cd G s y stop fun b =>
  match op with
  | .quo=>match a with
   | .d (.int j n)=>Bp .quo j n y stop fun v=>k v h
   |_=>stop
  | .rem=>match a with
   | .d (.int j n)=>Bp .rem j n y stop fun v=>k v h
   |_=>stop
  |op=>El i op a b stop fun v=>k v h
 | .unOp .not _ x=>cd G s x stop fun
  | .d (.bool b)=>k (.d (.bool !b)) h
  |_=>stop
 | .unOp .neg _ x=>cd G s x stop fun
  | .d (.int j n)=>k (.d (.int j (j.wrap (0-n)))) h
  |_=>stop
 | .pick c a b=>cd G s c stop fun
  | .d (.bool true)=>cd G s a stop fun v=>k v h
  | .d (.bool false)=>cd G s b stop fun v=>k v h
  |_=>stop
 | .extract x i=>cd G s x stop fun
  | .aF l=>aZ l i stop fun v=>k v h
  | .d (.aF l)=>aZ l i stop fun v=>k (.d v) h
  |_=>stop
 | .convert t0 t x=>aZ T t0 stop fun _=>aZ T t stop fun i=>cd G s x stop fun v=>match i.k,v with
  | .int j,.d (.int _ n)=>k (.d (.int j (j.wrap n))) h
  | .string,.d (.str l)=>k (.d (.str l)) h
  |_,_=>stop
 | .build t parts=>aZ T t stop fun i=>ue G s parts.toList stop fun ps=>match adY i.zero.length i.size,adZ 0 i.size with
  |true,true=>oS .d i.zero fun z=>match i.k with
   | .struct fs=>Br T fs stop fun pl=>wD (dJ pl) ps z stop fun c=>wB c fun v=>k v h
   | .array _ e=>aZ T e stop fun ei=>wD (fun i=>some (i*ei.size,ei.size)) ps z stop fun c=>wB c fun v=>k v h
   |_=>stop
  |_,_=>stop
 | .buildSlice t len parts=>aZ T t stop fun i=>match i.k with
  | .slice e=>aZ T e stop fun ei=>match adY ei.zero.length ei.size,adZ 0 ei.size,adZ 0 len,Nat.ble (len*ei.size) 16777216,ei.zero.all DV.fm with
   |true,true,true,true,true=>ue G s parts.toList stop fun ps =>
    match ei.zero with
    |[z]=>ud len z fun zs=>oT ei.size ps zs stop fun l=>k (.d (.sl l)) h
    |zl=>ud len (.agg zl) fun zs=>oT ei.size ps zs stop fun l=>k (.d (.sl l)) h
   |_,_,_,_,_=>stop
  |_=>stop
 | .makeFunc f first captured=>uc G s first.toList stop fun a=>uc G s captured.toList stop fun b=>k (.fn f a b) h
 | .call { callee := .builtin .len,args:=args,argTypes:=ts }=>aZ args.toList 0 stop fun x=>aZ ts.toList 0 stop fun t=>aZ T t stop fun i=>cd G s x stop fun v=>match i.k,v with
  | .slice _,.d (.sl l)=>k (.d (.int .i64 l.length)) h
  | .string,.d (.str l)=>k (.d (.int .i64 l.length)) h
  | .slice _,.d .aI=>k (.d (.int .i64 0)) h
  | .slice _,.own b g=>aZ h b stop fun
   | .arr g' _ l=>match adY g g' with
    |true=>k (.d (.int .i64 l.length)) h
    |false=>stop
   |_=>stop
  |_,_=>stop
 |_=>stop
def cg(s:List AV)(d:Option Nat)(v:AV)(k:List AV->α):α :=
 match d with
 |some d=>fG s d v k
 |none=>k s
end ops
end Go.aA
end
section
namespace Go.aA
open Go
structure n'(en:Array MapEntry)(ck n:Nat):Prop where
 size:en.size=n
 born:∀ x∈en.toList,x.born<ck
 nodup:(en.toList.map (·.born)).Nodup
 idx:∀ (j:Nat) (x:MapEntry),en[j]?=some x->x.born=j
 tick:ck=n
theorem n'.push{en:Array MapEntry}{ck n:Nat}(h:n' en ck n)(u w:Value):n' (en.push { key:=u,val:=w,born:=ck }) (ck+1) (n+1):=by
 refine⟨by simp[h.size],fun x hx=>?_,?_,fun j x hj=>?_,by rw[h.tick]⟩
 ·rw[aeq,List.mem_append]at hx;rcases hx with hx|hx
  ·have:=h.born x hx;omega
  ·simp at hx;subst hx;simp
 ·rw[aeq,List.map_append,List.nodup_append];refine⟨h.nodup,by simp,fun a ha b hb=>?_⟩;obtain⟨x,hx,rfl⟩:=aer.1 ha;have:=h.born x hx;simp at hb;omega
 ·rw[Array.getElem?_push]at hj;split at hj
  ·rename_i e;cases hj;rw[e,h.size];exact h.tick
  ·exact h.idx j x hj
theorem n'.modify{en:Array MapEntry}{ck n:Nat}(h:n' en ck n)(i:Nat)(u w:Value):n' (en.modify i fun e=>{ e with key:=u,val:=w }) ck n:=by
 have hm:(en.modify i fun e=>{ e with key:=u,val:=w }).toList.map (·.born)=en.toList.map (·.born):=by
  apply List.ext_getElem?;intro j;simp only[ad1,aeh,aes];by_cases hj:i=j
  ·rw[if_pos hj];cases en[j]? <;> rfl
  ·rw[if_neg hj]
 refine⟨by simp[h.size],fun x hx=>?_,by rw[hm];exact h.nodup,fun j x hj=>?_,h.tick⟩
 case refine_2 =>
  have e:(en.toList.map (·.born))[j]?=some x.born:=by rw[<- hm,ad1,aeh,hj];rfl
  simp only[ad1,aeh,ad8]at e;obtain⟨y,hy,e⟩:=e;rw[<- e];exact h.idx j y hy
 have:x.born∈en.toList.map (·.born):=by rw[<- hm];exact List.mem_map_of_mem hx
 obtain⟨y,hy,e⟩:=aer.1 this;rw[<- e];exact h.born y hy
def ka(c:Cx)(i:Nat):af->Prop
 | .cells cs=>∃ (blk cap:Nat) (vs:Array Value) (ty:TypeId),c.own i=some (blk,cap)/\c.w.heap[blk]?=some (.cells vs ty (0,0))/\vs.size=cs.length /\
   ∀ (j:Nat) (x:AV) (v:Value),cs[j]?=some x->vs[j]?=some v->VR c x v
 | .arr _ ts l=>0<ts.2/\(∀ (i:Nat) (e:DV),l[i]?=some e->e.cells.length=ts.2) /\
   ((c.own i=none/\l=[])\/∃ (blk cap:Nat) (vs:Array Value),c.own i=some (blk,cap)/\c.w.heap[blk]?=some (.cells vs ts.1 (0,0))/\vs.size=cap*ts.2/\l.length<=cap/\cap<=maxLen /\
    ∀ (i j:Nat) (e x:DV),l[i]?=some e->e.cells[j]?=some x->∃ v,vs[i*ts.2+j]?=some v/\v.oneCell'=true/\VD c.bad c.w x v)
 | .map es=>∃ (blk cap:Nat) (en:Array MapEntry) (ck:Nat),c.own i=some (blk,cap)/\c.w.heap[blk]?=some (.map en ck)/\n' en ck es.length /\
   ∀ (j:Nat) (k x:DV) (m:MapEntry),es[j]?=some (k,x)->en[j]?=some m->VD c.bad c.w k m.key/\VD c.bad c.w x m.val
 | .gone=>c.own i=none
 | .hole=>c.own i=none
structure aM(G:List (Nat × DV))(c:Cx):Prop where
 bS:∀ b,c.aE b->b<c.w.heap.size
 bB:∀ i b n,c.own i=some (b,n)->b<c.w.heap.size/\i<c.heap.length
 inj:∀ i j b n m,c.own i=some (b,n)->c.own j=some (b,m)->i=j
 sep:∀ i b n,c.own i=some (b,n)->¬ c.aE b
 box:∀ i bx,c.heap[i]?=some bx->ka c i bx
 fS:∀ g e,(g,e)∈G->VR c (.bQ e 0) (.pointer (some ⟨g,0,none⟩))
def VS(c:Cx)(s:List AV)(t:Array Value):Prop:=s.length=t.size/\∀ (i:Nat) (x:AV) (v:Value),s[i]?=some x->t[i]?=some v->VR c x v
theorem Step.vs{c c':Cx}(h:Step c c'){s:List AV}{t:Array Value}(hv:VS c s t):VS c' s t:=⟨hv.1,fun i x v hx ht=>h.vr (hv.2 i x v hx ht)⟩
theorem VS.put{c:Cx}{s:List AV}{t:Array Value}(hv:VS c s t)(d:Nat){x:AV}{v:Value}(hx:VR c x v):VS c (s.set d x) (t.setIfInBounds d v):=by
 refine⟨by simpa using hv.1,fun i y u hy hu=>?_⟩;by_cases hd:d=i
 ·subst hd;have h1:d<s.length:=by
   rcases adV d s.length with h|h
   ·exact h
   ·rw[adW (by simpa using h)]at hy;cases hy
  have h2:d<t.size:=by rw[<- hv.1];exact h1
  rw[aei h1]at hy;rw[Array.getElem?_setIfInBounds_self_of_lt h2]at hu;cases hy;cases hu;exact hx
 ·rw[aej hd]at hy;rw[Array.getElem?_setIfInBounds_ne hd]at hu;exact hv.2 i y u hy hu
theorem ka.keep{c c':Cx}(h:Step c c'){i:Nat}{bx:af}(hb:ka c i bx)(ho:c'.own i=c.own i)(hw:∀ b n,c.own i=some (b,n)->c'.w.heap[b]?=c.w.heap[b]?):ka c' i bx:=by
 cases bx with
 |cells cs =>
  obtain⟨blk,cap,vs,ty,h1,h2,h3,h4⟩:=hb;exact⟨blk,cap,vs,ty,ho.trans h1,(hw blk cap h1).trans h2,h3,fun j x v hx hv=>h.vr (h4 j x v hx hv)⟩
 |arr g ts l =>
  obtain⟨h0,h1,h2⟩:=hb;refine⟨h0,h1,?_⟩;rcases h2 with⟨h2,h3⟩|⟨blk,cap,vs,h2,h3,h4,h5,h6,h7⟩
  ·exact .inl ⟨ho.trans h2,h3⟩
  ·refine .inr ⟨blk,cap,vs,ho.trans h2,(hw blk cap h2).trans h3,h4,h5,h6,fun i j e x he hx=>?_⟩;obtain⟨v,h8,yC,h9⟩:=h7 i j e x he hx;exact⟨v,h8,yC,h.vd h9⟩
 |map es =>
  obtain⟨blk,cap,en,ck,h1,h2,h3,h4⟩:=hb;exact⟨blk,cap,en,ck,ho.trans h1,(hw blk cap h1).trans h2,h3,fun j k x m hx hm=>⟨h.vd (h4 j k x m hx hm).1,h.vd (h4 j k x m hx hm).2⟩⟩
 |gone=>exact ho.trans hb
 |hole=>exact ho.trans hb
theorem aM.next{G:List (Nat × DV)}{c c':Cx}(h:aM G c)(hs:Step c c')(hl:∀ i b n,c'.own i=some (b,n)->b<c'.w.heap.size/\i<c'.heap.length)
  (hi:∀ i j b n m,c'.own i=some (b,n)->c'.own j=some (b,m)->i=j)
  (hb:∀ i bx,c'.heap[i]?=some bx->(c.heap[i]?=some bx/\c'.own i=c.own i/\∀ b n,c.own i=some (b,n)->c'.w.heap[b]?=c.w.heap[b]?)\/ka c' i bx):aM G c' where
 bS:=fun b hb=>ad4 (h.bS b (by rw[<- hs.aE];exact hb)) hs.size
 bB:=hl
 inj:=hi
 sep:=fun i b n cj hb=>by
  rw[hs.aE]at hb;obtain⟨m,hj⟩:=hs.dB i b n cj (h.bS b hb);exact h.sep i b m hj hb
 box:=fun i bx hx=>(hb i bx hx).elim (fun⟨h1,h2,h3⟩=>(h.box i bx h1).keep hs h2 h3) id
 fS:=fun g e hg=>hs.vr (h.fS g e hg)
def Cx.eB(c:Cx)(w:World):Cx:={ c with w:=w }
theorem aM.grow{G:List (Nat × DV)}{c:Cx}(h:aM G c){w:World}(hx:Proofs.YtfmdaiojokniiaaGreatDoor.Ext c.w w):aM G (c.eB w)/\Step c (c.eB w):=by
 have hs:Step c (c.eB w):=⟨rfl,h.bS,hx.os,hx.tape,hx.output,hx.size,fun b hb _=>hx.block b hb,fun i b n hi _=>⟨n,hi⟩,(Step.refl c h.bS).boxes⟩;exact⟨h.next hs (fun i b n hi=>⟨ad4 (h.bB i b n hi).1 hx.size,(h.bB i b n hi).2⟩) h.inj (fun i bx hb => .inl ⟨hb,rfl,fun b n hn=>hx.block b (h.bB i b n hn).1⟩),hs⟩
def Em(P:Program)(o:Oper)(a:Act)(w:World)(v:Value)(w':World):Prop :=
 (execOp a.eval o).run P w=.ok (.value v) w'\/(execOp a.eval o).run P w=.ok .skip w'/\v=undef
def bz(E:Env)(op:Op)(s:List AV)(h:List af)(x:AV)(h':List af):Prop :=
 ∀ (o:Oper) (c:Cx) (a:Act),o.op=op->c.heap=h->aM E.G c->VS c s a.tmps ->
  ∃ (c':Cx) (v:Value),Em E.P o a c.w v c'.w/\c'.heap=h'/\aM E.G c'/\VR c' x v/\Step c c'
def bh(G:List (Nat × DV))(s:List AV)(x:Operand)(v:AV):Prop :=
 ∀ (c:Cx) (a:Act),aM G c->VS c s a.tmps->VR c v (a.eval x)
theorem bp{β:Type}{l:List β}{i:Nat}{stop:Prop}{k:β->Prop}(H:aZ l i stop k):stop\/∃ x,l[i]?=some x/\k x:=by
 cases h:l[i]? with
 |none=>rw[Jl h]at H;exact .inl H
 |some x=>rw[Bn h]at H;exact .inr ⟨x,rfl,H⟩
theorem cu{G:List (Nat × DV)}{s:List AV}{x:Operand}{stop:Prop}{k:AV->Prop}(H:cd G s x stop k):stop\/∃ v,bh G s x v/\k v:=by
 cases x with
 |tmp t =>
  rcases bp H with h|⟨v,hv,h⟩
  ·exact .inl h
  refine .inr ⟨v,fun c a _ hs=>?_,h⟩;have hl:t<a.tmps.size:=by
   rw[<- hs.1];rcases adV t s.length with h|h
   ·exact h
   ·rw[adW h]at hv;cases hv
  have:=hs.2 t v a.tmps[t] hv (by simp[hl])
  simpa [Act.eval,hl]using this
 |const v =>
  simp only[cd,Jn]at H;split at H<;>first
   |exact .inl H
   |exact .inr ⟨_,fun c a _ _ => .d _ _ (Jk rfl),H⟩
 |global g =>
  simp only[cd]at H;have:∀ l:List (Nat × DV),(∀ p∈l,p∈G)->Bo l g stop k->stop\/∃ v,bh G s (.global g) v/\k v:=by
   intro l
   induction l with
   |nil=>exact fun _ h => .inl h
   |cons p l ih =>
    intro hm h;obtain⟨g',e⟩:=p;simp only[Bo]at h;split at h
    ·rename_i hg;obtain rfl:g'=g:=adX hg;exact .inr ⟨_,fun c a ho _=>ho.fS g' e (hm _ (List.mem_cons_self ..)),h⟩
    ·exact ih (fun p hp=>hm p (List.mem_cons_of_mem _ hp)) h
  exact this G (fun _ h=>h) H
 |func f=>exact .inr ⟨_,fun c a _ _ => .fn _ _ _ _ _ rfl rfl (fun j x v h=>by simp at h) (fun j x v h=>by simp at h),H⟩
theorem bz.quiet{E:Env}{op:Op}{s:List AV}{h:List af}{x:AV}
  (H:∀ (o:Oper) (c:Cx) (a:Act),o.op=op->c.heap=h->aM E.G c->VS c s a.tmps->∃ v,(execOp a.eval o).run E.P c.w=.ok (.value v) c.w/\VR c x v):bz E op s h x h :=
 fun o c a h1 h2 h3 h4=>let ⟨v,h5,h6⟩:=H o c a h1 h2 h3 h4;⟨c,v,.inl h5,h2,h3,h6,Step.refl c h3.bS⟩
theorem QM{E:Env}{s:List AV}{h:List af}{x:Operand}{v:AV}(hx:bh E.G s x v):bz E (.move x) s h v h :=
 .quiet fun o c a h1 _ h3 h4=>⟨_,by simp only[execOp,h1];rfl,hx c a h3 h4⟩
theorem QN{E:Env}{s:List AV}{h:List af}{x:Operand}{v:AV}(hx:bh E.G s x v):bz E (.assign x) s h v h :=
 .quiet fun o c a h1 _ h3 h4=>⟨_,by simp only[execOp,h1];rfl,hx c a h3 h4⟩
end Go.aA
end
section
namespace Go.aA
open Go
section
variable {E:Env} {s:List AV} {h:List af} {c:Cx}
theorem uf{b:Bool}{v:Value}(h:VR c (.d (.bool b)) v):v=.bool b:=by cases h with|d _ _ h=>cases h;rfl
theorem ef{k:IntKind}{n:Int}{v:Value}(h:VR c (.d (.int k n)) v):v=.int k n:=by cases h with|d _ _ h=>cases h;rfl
theorem pE{l:List UInt8}{v:Value}(h:VR c (.d (.str l)) v):v=.string ⟨l.toArray⟩:=by cases h with|d _ _ h=>cases h;rfl
def VL(c:Cx)(l:List AV)(vs:List Value):Prop:=l.length=vs.length/\∀ (j:Nat) (x:AV) (v:Value),l[j]?=some x->vs[j]?=some v->VR c x v
theorem VL.nil:VL c [] []:=⟨rfl,fun j x v h=>by simp at h⟩
theorem VL.cons{x:AV}{v:Value}{l:List AV}{vs:List Value}(h:VR c x v)(hl:VL c l vs):VL c (x::l) (v::vs) :=
 ⟨by simp[hl.1],fun j y u hy hu=>by
  cases j with
  |zero=>simp at hy hu;subst hy;subst hu;exact h
  |succ j=>exact hl.2 j y u (by simpa using hy) (by simpa using hu)⟩
theorem VL.head{x:AV}{v:Value}{l:List AV}{vs:List Value}(h:VL c (x::l) (v::vs)):VR c x v/\VL c l vs :=
 ⟨h.2 0 x v rfl rfl,by simpa using h.1,fun j y u hy hu=>h.2 (j+1) y u (by simpa using hy) (by simpa using hu)⟩
theorem VL.set{x:AV}{v:Value}{l:List AV}{vs:List Value}(h:VL c l vs)(i:Nat)(hx:VR c x v):VL c (l.set i x) (vs.set i v):=by
 have:=VS.put (t:=vs.toArray) (s:=l) ⟨by simpa using h.1,fun j y u hy hu=>h.2 j y u hy (by simpa using hu)⟩ i hx;exact⟨by simpa using h.1,fun j y u hy hu=>this.2 j y u hy (by simpa using hu)⟩
theorem VL.dy:∀ {xs:List AV} {us:List Value} {cs:List AV} {os:List Value} (_:VL c cs os) (off:Nat) (_:VL c xs us),VL c (dy cs off xs) (aA.dy os off us):=by
 intro xs
 induction xs with
 |nil=>intro us cs os hc off hx;obtain rfl:us=[]:=aee hx.1.symm;exact hc
 |cons x xs ih =>
  intro us cs os hc off hx;cases us with
  |nil=>simp[VL]at hx
  |cons u us=>exact ih (hc.set off hx.head.1) (off+1) hx.head.2
theorem VL.drop{l:List AV}{vs:List Value}(h:VL c l vs)(n:Nat):VL c (l.drop n) (vs.drop n) :=
 ⟨by simp[h.1],fun j y u hy hu=>h.2 (n+j) y u (by simpa using hy) (by simpa using hu)⟩
theorem VL.take{l:List AV}{vs:List Value}(h:VL c l vs)(n:Nat):VL c (l.take n) (vs.take n) :=
 ⟨by simp[h.1],fun j y u hy hu=>by
  rw[aek]at hy hu;split at hy
  ·rename_i hj;rw[if_pos hj]at hu;exact h.2 j y u hy hu
  ·cases hy⟩
theorem VL.ug{l:List DV}{vs:List Value}(hl:l.length=vs.length)(h:∀ (j:Nat) (x:DV) (v:Value),l[j]?=some x->vs[j]?=some v->VD c.bad c.w x v):VL c (l.map .d) vs :=
 ⟨by simpa using hl,fun j y u hy hu=>by
  rw[ad1]at hy;cases hx:l[j]? with
  |none=>rw[hx]at hy;cases hy
  |some x=>rw[hx]at hy;cases hy;exact .d _ _ (h j x u hx hu)⟩
theorem VL.pF{l:List DV}{vs:List Value}(h:VL c (l.map .d) vs):∀ (j:Nat) (x:DV) (v:Value),l[j]?=some x->vs[j]?=some v->VD c.bad c.w x v:=fun j x v hx hv=>by
 have:=h.2 j (.d x) v (by rw[ad1,hx];rfl) hv;cases this with|d _ _ h=>exact h
theorem Step.vl{c c':Cx}(h:Step c c'){l:List AV}{vs:List Value}(hv:VL c l vs):VL c' l vs:=⟨hv.1,fun j x v hx hu=>h.vr (hv.2 j x v hx hu)⟩
theorem wE{l:List AV}{vs:List Value}(h:VL c l vs):VR c (.agg l) (.agg vs.toArray) :=
 .agg l vs.toArray (by simpa using h.1) (fun j x v hx hv=>h.2 j x v hx (by simpa using hv))
theorem yD{l:List AV}{k:AV->Prop}(H:wB l k):∃ v,k v/\∀ (c:Cx) (vs:List Value),VL c l vs->VR c v (.agg vs.toArray):=by
 unfold wB at H;rcases yB l (k (.agg l)) (fun l'=>k (.d (.agg l')))with⟨l',h1,h2⟩|h2
 ·rw[h2]at H;refine⟨_,H,fun c vs hv => .d _ _ (.agg _ _ (by have:=hv.1;rw[h1]at this;simpa using this) ?_)⟩;rw[h1]at hv;exact fun j x v hx eK=>hv.pF j x v hx (by simpa using eK)
 ·rw[h2]at H;exact⟨_,H,fun c vs hv=>wE hv⟩
theorem En{l:List DV}{v:Value}(h:VR c (.d (.agg l)) v):∃ vs:List Value,v=.agg vs.toArray/\VL c (l.map .d) vs:=by
 cases h with
 |d _ _ h=>cases h with
  |agg _ vs hl hv=>exact⟨vs.toList,by simp,.ug (by simpa using hl) (fun j x v hx hu=>hv j x v hx (by simpa using hu))⟩
theorem pG{l:List AV}{v:Value}(h:VR c (.agg l) v):∃ vs:List Value,v=.agg vs.toArray/\VL c l vs:=by
 cases h with
 |agg _ vs hl hv=>exact⟨vs.toList,by simp,by simpa using hl,fun j x v hx hu=>hv j x v hx (by simpa using hu)⟩
theorem yE{bad:Nat->Prop}{w:World}{x:DV}{v:Value}(h:VD bad w x v)(h1:x.fm=true):v.oneCell'=true:=by
 cases h<;>first|rfl|assumption|cases h1
theorem Eo{x:AV}{v:Value}(h:VR c x v)(h1:x.fm=true):v.oneCell'=true:=by
 cases h with
 |d y v hy=>exact yE hy h1
 |_=>first|rfl|assumption|cases h1
theorem cells_one{v:Value}(h:v.oneCell'=true):v.cells = #[v]:=by
 cases v<;>first|rfl|cases h
def Ep(x:AV)(l:List AV):Prop:=∀ (c:Cx) (v:Value),VR c x v->∃ vs:List Value,v.cells=vs.toArray/\VL c l vs
theorem Bs{x:AV}{stop:Prop}{k:List AV->Prop}(H:wC x stop k):stop\/∃ l,Ep x l/\k l:=by
 unfold wC at H;split at H
 ·rename_i l;exact .inr ⟨l,fun c v hv=>(by obtain⟨vs,rfl,h⟩:=pG hv;exact⟨vs,rfl,h⟩),H⟩
 ·rename_i l;rw[ub]at H;exact .inr ⟨_,fun c v hv=>(by obtain⟨vs,rfl,h⟩:=En hv;exact⟨vs,rfl,h⟩),H⟩
 ·split at H
  ·rename_i hs;exact .inr ⟨[x],fun c v hv=>⟨[v],cells_one (Eo hv hs),.cons hv .nil⟩,H⟩
  ·exact .inl H
theorem cC{P:Program}{t:Nat}{i:bu}(h:fe P t=some i):∃ ti d,P.info? t=some ti/\P.underlying t=some d/\i.k=tk d/\i.size=ti.size/\i.bytes=ti.bytes/\i.zero=wy ti.zero:=by
 unfold fe at h;split at h
 ·rename_i ti d h1 h2;cases h;exact⟨ti,d,h1,h2,rfl,rfl,rfl,rfl⟩
 ·cases h
theorem Bt{P:Program}{t:Nat}{i:bu}(h:fe P t=some i)(w:World):(isAgg t).run P w=.ok i.k.agg w:=by
 obtain⟨ti,d,h1,h2,h3,-⟩:=cC h;rw[h3];simp only[isAgg,underlying,bind,ad9,program,h2,pure,ad2];cases d<;>rfl
theorem run_sizeOf{P:Program}{t:Nat}{i:bu}(h:fe P t=some i)(w:World):(Go.sizeOf t).run P w=.ok i.size w:=by
 obtain⟨ti,d,h1,h2,h3,h4,-⟩:=cC h;simp only[Go.sizeOf,typeInfo,bind,ad9,program,h1,pure,ad2,h4]
def Bu(w:World)(b o:Nat)(vs:List Value):Prop:=∀ j v,vs[j]?=some v->w.cell? ⟨b,o+j,none⟩=some v
theorem na(b o j:Nat):(⟨b,o,none⟩:Addr).add j=⟨b,o+j,none⟩:=by unfold Addr.add;split<;>simp_all
theorem QO{P:Program}{t:Nat}{i:bu}(h:fe P t=some i){w:World}{b o:Nat}{vs:List Value}(hr:Bu w b o vs)(hs:vs.length=i.size)(fT:i.k.agg=true) :
  (Instr.loadAt t (.pointer (some ⟨b,o,none⟩))).run P w=.ok (.agg vs.toArray) w:=by
 have h1:=run_loadCells_list (P:=P) w ⟨b,o,none⟩ vs (fun j v hv=>by rw[na];exact hr j v hv);rw[hs]at h1;simp only[Instr.loadAt,Instr.sureAddr,loadVar,adT,adS,adU,Bt h,fT,run_sizeOf h,h1,if_true]
theorem QP{P:Program}{t:Nat}{i:bu}(h:fe P t=some i){w:World}{a:Addr}{v:Value}(hr:w.cell? a=some v)(fT:i.k.agg=false) :
  (Instr.loadAt t (.pointer (some a))).run P w=.ok v w:=by
 simp only[Instr.loadAt,Instr.sureAddr,loadVar,adT,adS,adU,Bt h,fT,aet,if_false,load,ad2,hr]
theorem Bv{i:bu}{l:List AV}{off:Nat}{stop:Prop}{k:AV->Prop}(H:lE i l off stop k):stop\/∃ x,k x/\∀ (P:Program) (t:Nat) (c:Cx) (b o:Nat) (vs:List Value),fe P t=some i->VL c l vs->Bu c.w b o vs ->
  ∃ v,(Instr.loadAt t (.pointer (some ⟨b,o+off,none⟩))).run P c.w=.ok v c.w/\VR c x v:=by
 unfold lE at H;split at H
 ·rename_i fT;rw[Ef,Jm]at H;split at H
  ·rename_i hl;obtain⟨x,hx,h⟩:=yD H;refine .inr ⟨x,hx,fun P t c b o vs ht hv hr=>⟨_,QO ht (b:=b) (o:=o+off) (vs:=(vs.drop off).take i.size) (fun j v hj=>?_) ?_ fT,h c _ ((hv.drop off).take _)⟩⟩
   ·rw[aek]at hj;split at hj
    ·have:=hr (off+j) v (by simpa using hj);rwa [<- ad7]at this
    ·cases hj
   ·have:=adX hl;simp only[aeu,List.length_drop]at this ⊢;rw[<- hv.1];exact this
  ·exact .inl H
 ·rename_i fT;rcases bp H with h|⟨x,hx,h⟩
  ·exact .inl h
  refine .inr ⟨x,h,fun P t c b o vs ht hv hr=>?_⟩;have ah:off<vs.length:=by
   rw[<- hv.1];rcases adV off l.length with h|h
   ·exact h
   ·rw[adW h]at hx;cases hx
  exact⟨vs[off],QP ht (hr off _ (by simp[ah])) fT,hv.2 off x _ hx (by simp[ah])⟩
end
end Go.aA
end
section
namespace Go.aA
open Go Go.RowKit
section
variable {E:Env} {s:List AV} {h:List af} {c:Cx} {G:List (Nat × DV)}
theorem Bw(b:Nat):∀ (vs:List Value) (o:Nat) (w:World),(w.setCells b o vs).os=w.os/\(w.setCells b o vs).tape=w.tape/\(w.setCells b o vs).output=w.output/\(w.setCells b o vs).heap.size=w.heap.size
 |[],_,_=>⟨rfl,rfl,rfl,rfl⟩
 |v::r,o,w=>by
  obtain⟨h1,h2,h3,h4⟩:=Bw b r (o+1) (w.setCell ⟨b,o,none⟩ v);exact⟨h1,h2,h3,h4.trans (by simp)⟩
theorem wF(b:Nat):∀ (vs:List Value) (o:Nat) (w:World) (k:Nat),k≠b->(w.setCells b o vs).heap[k]?=w.heap[k]?
 |[],_,_,_,_=>rfl
 |v::r,o,w,k,hk=>by
  have:=wF b r (o+1) (w.setCell ⟨b,o,none⟩ v) k hk;exact this.trans (Below.heap_setCell w _ v k hk)
theorem Bx(b:Nat)(ty:TypeId)(fr:Nat × Nat):∀ (vs:List Value) (o:Nat) (w:World) (cur:Array Value),w.heap[b]?=some (.cells cur ty fr) ->
  (w.setCells b o vs).heap[b]?=some (.cells (dy cur.toList o vs).toArray ty fr)
 |[],_,_,cur,hb=>by simpa [dy,World.setCells]using hb
 |v::r,o,w,cur,hb=>by
  have h1:(w.setCell ⟨b,o,none⟩ v).heap[b]?=some (.cells (cur.setIfInBounds o v) ty fr):=by
   simp only[World.setCell,aes,if_true,hb,Option.map_some];rfl
  have:=Bx b ty fr r (o+1) (w.setCell ⟨b,o,none⟩ v) _ h1
  simpa [dy,World.setCells]using this
theorem yF{β:Type}:∀ (vs:List β) (o:Nat) (l:List β),(dy l o vs).length=l.length
 |[],_,_=>rfl
 |v::r,o,l=>by simp[dy,yF r]
theorem mf{w:World}{b:Nat}{vs:Array Value}{ty:TypeId}{fr:Nat × Nat}(h:w.heap[b]?=some (.cells vs ty fr)):Bu w b 0 vs.toList:=fun j v hv=>by
 simp only[World.cell?,h,ad5]
 simpa using hv
theorem aM.cells(ho:aM G c){b:Nat}{cs:List AV}(hb:c.heap[b]?=some (.cells cs)):∃ (blk cap:Nat) (vs:Array Value) (ty:TypeId),c.own b=some (blk,cap)/\c.w.heap[blk]?=some (.cells vs ty (0,0))/\VL c cs vs.toList:=by
 obtain⟨blk,cap,vs,ty,h1,h2,h3,h4⟩:=ho.box b _ hb;exact⟨blk,cap,vs,ty,h1,h2,by simpa using h3.symm,fun j x v hx hv=>h4 j x v hx (by simpa using hv)⟩
theorem QQ(hE:E.OK){t:Nat}{x:Operand}{i:bu}(hi:E.T[t]?=some i){a:AV}(ha:bh E.G s x a){stop:Prop}{k:AV->Prop}(H:Eh i h a stop k):stop\/∃ v,k v/\bz E (.load t x) s h v h:=by
 have ht:=hE.types t i hi;have run:∀ (o:Oper) (ac:Act) (w:World) (v:Value),o.op=.load t x->(Instr.loadAt t (ac.eval x)).run E.P w=.ok v w->(execOp ac.eval o).run E.P w=.ok (.value v) w:=fun o ac w v h1 h2=>by
  simp only[execOp,h1,adT,h2,adU,adS]
 unfold Eh at H;split at H
 ·rename_i b off;rcases bp H with h1|⟨bx,hb,H⟩
  ·exact .inl h1
  split at H
  ·rename_i cs;rcases Bv H with h1|⟨v,hk,hp⟩
   ·exact .inl h1
   refine .inr ⟨v,hk,.quiet fun o c ac h1 h2 h3 h4=>?_⟩;subst h2;obtain⟨blk,cap,vs,ty,g1,g2,g3⟩:=h3.cells hb;have hv:=ha c ac h3 h4;obtain⟨u,hu,qA⟩:=hp E.P t c blk 0 vs.toList ht g3 (mf g2);refine⟨u,run o ac c.w u h1 ?_,qA⟩;generalize ac.eval x=p at hv;cases hv with
   |ptr b off cs' iX gZ cw cW =>
    rw[g1]at cW;cases cW
    rwa [ad5]at hu
   |iI b off v' cw _=>rw[hb]at cw;cases cw
  ·exact .inl H
 ·rename_i e off;have key:∀ l:List AV,l=e.cells.map .d->lE i l off stop k->stop\/∃ v,k v/\bz E (.load t x) s h v h:=fun l hl H=>by
   rcases Bv H with h1|⟨v,hk,hp⟩
   ·exact .inl h1
   refine .inr ⟨v,hk,.quiet fun o c ac h1 h2 h3 h4=>?_⟩;have hv:=ha c ac h3 h4;generalize sq:ac.eval x=p at hv;cases hv with
   |bQ _ _ blk o' f oR aJ dO bG =>
    obtain⟨u,hu,qA⟩:=hp E.P t c blk o' ((List.range e.cells.length).map f) ht (by
      rw[hl];refine .ug (by simp) (fun j y v hy hv=>?_);have hj:j<e.cells.length:=by
       rcases adV j e.cells.length with h|h
       ·exact h
       ·rw[adW h]at hy;cases hy
      simp[hj]at hv;subst hv;exact bG j y hy) (fun j v hv=>by
      rcases adV j e.cells.length with hj|hj
      ·simp[hj]at hv;subst hv;exact dO j e.cells[j] (by simp[hj])
      ·rw[adW (by simpa using hj)]at hv;cases hv)
    exact⟨u,run o ac c.w u h1 (by rw[sq];exact hu),qA⟩
  split at H
  ·rename_i l;rw[ub]at H;exact key _ rfl H
  ·rename_i qB;exact key _ (by cases e<;>first|rfl|exact absurd rfl (qB _)) H
 ·exact .inl H
theorem Jo{P:Program}{t:Nat}{i:bu}(ht:fe P t=some i){w:World}{b o:Nat}{v:Value}{vs:List Value}(hv:v.cells=vs.toArray)(hs:vs.length=i.size){cur:Array Value}{ty:TypeId}(hb:w.heap[b]?=some (.cells cur ty (0,0)))
  (iJ:o+vs.length<=cur.size) (h1:∀ u∈vs,u.oneCell'=true):(Instr.storeAt t (.pointer (some ⟨b,o,none⟩)) v).run P w=.ok () (w.setCells b o vs):=by
 have bg:=run_storeCells_cells (P:=P) b o vs 0 w (fun j hj=>by
   simp only[World.cell?,hb]
   simp;omega) (fun j hj=>by simp[World.frozen?,hb]) h1
 simp only[Instr.storeAt,Instr.sureAddr,storeVar,adT,adS,adU,run_sizeOf ht,hv];simp only[List.size_toArray,hs,ne_eq,not_true_eq_false,if_false]
 simpa using bg
theorem aM.write(ho:aM G c){b blk cap:Nat}{cs cs':List AV}{vs:Array Value}{ty:TypeId}(hb:c.heap[b]?=some (.cells cs))(bH:c.own b=some (blk,cap))(hblk:c.w.heap[blk]?=some (.cells vs ty (0,0)))
  {us:List Value} {off:Nat} (hl:cs'.length=cs.length) (hv:VL c cs' (dy vs.toList off us)) :
  let c':Cx:={ c with heap:=c.heap.set b (.cells cs'),w:=c.w.setCells blk off us }
  aM G c'/\Step c c':=by
 intro c';obtain⟨e1,e2,e3,e4⟩:=Bw blk us off c.w;have eS:b<c.heap.length:=(ho.bB b blk cap bH).2
 have hs:Step c c':={
  aE:=rfl
  bS:=ho.bS
  os:=e1
  tape:=e2
  output:=e3
  size:=Nat.le_of_eq e4.symm
  keep:=fun x _ hn=>wF blk us off c.w x (fun e=>hn b cap (by rw[e];exact bH))
  dB:=fun i x n hi _=>⟨n,hi⟩
  boxes:=fun i bx hi=>by
   by_cases bF:i=b
   ·subst bF;rw[hb]at hi;cases hi;exact .inl ⟨cs',by show(c.heap.set i _)[i]?=_;rw[aei eS],rfl,hl⟩
   ·have h':c'.heap[i]?=some bx:=by show(c.heap.set b _)[i]?=_;rw[aej (Ne.symm bF)];exact hi
    cases bx with
    |cells cs=>exact .inl ⟨cs,h',rfl,rfl⟩
    |arr g sz l=>exact .inl ⟨g,l,h',.inr ⟨rfl,rfl,rfl⟩⟩
    |map es=>exact .inl ⟨es,h',rfl⟩
    |gone=>exact h'
    |hole=>exact⟨_,h'⟩ }
 refine⟨ho.next hs (fun i x n hi=>⟨by show x<(c.w.setCells blk off us).heap.size;rw[e4];exact(ho.bB i x n hi).1,by show i<(c.heap.set b _).length;rw[List.length_set];exact(ho.bB i x n hi).2⟩) ho.inj (fun i bx hi=>?_),hs⟩;by_cases bF:i=b
 ·subst bF;have cj:(c.heap.set i (.cells cs'))[i]?=some bx:=hi;rw[aei eS]at cj;cases cj;right;have eK:=hs.vl hv;exact⟨blk,cap,(dy vs.toList off us).toArray,ty,bH,Bx blk ty (0,0) us off c.w vs hblk,by simpa using eK.1.symm,fun j x v hx hu=>eK.2 j x v hx (by simpa using hu)⟩
 ·left;have cj:(c.heap.set b (.cells cs'))[i]?=some bx:=hi;rw[aej (Ne.symm bF)]at cj;exact⟨cj,rfl,fun x n hn=>wF blk us off c.w x (fun e=>bF (ho.inj i b blk n cap (by rw[<- e];exact hn) bH))⟩
theorem QR(hE:E.OK){t:Nat}{x y:Operand}{i:bu}(hi:E.T[t]?=some i){a v:AV}(ha:bh E.G s x a)(hv:bh E.G s y v){stop:Prop}{k:List af->Prop}(H:Ei i h a v stop k):stop\/∃ h',k h'/\bz E (.store t x y) s h (.d .undef) h':=by
 have ht:=hE.types t i hi;unfold Ei at H;split at H
 ·rename_i b off;rcases bp H with h1|⟨bx,hb,H⟩
  ·exact .inl h1
  split at H
  ·rename_i cs;rcases Bs H with h1|⟨l,hl,H⟩
   ·exact .inl h1
   split at H
   ·rename_i q1 q2 q3;rw[Eg,gF]at H;refine .inr ⟨_,H,fun o c ac h1 h2 h3 h4=>?_⟩;subst h2;have hp:=ha c ac h3 h4;have hu:=hv c ac h3 h4;obtain⟨blk,cap,vs,ty,g1,g2,g3⟩:=h3.cells hb;obtain⟨us,uh,kR⟩:=hl c _ hu;have q1:=adX q1;have q2:=ad3 q2;have iJ:off+us.length<=vs.size:=by
     rw[<- kR.1];have:=g3.1;simp at this;omega
    have bZ:∀ u∈us,u.oneCell'=true:=fun u hu=>by
     obtain⟨j,hj,rfl⟩:=List.getElem_of_mem hu;have oU:j<l.length:=by rw[kR.1];exact hj
     exact Eo (kR.2 j l[j] us[j] (by simp[oU]) (by simp[hj])) (ad'.1 q3 _ (List.getElem_mem oU))
    have cK:(Instr.storeAt t (ac.eval x) (ac.eval y)).run E.P c.w=.ok () (c.w.setCells blk off us):=by
     generalize ac.eval x=p at hp;cases hp with
     |ptr b off cs' iX gZ cw cW =>
      rw[g1]at cW;cases cW;exact Jo ht uh (by rw[<- kR.1];exact q1) g2 iJ bZ
     |iI b off v' cw _=>rw[hb]at cw;cases cw
    obtain⟨w1,w2⟩:=h3.write (cs':=dy cs off l) (us:=us) (off:=off) hb g1 g2 (yF _ _ _) (VL.dy g3 off kR);refine⟨_,Go.undef,.inr ⟨?_,rfl⟩,rfl,w1,.d _ _ .undef,w2⟩;simp only[execOp,h1,adT,cK,adU,adS]
   ·exact .inl H
  ·exact .inl H
 ·exact .inl H
def Cx.add(c:Cx)(bx:af)(cap:Nat)(o:Obj):Cx:={ c with own:=fun i=>if i=c.heap.length then some (c.w.heap.size,cap)else c.own i,heap:=c.heap++[bx],w:=c.w.alloc o }
theorem aM.add(ho:aM G c)(bx:af)(cap:Nat)(o:Obj):Step c (c.add bx cap o)/\(ka (c.add bx cap o) c.heap.length bx->aM G (c.add bx cap o)):=by
 have bI:∀ i b n,c.own i=some (b,n)->i≠c.heap.length:=fun i b n hi e=>by have:=(ho.bB i b n hi).2;omega
 have hs:Step c (c.add bx cap o):={
  aE:=rfl
  bS:=ho.bS
  os:=rfl
  tape:=rfl
  output:=rfl
  size:=by simp[Cx.add]
  keep:=fun x hx _=>Below.heap_alloc c.w o x hx
  dB:=fun i x n hi hx=>by
   simp only[Cx.add]at hi;split at hi
   ·cases hi;omega
   ·exact⟨n,hi⟩
  boxes:=fun i b hi=>by
   have ah:i<c.heap.length:=by
    rcases adV i c.heap.length with h|h
    ·exact h
    ·rw[adW h]at hi;cases hi
   have h':(c.add bx cap o).heap[i]?=some b:=by simp only[Cx.add];rw[ael ah];exact hi
   have qC:(c.add bx cap o).own i=c.own i:=by simp only[Cx.add];rw[if_neg (by omega)]
   cases b with
   |cells cs=>exact .inl ⟨cs,h',qC,rfl⟩
   |arr g sz l=>exact .inl ⟨g,l,h',.inr ⟨rfl,rfl,qC⟩⟩
   |map es=>exact .inl ⟨es,h',qC⟩
   |gone=>exact h'
   |hole=>exact⟨_,h'⟩ }
 refine⟨hs,fun iY=>ho.next hs ?_ ?_ ?_⟩
 ·intro i b n hi;simp only[Cx.add]at hi ⊢;split at hi
  ·cases hi;simp;omega
  ·have:=ho.bB i b n hi;simp;omega
 ·intro i j b n m hi hj;simp only[Cx.add]at hi hj;split at hi<;>split at hj
  ·omega
  ·cases hi;have:=(ho.bB j _ _ hj).1;omega
  ·cases hj;have:=(ho.bB i _ _ hi).1;omega
  ·exact ho.inj i j b n m hi hj
 ·intro i b hi;by_cases ga:i=c.heap.length
  ·subst ga;right;have:b=bx:=by simp[Cx.add]at hi;exact hi.symm
   subst this;exact iY
  ·left;have ah:i<c.heap.length:=by
    rcases adV i c.heap.length with h|h
    ·exact h
    ·rw[adW (by simp[Cx.add];omega)]at hi;cases hi
   refine⟨?_,by simp only[Cx.add];rw[if_neg ga],fun x n hn=>Below.heap_alloc c.w o x (ho.bB i x n hn).1⟩;simp only[Cx.add]at hi
   rwa [ael ah]at hi
theorem aM.Er(ho:aM G c){cs:List AV}{vs:List Value}(hv:VL c cs vs)(ty:TypeId) :
  let c':=c.add (.cells cs) 0 (.cells vs.toArray ty)
  aM G c'/\Step c c'/\VR c' (.ptr c.heap.length 0) (.pointer (some ⟨c.w.heap.size,0,none⟩)):=by
 intro c';obtain⟨h1,h2⟩:=ho.add (.cells cs) 0 (.cells vs.toArray ty);have e1:c'.own c.heap.length=some (c.w.heap.size,0):=by simp[c',Cx.add]
 have eK:=h1.vl hv;refine⟨h2 ⟨c.w.heap.size,0,vs.toArray,ty,e1,heap_alloc_new _ _,by simpa using hv.1.symm,fun j x v hx hu=>eK.2 j x v hx (by simpa using hu)⟩,h1,.ptr _ _ cs _ 0 ?_ e1⟩;simp[c',Cx.add]
theorem QS{t:Nat}{x:Operand}{v:AV}(hv:bh E.G s x v){l:List AV}(hl:Ep v l):bz E (.box t x) s h (.ptr h.length 0) (h++[.cells l]):=fun o c a h1 h2 h3 h4=>by
 subst h2;obtain⟨us,uh,kR⟩:=hl c _ (hv c a h3 h4);obtain⟨w1,w2,w3⟩:=h3.Er kR t;refine⟨_,_,.inl ?_,rfl,w1,w3,w2⟩;simp only[execOp,h1,Instr.box,newVar,newRow,newObj,adT,ad2,adU,adS,uh];rfl
theorem Jp:∀ {vs:List Value} {l:List DV},yA (vs.map tZ)=some l->l.length=vs.length/\∀ (j:Nat) (x:DV) (v:Value),l[j]?=some x->vs[j]?=some v->tZ v=some x
 |[],l,h=>by cases h;exact⟨rfl,fun j x v h=>by simp at h⟩
 |v::vs,l,h=>by
  simp only[ad0]at h;cases hv:tZ v with
  |none=>rw[hv]at h;cases h
  |some x =>
   rw[hv]at h;simp only[yA,ad8]at h;obtain⟨l',h1,rfl⟩:=h;obtain⟨h2,h3⟩:=Jp h1;refine⟨by simp[h2],fun j y u hy hu=>?_⟩;cases j with
   |zero=>simp at hy hu;subst hy;subst hu;exact hv
   |succ j=>exact h3 j y u (by simpa using hy) (by simpa using hu)
theorem Jq{P:Program}{t:Nat}{i:bu}(ht:fe P t=some i)(hz:i.zero.length=i.size)(cS:0<i.size):∃ z:Value,(∀ w,(zeroValue t).run P w=.ok z w)/\∀ c:Cx,∃ vs:List Value,z.cells=vs.toArray/\VL c (i.zero.map .d) vs:=by
 obtain⟨ti,d,h1,h2,h3,h4,h5,h6⟩:=cC ht;cases oa:ti.zero with
 |none=>rw[h6,oa]at hz;simp[wy]at hz;omega
 |some z =>
  rw[h6,oa]at hz;simp only[wy,Option.bind_some]at hz;cases ha:yA (z.cells.toList.map tZ)with
  |none=>rw[ha]at hz;simp at hz;omega
  |some l =>
   refine⟨z,fun w=>by simp only[zeroValue,typeInfo,bind,ad9,program,h1,pure,ad2,oa],fun c=>⟨z.cells.toList,by simp,?_⟩⟩;have:i.zero=l:=by rw[h6,oa];simp[wy,ha]
   rw[this];obtain⟨g1,g2⟩:=Jp ha;exact .ug g1 (fun j x v hx hu=>Jk (g2 j x v hx hu))
theorem QT(hE:E.OK){t:Nat}{i:bu}(hi:E.T[t]?=some i)(hz:i.zero.length=i.size)(cS:0<i.size):bz E (.alloc t) s h (.ptr h.length 0) (h++[.cells (i.zero.map .d)]):=fun o c a h1 h2 h3 h4=>by
 subst h2;obtain⟨z,gG,iK⟩:=Jq (hE.types t i hi) hz cS;obtain⟨us,uh,kR⟩:=iK c;obtain⟨w1,w2,w3⟩:=h3.Er kR t;refine⟨_,_,.inl ?_,rfl,w1,w3,w2⟩;simp only[execOp,h1,Instr.alloc,newVar,newRow,newObj,adT,ad2,adU,adS,gG,uh];rfl
end
end Go.aA
end
section
namespace Go.aA
open Go Go.RowKit
section
variable {E:Env} {s:List AV} {h:List af} {c:Cx} {G:List (Nat × DV)}
theorem QU{x a b:Operand}{v:AV}(hx:bh E.G s x (.d (.bool true)))(ha:bh E.G s a v):bz E (.pick x a b) s h v h :=
 .quiet fun o c ac h1 _ h3 h4=>⟨_,by simp only[execOp,h1,uf (hx c ac h3 h4),asBool,adT,adS,adU,if_true],ha c ac h3 h4⟩
theorem QV{x a b:Operand}{v:AV}(hx:bh E.G s x (.d (.bool false)))(hb:bh E.G s b v):bz E (.pick x a b) s h v h :=
 .quiet fun o c ac h1 _ h3 h4=>⟨_,by simp only[execOp,h1,uf (hx c ac h3 h4),asBool,adT,adS,adU];rfl,hb c ac h3 h4⟩
theorem wG(op:BinOp)(t:TypeId)(x y:Operand)(j j':IntKind)(a b:Int):eqGuard op t x y (.int j a) (.int j' b)=pure ():=by
 unfold eqGuard;cases op<;>rfl
theorem QW(op:BinOp)(t:TypeId)(x y:Operand)(a b:ByteArray):eqGuard op t x y (.string a) (.string b)=pure ():=by
 unfold eqGuard;cases op<;>rfl
theorem QX(op:BinOp)(t:TypeId)(x y:Operand)(a b:Bool):eqGuard op t x y (.bool a) (.bool b)=pure ():=by
 unfold eqGuard;cases op<;>rfl
theorem sr{j j':IntKind}(h:IntKind.same j j'=true):j=j':=by
 cases j<;>cases j'<;>first|rfl|cases h
theorem qD{P:Program}{o:Oper}{ac:Act}{w:World}{op:BinOp}{t t':TypeId}{x y:Operand}{u:Value}(h1:o.op=.binOp op t x y t')(hg:eqGuard op t x y (ac.eval x) (ac.eval y)=pure ())
  (h:(binOp op t (ac.eval x) (ac.eval y)).run P w=.ok u w):(execOp ac.eval o).run P w=.ok (.value u) w:=by
 simp only[execOp,h1,hg,adT,adS,adU,h]
theorem ok_int{op:BinOp}{t t':TypeId}{x y:Operand}{j:IntKind}{a b:Int}(hx:bh E.G s x (.d (.int j a)))(hy:bh E.G s y (.d (.int j b))){stop:Prop}{k:AV->Prop}(H:Ej op j a b stop k) :
  stop\/∃ v,k v/\bz E (.binOp op t x y t') s h v h:=by
 unfold Ej at H;split at H;all_goals first
  |exact .inl H
  |refine .inr ⟨_,H,.quiet fun o c ac h1 _ h3 h4=>?_⟩
   have e1:=ef (hx c ac h3 h4);have e2:=ef (hy c ac h3 h4)
   refine⟨_,qD h1 (by rw[e1,e2];exact wG ..) (u:=?_) (by
    rw[e1,e2];simp only[binOp,ne_eq,not_true_eq_false,if_false,Op.intArith,Op.intCmp]
    rfl),.d _ _ (by constructor)⟩
theorem QY{op:BinOp}{t t':TypeId}{x y:Operand}{a b:List UInt8}(hx:bh E.G s x (.d (.str a)))(hy:bh E.G s y (.d (.str b))){stop:Prop}{k:AV->Prop}(H:Ek op a b stop k) :
  stop\/∃ v,k v/\bz E (.binOp op t x y t') s h v h:=by
 have tl:∀ l:List UInt8,(ByteArray.mk l.toArray).toList=l:=fun l=>by simp
 unfold Ek at H;split at H;all_goals first
  |exact .inl H
  |refine .inr ⟨_,H,.quiet fun o c ac h1 _ h3 h4=>?_⟩
   have e1:=pE (hx c ac h3 h4);have e2:=pE (hy c ac h3 h4)
   refine⟨_,qD h1 (by rw[e1,e2];exact QW ..) (u:=?_) (by
    rw[e1,e2];simp only[binOp,Op.stringOp,tl]
    rfl),.d _ _ (by constructor)⟩
theorem Jr{op:BinOp}{t t':TypeId}{x y:Operand}{i:bu}(ht:fe E.P t=some i){a b:Bool}(hx:bh E.G s x (.d (.bool a)))(hy:bh E.G s y (.d (.bool b)))(hk:i.k=.bool)(v:Bool)
  (cn:op=.eql/\v=(a==b)\/op=.neq/\v = !(a==b)):bz E (.binOp op t x y t') s h (.d (.bool v)) h :=
 .quiet fun o c ac h1 _ h3 h4=>by
  have e1:=uf (hx c ac h3 h4);have e2:=uf (hy c ac h3 h4);obtain⟨ti,d,g1,g2,g3,-⟩:=cC ht;have hd:d=.bool:=by rw[hk]at g3;cases d<;>first|rfl|cases g3
  subst hd;have heq:∀ w,(Op.equal t (.bool a) (.bool b)).run E.P w=.ok (a==b) w:=fun w=>by
   have:∀ n,(Op.equalIn (n+1) t (.bool a) (.bool b)).run E.P w=.ok (a==b) w:=fun n=>by
    rw[Op.equalIn];simp only[adT,run_underlying g2,adU,adS]
   exact this 9999
  refine⟨_,qD h1 (by rw[e1,e2];exact QX ..) (u := .bool v) ?_,.d _ _ (.bool v)⟩;rw[e1,e2];rcases cn with⟨rfl,rfl⟩|⟨rfl,rfl⟩<;>simp only[binOp,adT,heq,adU,adS]
theorem Js{op:BinOp}{t t':TypeId}{x y:Operand}{j:IntKind}{a:Int}(cn:op=.quo\/op=.rem)(hx:bh E.G s x (.d (.int j a))){stop:Prop}{k:AV->Prop}(H:Bp op j a y stop k) :
  stop\/∃ v,k v/\bz E (.binOp op t x y t') s h v h:=by
 unfold Bp at H;split at H
 ·rename_i j' m;have aJ:¬ (Int.ofNat (m+1)=0):=by intro h;cases h
  rcases cn with rfl|rfl
  ·dsimp only at H;split at H
   ·rename_i hs;obtain rfl:=sr hs;refine .inr ⟨_,H,.quiet fun o c ac h1 _ h3 h4=>⟨_,qD h1 (by rw[ef (hx c ac h3 h4)];exact wG ..) (u := .int j (j.wrap (a.tdiv (.ofNat (m+1))))) ?_,.d _ _ (.int _ _)⟩⟩;rw[ef (hx c ac h3 h4)];simp only[Act.eval,binOp,ne_eq,not_true_eq_false,if_false,Op.intDiv,aJ,adS]
   ·exact .inl H
  ·dsimp only at H;split at H
   ·rename_i hs;obtain rfl:=sr hs;refine .inr ⟨_,H,.quiet fun o c ac h1 _ h3 h4=>⟨_,qD h1 (by rw[ef (hx c ac h3 h4)];exact wG ..) (u := .int j (a.tmod (.ofNat (m+1)))) ?_,.d _ _ (.int _ _)⟩⟩;rw[ef (hx c ac h3 h4)];simp only[Act.eval,binOp,ne_eq,not_true_eq_false,if_false,Op.intDiv,aJ,adS]
   ·exact .inl H
 ·exact .inl H
theorem QZ{op:BinOp}(cn:op ≠ .quo/\op ≠ .rem){t t':TypeId}{x y:Operand}{i:bu}(ht:fe E.P t=some i){a b:AV}(hx:bh E.G s x a)(hy:bh E.G s y b){stop:Prop}{k:AV->Prop}(H:El i op a b stop k) :
  stop\/∃ v,k v/\bz E (.binOp op t x y t') s h v h:=by
 unfold El at H;split at H
 ·split at H
  ·rename_i hs;obtain rfl:=sr hs;exact ok_int hx hy H
  ·exact .inl H
 ·exact QY hx hy H
 ·split at H
  ·rename_i hk;exact .inr ⟨_,H,Jr ht hx hy hk _ (.inl ⟨rfl,rfl⟩)⟩
  ·rename_i hk;exact .inr ⟨_,H,Jr ht hx hy hk _ (.inr ⟨rfl,rfl⟩)⟩
  ·exact .inl H
 ·exact .inl H
theorem Q0{t:TypeId}{x:Operand}{b:Bool}(hx:bh E.G s x (.d (.bool b))):bz E (.unOp .not t x) s h (.d (.bool !b)) h :=
 .quiet fun o c ac h1 _ h3 h4=>⟨.bool !b,by simp only[execOp,h1,uf (hx c ac h3 h4),Op.unary,adT,adS,adU],.d _ _ (.bool _)⟩
theorem Q1{t:TypeId}{x:Operand}{j:IntKind}{n:Int}(hx:bh E.G s x (.d (.int j n))):bz E (.unOp .neg t x) s h (.d (.int j (j.wrap (0-n)))) h :=
 .quiet fun o c ac h1 _ h3 h4=>⟨.int j (j.wrap (0-n)),by simp only[execOp,h1,ef (hx c ac h3 h4),Op.unary,Op.intArith,adT,adS,adU],.d _ _ (.int _ _)⟩
theorem Q2{x:Operand}{n:Nat}{l:List AV}(hx:bh E.G s x (.aF l)){v:AV}(hv:l[n]?=some v):bz E (.extract x n) s h v h :=
 .quiet fun o c ac h1 _ h3 h4=>by
  have:=hx c ac h3 h4;generalize he:ac.eval x=u at this;cases this with
  |aF _ vs hl bG =>
   have hn:n<vs.size:=by
    rw[<- hl];rcases adV n l.length with h|h
    ·exact h
    ·rw[adW h]at hv;cases hv
   exact⟨vs[n],by simp only[execOp,h1,he,Instr.extract,adT,adS,adU,aev hn],bG n v vs[n] hv (by simp[hn])⟩
theorem Q3{x:Operand}{n:Nat}{l:List DV}(hx:bh E.G s x (.d (.aF l))){v:DV}(hv:l[n]?=some v):bz E (.extract x n) s h (.d v) h :=
 .quiet fun o c ac h1 _ h3 h4=>by
  have:=hx c ac h3 h4;generalize he:ac.eval x=u at this;cases this with
  |d _ _ hd=>cases hd with
   |aF _ vs hl bG =>
    have hn:n<vs.size:=by
     rw[<- hl];rcases adV n l.length with h|h
     ·exact h
     ·rw[adW h]at hv;cases hv
    exact⟨vs[n],by simp only[execOp,h1,he,Instr.extract,adT,adS,adU,aev hn],.d _ _ (bG n v vs[n] hv (by simp[hn]))⟩
theorem wH{d:TypeDesc}{j:IntKind}(h:TK.int j=tk d):d=.int j:=by cases d<;>first|cases h<;>rfl|cases h
theorem ss{d:TypeDesc}(h:TK.string=tk d):d=.string:=by cases d<;>first|rfl|cases h
theorem lF{d:TypeDesc}{e:Nat}(h:TK.slice e=tk d):d=.slice e:=by cases d<;>first|cases h<;>rfl|cases h
theorem wI{d:TypeDesc}{n e:Nat}(h:TK.array n e=tk d):d=.array n e:=by cases d<;>first|cases h<;>rfl|cases h
theorem qE{d:TypeDesc}{fs:List (Nat × Nat)}(h:TK.struct fs=tk d):∃ fl,d=.struct fl/\fs=fl.toList.map fun f=>(f.offset,f.type):=by
 cases d with
 |struct fl=>exact⟨fl,rfl,by injection h⟩
 |_=>cases h
theorem Q4{t0 t:TypeId}{x:Operand}{i i0:bu}(ht:fe E.P t=some i)(Es:fe E.P t0=some i0){j j':IntKind}{n:Int}(hk:i.k=.int j)(hx:bh E.G s x (.d (.int j' n))):bz E (.convert t0 t x) s h (.d (.int j (j.wrap n))) h :=
 .quiet fun o c ac h1 _ h3 h4=>by
  obtain⟨ti,d,g1,g2,g3,-⟩:=cC ht;obtain⟨By,d0,k1,k2,-⟩:=cC Es;obtain rfl:=wH (hk.symm.trans g3);refine⟨.int j (j.wrap n),?_,.d _ _ (.int _ _)⟩;simp only[execOp,h1,ef (hx c ac h3 h4),convert,adT,run_underlying k2,run_underlying g2,adU,Conv.intToInt,adS]
theorem Q5{t0 t:TypeId}{x:Operand}{i i0:bu}(ht:fe E.P t=some i)(Es:fe E.P t0=some i0){l:List UInt8}(hk:i.k=.string)(hx:bh E.G s x (.d (.str l))):bz E (.convert t0 t x) s h (.d (.str l)) h :=
 .quiet fun o c ac h1 _ h3 h4=>by
  obtain⟨ti,d,g1,g2,g3,-⟩:=cC ht;obtain⟨By,d0,k1,k2,-⟩:=cC Es;obtain rfl:=ss (hk.symm.trans g3);refine⟨.string ⟨l.toArray⟩,?_,.d _ _ (.str _)⟩;simp only[execOp,h1,pE (hx c ac h3 h4),convert,adT,run_underlying k2,run_underlying g2,adU,adS]
end
end Go.aA
end
section
namespace Go.aA
open Go Go.RowKit
section
variable {E:Env} {s:List AV} {h:List af} {c:Cx} {G:List (Nat × DV)}
theorem Q6{P:Program}{t f off ft:Nat}{i fi:bu}(ht:fe P t=some i)(Q7:fe P ft=some fi)(cS:0<fi.size){fs:List (Nat × Nat)}(hk:i.k=.struct fs)(hf:fs[f]?=some (off,ft))(w:World)(b o:Nat) :
  (Instr.fieldAt t (.pointer (some ⟨b,o,none⟩)) f).run P w=.ok (.pointer (some ⟨b,o+off,none⟩)) w:=by
 obtain⟨ti,d,g1,g2,g3,-⟩:=cC ht;obtain⟨fl,rfl,rfl⟩:=qE (hk.symm.trans g3);simp only[ad1,ad8]at hf;obtain⟨fd,hf,su⟩:=hf;simp only[Prod.mk.injEq]at su;obtain⟨rfl,rfl⟩:=su;have Et:fl[f]?=some fd:=by simpa using hf
 have hz:¬ (fi.size=0):=by omega
 simp only[Instr.fieldAt,adT,run_underlying g2,adU,Et,Instr.sureAddr,adS,fieldPlace,run_sizeOf Q7,hz,if_false,na]
theorem Jt{i:bu}{f:Nat}{stop:Prop}{k:Nat->Nat->Prop}(H:Bq i f stop k):stop\/∃ fs off ft,i.k=.struct fs/\fs[f]?=some (off,ft)/\k off ft:=by
 unfold Bq at H;split at H
 ·rename_i fs hk;rcases bp H with h|⟨p,hp,h⟩
  ·exact .inl h
  ·exact .inr ⟨fs,p.1,p.2,hk,hp,h⟩
 ·exact .inl H
theorem Eu(hE:E.OK){t f off ft:Nat}{x:Operand}{i fi:bu}(hi:E.T[t]?=some i)(gN:E.T[ft]?=some fi)(cS:0<fi.size){fs:List (Nat × Nat)}(hk:i.k=.struct fs)(hf:fs[f]?=some (off,ft)){a a':AV}(ha:bh E.G s x a)
  (Ev:(∃ b o,a=.ptr b o/\a'=.ptr b (o+off)/\∃ cs,h[b]?=some (.cells cs))\/(∃ e o,a=.bQ e o/\a'=.bQ e (o+off))\/(∃ b g i o ts l,a=.cX b g i o/\a'=.cX b g i (o+off)/\h[b]?=some (.arr g ts l))) :
  bz E (.fieldAddr t x f) s h a' h := .quiet fun o c ac h1 h2 h3 h4=>by
 subst h2;have hv:=ha c ac h3 h4;have run:=Q6 (hE.types t i hi) (hE.types ft fi gN) cS hk hf;generalize hp:ac.eval x=p at hv;have fin:∀ blk o',p=.pointer (some ⟨blk,o',none⟩)->(execOp ac.eval o).run E.P c.w=.ok (.value (.pointer (some ⟨blk,o'+off,none⟩))) c.w:=fun blk o' e=>by
  simp only[execOp,h1,hp,e,adT,run,adU,adS]
 rcases Ev with⟨b,o1,rfl,rfl,cs,hb⟩|⟨e,o1,rfl,rfl⟩|⟨b,g,j,o1,ts,l,rfl,rfl,hb⟩
 ·cases hv with
  |ptr _ _ cs blk cap k1 k2=>exact⟨_,fin blk o1 rfl,.ptr _ _ cs blk cap k1 k2⟩
  |iI _ _ _ k1 _=>rw[hb]at k1;cases k1
 ·cases hv with
  |bQ _ _ blk o' fv k1 k2 k3 k4=>exact⟨_,fin blk (o'+o1) rfl,by rw[ad7];exact .bQ _ _ blk o' fv k1 k2 k3 k4⟩
 ·cases hv with
  |cX _ _ _ _ ts l blk cap k1 k2 k3=>exact⟨_,fin blk (j*ts.2+o1) rfl,by rw[ad7];exact .cX _ _ _ _ ts l blk cap k1 k2 k3⟩
  |mc _ _ g' _ _ _ _ _ k1 k2 _=>rw[hb]at k1;cases k1;omega
  |me _ _ _ _ _ k1 _=>rw[hb]at k1;cases k1
theorem Q8{P:Program}{t:Nat}{i:bu}(ht:fe P t=some i)(w:World)(vs:List Value)(off:Nat)(fT:i.k.agg=true) :
  (part t vs.toArray off).run P w=.ok (.agg ((vs.drop off).take i.size).toArray) w:=by
 have:vs.toArray.extract off (off+i.size)=((vs.drop off).take i.size).toArray:=by
  simp[List.extract_eq_take_drop]
 simp only[part,adT,Bt ht,fT,adU,if_true,run_sizeOf ht,adS,this]
theorem yG{P:Program}{t:Nat}{i:bu}(ht:fe P t=some i)(w:World)(vs:List Value)(off:Nat)(v:Value)(hv:vs[off]?=some v)(fT:i.k.agg=false) :
  (part t vs.toArray off).run P w=.ok v w:=by
 have:vs.toArray[off]?=some v:=by simpa using hv
 simp only[part,adT,Bt ht,fT,adU,aet,if_false,this,adS]
theorem Q9{i:bu}{l:List AV}{off:Nat}{stop:Prop}{k:AV->Prop}(H:lE i l off stop k):stop\/∃ x,k x/\∀ (P:Program) (t:Nat) (c:Cx) (vs:List Value),fe P t=some i->VL c l vs ->
  ∃ v,(part t vs.toArray off).run P c.w=.ok v c.w/\VR c x v:=by
 unfold lE at H;split at H
 ·rename_i fT;rw[Ef,Jm]at H;split at H
  ·obtain⟨x,hx,h⟩:=yD H;refine .inr ⟨x,hx,fun P t c vs ht hv=>⟨_,?_,h c _ ((hv.drop off).take _)⟩⟩;exact Q8 ht c.w vs off fT
  ·exact .inl H
 ·rename_i fT;rcases bp H with h|⟨x,hx,h⟩
  ·exact .inl h
  refine .inr ⟨x,h,fun P t c vs ht hv=>?_⟩;have ah:off<vs.length:=by
   rw[<- hv.1];rcases adV off l.length with h|h
   ·exact h
   ·rw[adW h]at hx;cases hx
  exact⟨vs[off],yG ht c.w vs off _ (by simp[ah]) fT,hv.2 off x _ hx (by simp[ah])⟩
theorem Ju(hE:E.OK){t f off ft:Nat}{x:Operand}{i fi:bu}(hi:E.T[t]?=some i)(gN:E.T[ft]?=some fi){fs:List (Nat × Nat)}(hk:i.k=.struct fs)(hf:fs[f]?=some (off,ft)){a:AV}(ha:bh E.G s x a){l:List AV}
  (hl:∀ (c:Cx) (v:Value),VR c a v->∃ vs:List Value,v=.agg vs.toArray/\VL c l vs) {stop:Prop} {k:AV->Prop} (H:lE fi l off stop k):stop\/∃ v,k v/\bz E (.field t x f) s h v h:=by
 rcases Q9 H with h|⟨v,hv,hp⟩
 ·exact .inl h
 refine .inr ⟨v,hv,.quiet fun o c ac h1 _ h3 h4=>?_⟩;obtain⟨vs,he,iL⟩:=hl c _ (ha c ac h3 h4);obtain⟨u,hu,qA⟩:=hp E.P ft c vs (hE.types ft fi gN) iL;obtain⟨ti,d,g1,g2,g3,-⟩:=cC (hE.types t i hi);obtain⟨fl,rfl,rfl⟩:=qE (hk.symm.trans g3);simp only[ad1,ad8]at hf;obtain⟨fd,hf,su⟩:=hf;simp only[Prod.mk.injEq]at su;obtain⟨rfl,rfl⟩:=su;have Et:fl[f]?=some fd:=by simpa using hf
 refine⟨u,?_,qA⟩;simp only[execOp,h1,he,Instr.field,adT,run_underlying g2,adU,Et,asAgg,adS,hu]
theorem Ew{x:Operand}{a:AV}(ha:bh E.G s x a)
  (Ev:(∃ b o,a=.ptr b o/\∃ cs,h[b]?=some (.cells cs))\/(∃ e o,a=.bQ e o)\/(∃ b g i o ts l,a=.cX b g i o/\h[b]?=some (.arr g ts l))):bz E (.nilCheck x) s h a h := .quiet fun o c ac h1 h2 h3 h4=>by
 subst h2;have hv:=ha c ac h3 h4;refine⟨ac.eval x,?_,hv⟩;generalize hp:ac.eval x=p at hv;have fin:∀ a',p=.pointer (some a')->(execOp ac.eval o).run E.P c.w=.ok (.value p) c.w:=fun a' e=>by
  simp only[execOp,h1,hp,e];rfl
 rcases Ev with⟨b,o1,rfl,cs,hb⟩|⟨e,o1,rfl⟩|⟨b,g,j,o1,ts,l,rfl,hb⟩
 ·cases hv with
  |ptr _ _ cs blk cap k1 k2=>exact fin _ rfl
  |iI _ _ _ k1 _=>rw[hb]at k1;cases k1
 ·cases hv with
  |bQ _ _ blk o' fv k1 k2 k3 k4=>exact fin _ rfl
 ·cases hv with
  |cX _ _ _ _ ts l blk cap k1 k2 k3=>exact fin _ rfl
  |mc _ _ g' _ _ _ _ _ k1 k2 _=>rw[hb]at k1;cases k1;omega
  |me _ _ _ _ _ k1 _=>rw[hb]at k1;cases k1
def jC(G:List (Nat × DV))(s:List AV)(xs:List Operand)(vs:List AV):Prop:=∀ (c:Cx) (a:Act),aM G c->VS c s a.tmps->VL c vs (xs.map a.eval)
theorem yH{stop:Prop}:∀ {xs:List Operand} {k:List AV->Prop},uc G s xs stop k->stop\/∃ vs,jC G s xs vs/\k vs
 |[],k,H => .inr ⟨[],fun _ _ _ _ => .nil,H⟩
 |x::xs,k,H=>by
  simp only[uc]at H;rcases cu H with h|⟨v,hv,H⟩
  ·exact .inl h
  rcases yH H with h|⟨vs,eT,H⟩
  ·exact .inl h
  exact .inr ⟨v::vs,fun c a h1 h2 => .cons (hv c a h1 h2) (eT c a h1 h2),H⟩
theorem Ra{f:Fn}{a1 a2:Array Operand}{l1 l2:List AV}(h1:jC E.G s a1.toList l1)(h2:jC E.G s a2.toList l2):bz E (.makeFunc f a1 a2) s h (.fn f l1 l2) h :=
 .quiet fun o c ac e1 _ h3 h4=>by
  have g1:=h1 c ac h3 h4;have g2:=h2 c ac h3 h4;refine⟨.func f (a1.map ac.eval) (a2.map ac.eval),by simp only[execOp,e1,Instr.makeFunc,adT,adS,adU],.fn _ _ _ _ _ (by simpa using g1.1) (by simpa using g2.1) ?_ ?_⟩
  ·exact fun j x v hx hv=>g1.2 j x v hx (by simpa using hv)
  ·exact fun j x v hx hv=>g2.2 j x v hx (by simpa using hv)
theorem wJ{P:Program}{o:Oper}{ac:Act}{w:World}{args:Array Operand}{ts:Array TypeId}{x:Operand}{t:Nat}{i:bu}{n:Nat}{v:Value}(h1:o.op=.call { callee := .builtin .len,args:=args,argTypes:=ts })(hx:args.toList[0]?=some x)(ht:ts.toList[0]?=some t)(bX:fe P t=some i)(he:ac.eval x=v)
  (hv:(∃ e a cap,i.k=.slice e/\v=.slice a n cap)\/(∃ b,i.k=.string/\v=.string b/\b.size=n)):(execOp ac.eval o).run P w=.ok (.value (.int .i64 n)) w:=by
 have eh:args[0]?=some x:=by simpa using hx
 have ob:ts[0]?=some t:=by simpa using ht
 have wK:(args.map ac.eval)[0]?=some v:=by rw[Array.getElem?_map,eh];simp[he]
 obtain⟨ti,d,g1,g2,g3,-⟩:=cC bX;rcases hv with⟨e,a,cap,hk,rfl⟩|⟨b,hk,rfl,hb⟩
 ·obtain rfl:=lF (hk.symm.trans g3);simp only[execOp,h1,resolve,invoke,builtin,Builtin.len_,ob,wK,adT,adS,adU,run_underlying g2,goInt]
 ·obtain rfl:=ss (hk.symm.trans g3);simp only[execOp,h1,resolve,invoke,builtin,Builtin.len_,ob,wK,adT,adS,adU,run_underlying g2,goInt,hb]
def yI(G:List (Nat × DV))(s:List AV)(xs:List (Nat × Operand))(vs:List (Nat × AV)):Prop:=∀ (c:Cx) (a:Act),aM G c->VS c s a.tmps->vs.map (·.1)=xs.map (·.1)/\VL c (vs.map (·.2)) (xs.map fun p=>a.eval p.2)
theorem yJ{stop:Prop}:∀ {xs:List (Nat × Operand)} {k:List (Nat × AV)->Prop},ue G s xs stop k->stop\/∃ vs,yI G s xs vs/\k vs
 |[],k,H => .inr ⟨[],fun _ _ _ _=>⟨rfl,.nil⟩,H⟩
 |(n,x)::xs,k,H=>by
  simp only[ue]at H;rcases cu H with h|⟨v,hv,H⟩
  ·exact .inl h
  rcases yJ H with h|⟨vs,eT,H⟩
  ·exact .inl h
  exact .inr ⟨(n,v)::vs,fun c a h1 h2=>⟨by simp[(eT c a h1 h2).1],.cons (hv c a h1 h2) (eT c a h1 h2).2⟩,H⟩
theorem Ex(off:Nat):∀ (vs:List Value) (n:Nat) (cs:Array Value),((vs.zipIdx n).foldl (fun cs (x:Value × Nat)=>cs.setIfInBounds (off+x.2) x.1) cs)=(dy cs.toList (off+n) vs).toArray
 |[],_,cs=>by simp[dy]
 |v::r,n,cs=>by
  simp only[List.zipIdx_cons,List.foldl_cons];rw[Ex off r (n+1)];simp[dy,ad7]
theorem Bz{pl:Nat->Option (Nat × Nat)}{stop:Prop}:∀ {ps:List (Nat × AV)} {l:List AV} {k:List AV->Prop},wD pl ps l stop k->stop\/∃ l',k l' /\
  ∀ (c:Cx) (vs us:List Value),VL c l vs->VL c (ps.map (·.2)) us->∃ vs':List Value,Instr.fill pl vs.toArray ((ps.map (·.1)).zip us)=some vs'.toArray/\VL c l' vs'
 |[],l,k,H => .inr ⟨l,H,fun c vs us hv hu=>⟨vs,by simp[Instr.fill],hv⟩⟩
 |(f,x)::ps,l,k,H=>by
  simp only[wD]at H;split at H
  ·exact .inl H
  rename_i p hp;rcases Bs H with h|⟨xs,Rb,H⟩
  ·exact .inl h
  split at H
  ·rename_i q1 q2;rw[Eg]at H;rcases Bz H with h|⟨l',hk,hf⟩
   ·exact .inl h
   refine .inr ⟨l',hk,fun c vs us hv hu=>?_⟩;cases us with
   |nil=>have:=hu.1;simp at this
   |cons u us =>
    simp only[ad0]at hu ⊢;obtain⟨h1,h2⟩:=hu.head;obtain⟨cv,sx,iL⟩:=Rb c u h1;obtain⟨vs',h3,h4⟩:=hf c (dy vs p.1 cv) us (VL.dy hv p.1 iL) h2;refine⟨vs',?_,h4⟩;have q1:=adX q1;have q2:=ad3 q2;rw[iL.1]at q1 q2;rw[hv.1]at q2;simp only[aea,Instr.fill,hp];rw[if_neg (by simp[sx,q1];omega)];rw[<- h3]
    congr 1
    rw[sx];have:=Ex p.1 cv 0 vs.toArray;simp only[aew]at this;rw[<- this];simp
  ·exact .inl H
theorem Jv{P:Program}{T:List bu}(hT:∀ (t:Nat) (i:bu),T[t]?=some i->fe P t=some i){stop:Prop}:∀ {fs:List Field} {k:List (Nat × Nat)->Prop},Br T (fs.map fun f=>(f.offset,f.type)) stop k ->
  stop\/∃ pl,k pl/\fs.mapM (fun f=>(P.info? f.type).map fun i=>(f.offset,i.size))=some pl
 |[],k,H => .inr ⟨[],H,rfl⟩
 |f::fs,k,H=>by
  simp only[ad0,Br]at H;rcases bp H with h|⟨i,hi,H⟩
  ·exact .inl h
  rcases Jv hT H with h|⟨pl,hk,hp⟩
  ·exact .inl h
  obtain⟨ti,d,g1,g2,g3,g4,-⟩:=cC (hT _ _ hi);refine .inr ⟨_,hk,?_⟩;simp[List.mapM_cons,g1,hp,g4]
theorem eC{β:Type}(l:List β)(i:Nat):dJ l i=l[i]? := by
 induction l generalizing i with
 |nil=>rfl
 |cons a l ih=>cases i with
  |zero=>rfl
  |succ i=>simpa [dJ]using ih i
theorem zeroOf{P:Program}{t:Nat}{i:bu}(ht:fe P t=some i)(hz:i.zero.length=i.size)(cS:0<i.size):∃ (ti:TypeInfo) (z:Value),P.info? t=some ti/\ti.zero=some z/\i.size=ti.size/\∀ c:Cx,∃ vs:List Value,z.cells=vs.toArray/\VL c (i.zero.map .d) vs:=by
 obtain⟨ti,d,h1,h2,h3,h4,h5,h6⟩:=cC ht;obtain⟨z,gG,iK⟩:=Jq ht hz cS;cases oa:ti.zero with
 |none=>rw[h6,oa]at hz;simp[wy]at hz;omega
 |some z' =>
  have:=gG default;simp only[zeroValue,typeInfo,bind,ad9,program,h1,pure,ad2,oa,Result.ok.injEq,and_true]at this;subst this;exact⟨ti,z',h1,oa,h4,iK⟩
theorem Jw(hE:E.OK){t:Nat}{i:bu}(hi:E.T[t]?=some i){parts:Array (Nat × Operand)}{ps:List (Nat × AV)}(hI:yI E.G s parts.toList ps)(hz:i.zero.length=i.size)(cS:0<i.size){pl:Nat->Option (Nat × Nat)}{l:List AV}{v:AV}
  (hb:∀ (ti:TypeInfo) (z:Value),E.P.info? t=some ti->ti.zero=some z->∀ us,E.P.built t us=Instr.fill pl z.cells us)
  (hf:∀ (c:Cx) (vs us:List Value),VL c (i.zero.map .d) vs->VL c (ps.map (·.2)) us->∃ vs':List Value,Instr.fill pl vs.toArray ((ps.map (·.1)).zip us)=some vs'.toArray/\VL c l vs')
  (hv:∀ (c:Cx) (vs:List Value),VL c l vs->VR c v (.agg vs.toArray)):bz E (.build t parts) s h v h :=
 .quiet fun o c ac h1 _ h3 h4=>by
  obtain⟨ti,z,g1,g2,g3,g4⟩:=zeroOf (hE.types t i hi) hz cS;obtain⟨zs,jD,kS⟩:=g4 c;obtain⟨p1,p2⟩:=hI c ac h3 h4;obtain⟨vs',f1,f2⟩:=hf c zs _ kS p2;refine⟨.agg vs'.toArray,?_,hv c vs' f2⟩;have cw:=hb ti z g1 g2 (parts.map fun(i,x)=>(i,ac.eval x)).toList;have e:(parts.map fun(i,x)=>(i,ac.eval x)).toList=(ps.map (·.1)).zip (parts.toList.map fun p=>ac.eval p.2):=by
   rw[p1,aex];generalize parts.toList=q
   induction q with
   |nil=>rfl
   |cons a q ih=>simp only[ad0,aea,ih]
  rw[e,jD,f1]at cw;rw[<- e]at cw;simp only[execOp,h1,adT,run_build c.w t _ _ cw,adU,adS]
theorem Rc{P:Program}{t:Nat}{ti:TypeInfo}{z:Value}{fl:Array Field}{pl:List (Nat × Nat)}(h1:P.info? t=some ti)(h2:P.underlying t=some (.struct fl))(h3:ti.zero=some z)(h4:fl.toList.mapM (fun f=>(P.info? f.type).map fun i=>(f.offset,i.size))=some pl)(us:List (Nat × Value)) :
  P.built t us=Instr.fill (dJ pl) z.cells us:=by
 have:(dJ pl)=(pl.toArray[·]?):=funext fun i=>by rw[eC];simp
 simp only[Program.built,h1,h2,h3,h4,this]
theorem Re{P:Program}{t n e:Nat}{ti ei:TypeInfo}{z:Value}(h1:P.info? t=some ti)(h2:P.underlying t=some (.array n e))(h3:ti.zero=some z)(h4:P.info? e=some ei)(us:List (Nat × Value)) :
  P.built t us=Instr.fill (fun i=>some (i*ei.size,ei.size)) z.cells us:=by
 simp only[Program.built,h1,h2,h3,h4]
end
end Go.aA
end
section
namespace Go.aA
open Go Go.RowKit
def flat(l:List DV):List DV:=l.flatMap DV.cells
theorem Ey{β:Type}:∀ (v p a r:List β),a.length=v.length->dy (p++a++r) p.length v=p++v++r
 |[],p,a,r,h=>by obtain rfl:a=[]:=aee h;simp[dy]
 |x::v,p,a,r,h=>by
  cases a with
  |nil=>simp at h
  |cons y a =>
   have h1:(p++y::a++r).set p.length x=(p++[x])++a++r:=by simp
   have:=Ey v (p++[x]) a r (by simpa using h);simp only[aey,aef,List.length_nil,ad5]at this;rw[dy,h1,this];simp
theorem Ez(a b:List DV):flat (a++b)=flat a++flat b:=by simp[flat]
theorem oc{sz:Nat}:∀ {l:List DV},(∀ (i:Nat) (e:DV),l[i]?=some e->e.cells.length=sz)->(flat l).length=l.length*sz
 |[],_=>by simp[flat]
 |e::l,h=>by
  have h1:=h 0 e rfl;have h2:=oc (l:=l) (fun i e he=>h (i+1) e (by simpa using he));simp only[flat,aeb,aey,aef]at h2 ⊢;rw[h1,h2,aec,Nat.one_mul,aep]
theorem flat_get{sz:Nat}{l:List DV}(h:∀ (i:Nat) (e:DV),l[i]?=some e->e.cells.length=sz){i j:Nat}{e:DV}(he:l[i]?=some e)(hj:j<sz):(flat l)[i*sz+j]?=e.cells[j]? := by
 induction l generalizing i with
 |nil=>simp at he
 |cons a l ih =>
  have h0:=h 0 a rfl;cases i with
  |zero =>
   simp at he;subst he;simp only[flat,aeb,Nat.zero_mul,ad5];rw[ael (by omega)]
  |succ i =>
   have:=ih (fun i e he=>h (i+1) e (by simpa using he)) (i:=i) (by simpa using he);simp only[flat,aeb]at this ⊢;rw[List.getElem?_append_right (by rw[h0,aec];omega),h0,<- this]
   congr 1
   rw[aec];omega
theorem Rf{sz:Nat}{l:List DV}(h:∀ (i:Nat) (e:DV),l[i]?=some e->e.cells.length=sz){f:Nat}(hf:f<l.length){e:DV}(he:e.cells.length=sz):flat (l.set f e)=dy (flat l) (f*sz) e.cells:=by
 have h1:l=l.take f++l[f]::l.drop (f+1):=by simp
 have h2:l.set f e=l.take f++e::l.drop (f+1):=by rw[List.set_eq_take_append_cons_drop,if_pos hf]
 have h3:(flat (l.take f)).length=f*sz:=by
  rw[oc (sz:=sz) (fun i e he=>h i e (by rw[aek]at he;split at he;exact he;cases he)),aeu,Nat.min_eq_left (by omega)]
 have h4:=Ey e.cells (flat (l.take f)) l[f].cells (flat (l.drop (f+1))) (by rw[he];exact h f _ (by simp[hf]));have e1:flat l=flat (l.take f)++l[f].cells++flat (l.drop (f+1)):=by
  have:=congrArg flat h1;rw[Ez]at this;rw[this];simp only[flat,aeb,List.append_assoc]
 have e2:flat (l.set f e)=flat (l.take f)++e.cells++flat (l.drop (f+1)):=by rw[h2,Ez];simp[flat]
 rw[e2,e1,<- h3];exact h4.symm
section
variable {E:Env} {s:List AV} {h:List af} {c:Cx} {G:List (Nat × DV)}
theorem BA{k:List DV->Prop}{x:DV}:∀ {n:Nat},ud n x k=k (ad6 n x):=by
 intro n
 induction n generalizing k with
 |zero=>rfl
 |succ n ih=>simp only[ud,ih,List.replicate_succ]
def iM(sz:Nat)(l:List DV):Prop:=∀ (i:Nat) (e:DV),l[i]?=some e->e.cells.length=sz
theorem iM.set{sz:Nat}{l:List DV}(hl:iM sz l)(f:Nat){e:DV}(he:e.cells.length=sz):iM sz (l.set f e):=fun i e' h'=>by
 rw[aeA]at h';split at h'
 ·split at h'
  ·cases h';exact he
  ·cases h'
 ·exact hl i e' h'
def pH(l:List DV):Prop:=∀ (i:Nat) (e:DV),l[i]?=some e->∀ y∈e.cells,y.fm=true
theorem pH.set{l:List DV}(hl:pH l)(f:Nat){e:DV}(he:∀ y∈e.cells,y.fm=true):pH (l.set f e):=fun i e' h'=>by
 rw[aeA]at h';split at h'
 ·split at h'
  ·cases h';exact he
  ·cases h'
 ·exact hl i e' h'
theorem pH.flat{l:List DV}(hl:pH l):∀ x∈flat l,x.fm=true:=fun x hx=>by
 simp only[aA.flat,List.mem_flatMap]at hx;obtain⟨e,he,hx⟩:=hx;obtain⟨i,hi⟩:=List.getElem?_of_mem he;exact hl i e hi x hx
theorem EA{sz:Nat}{stop:Prop}:∀ {ps:List (Nat × AV)} {l:List DV} {k:List DV->Prop},iM sz l->pH l->oT sz ps l stop k->stop\/∃ l',k l'/\iM sz l'/\pH l'/\l'.length=l.length /\
  ∀ (c:Cx) (vs us:List Value),VL c ((flat l).map .d) vs->VL c (ps.map (·.2)) us->∃ vs':List Value,Instr.fill (fun i=>some (i*sz,sz)) vs.toArray ((ps.map (·.1)).zip us)=some vs'.toArray/\VL c ((flat l').map .d) vs'
 |[],l,k,hl,fH,H => .inr ⟨l,H,hl,fH,rfl,fun c vs us hv hu=>⟨vs,by simp[Instr.fill],hv⟩⟩
 |(f,x)::ps,l,k,hl,fH,H=>by
  have key:∀ (e:DV),x=.d e->e.cells.length=sz->(∀ y∈e.cells,y.fm=true)->f<l.length->oT sz ps (l.set f e) stop k->stop\/∃ l',k l'/\iM sz l'/\pH l'/\l'.length=l.length /\
    ∀ (c:Cx) (vs us:List Value),VL c ((flat l).map .d) vs->VL c (((f,x)::ps).map (·.2)) us->∃ vs':List Value,Instr.fill (fun i=>some (i*sz,sz)) vs.toArray ((((f,x)::ps).map (·.1)).zip us)=some vs'.toArray/\VL c ((flat l').map .d) vs':=by
   intro e hx he mg hf H';subst hx;rcases EA (hl.set f he) (fH.set f mg) H' with h|⟨l',h1,h2,iN,h3,h4⟩
   ·exact .inl h
   refine .inr ⟨l',h1,h2,iN,by simpa using h3,fun c vs us hv hu=>?_⟩;cases us with
   |nil=>have:=hu.1;simp at this
   |cons u us =>
    simp only[ad0]at hu ⊢;obtain⟨g1,g2⟩:=hu.head;have wL:∃ cv:List Value,u.cells=cv.toArray/\VL c (e.cells.map .d) cv:=by
     by_cases fT:∃ el,e=.agg el
     ·obtain⟨el,rfl⟩:=fT;obtain⟨cv,rfl,hc⟩:=En g1;exact⟨cv,rfl,hc⟩
     ·have kb:e.cells=[e]:=by cases e<;>first|rfl|exact absurd ⟨_,rfl⟩ fT
      rw[kb];refine⟨[u],?_,.cons g1 .nil⟩;cases g1 with
      |d _ _ g=>cases g<;>first|rfl|(rename_i h1;revert h1;cases u<;>intro h1<;>first|rfl|cases h1)|exact absurd ⟨_,rfl⟩ fT
    obtain⟨cv,sx,iL⟩:=wL;have wM:VL c ((flat (l.set f e)).map .d) (dy vs (f*sz) cv):=by
     rw[Rf hl hf he];have:=VL.dy hv (f*sz) iL;have hm:∀ (q:List DV) (o:Nat) (p:List DV),(dy p o q).map AV.d=dy (p.map .d) o (q.map .d):=by
      intro q
      induction q with
      |nil=>intro o p;rfl
      |cons a q ih=>intro o p;simp[dy,ih]
     rw[hm];exact this
    obtain⟨vs',f1,f2⟩:=h4 c _ us wM g2;refine⟨vs',?_,f2⟩;have si:cv.length=sz:=by rw[<- iL.1];simpa using he
    have oQ:f*sz+sz<=vs.length:=by
     have:=hv.1;rw[List.length_map,oc hl]at this;rw[<- this]
     calc f*sz+sz=(f+1)*sz:=by rw[aec,Nat.one_mul]
      _<=l.length*sz:=Nat.mul_le_mul_right _ hf
    simp only[aea,Instr.fill];rw[if_neg (by simp[sx,si];omega)];rw[<- f1]
    congr 1
    rw[sx];have:=Ex (f*sz) cv 0 vs.toArray;simp only[aew]at this;rw[<- this];simp
  cases x
  case d e =>
   simp only[oT]at H;split at H
   ·rename_i el;split at H
    ·rename_i q1 q2 q3;rw[gF]at H;exact key _ rfl (adX q1) (fun y hy=>ad'.1 q2 y hy) (ad3 q3) H
    ·exact .inl H
   ·split at H
    ·rename_i qB _ _ _ q1 q2 q3;rw[gF]at H;have kb:e.cells=[e]:=by cases e<;>first|rfl|exact absurd rfl (qB _)
     refine key _ rfl ?_ (fun y hy=>by rw[kb]at hy;simp at hy;subst hy;exact q2) (ad3 q3) H;have:=adX q1;rw[<- this,kb];rfl
    ·exact .inl H
  all_goals exact .inl H
theorem Rg{bad:Nat->Prop}{w:World}{l:List DV}{sz cap:Nat}{vs:List Value}{ty:TypeId}{fr:Nat × Nat}(bR:0<sz)(hl:iM sz l)(hb:¬ bad w.heap.size)(jB:l.length<=cap)(hlen:(flat l).length<=vs.length)(h1:∀ (x:DV),x∈flat l->x.fm=true)
  (hv:∀ (j:Nat) (x:DV) (v:Value),(flat l)[j]?=some x->vs[j]?=some v->VD bad (w.alloc (.cells vs.toArray ty fr)) x v) :
  VD bad (w.alloc (.cells vs.toArray ty fr)) (.sl l) (.slice (some ⟨w.heap.size,0,none⟩) l.length cap):=by
 have br:=mf (heap_alloc_new w (.cells vs.toArray ty fr));have at_:∀ (i j:Nat) (e x:DV),l[i]?=some e->e.cells[j]?=some x->∃ v,vs[i*sz+j]?=some v/\(flat l)[i*sz+j]?=some x:=fun i j e x he hx=>by
  have hj:j<sz:=by
   rw[<- hl i e he];rcases adV j e.cells.length with h|h
   ·exact h
   ·rw[adW h]at hx;cases hx
  have h1:=flat_get hl he hj;rw[hx]at h1;have h2:i*sz+j<(flat l).length:=by
   rcases adV (i*sz+j) (flat l).length with h|h
   ·exact h
   ·rw[adW h]at h1;cases h1
  have h3:i*sz+j<vs.length:=by omega
  exact⟨vs[i*sz+j],by simp[h3],h1⟩
 refine .sl l w.heap.size 0 cap sz (fun i j=>vs.getD (i*sz+j) undef) (fun _=>hb) bR jB hl (fun i j e x he hx=>?_) (fun i j e x he hx=>?_) (fun i j e x he hx=>?_)
 ·obtain⟨v,h1,h2⟩:=at_ i j e x he hx;have:=br (i*sz+j) v (by simpa using h1);rw[this];simp[aem,h1]
 ·obtain⟨v,h1,h2⟩:=at_ i j e x he hx;simp only[aem,h1,aeB];exact hv _ x v h2 h1
 ·obtain⟨v,h3,h2⟩:=at_ i j e x he hx;simp only[aem,h3,aeB];exact yE (hv _ x v h2 h3) (h1 x (List.mem_of_getElem? h2))
theorem Jx(hE:E.OK){t e len:Nat}{i ei:bu}(hi:E.T[t]?=some i)(bV:E.T[e]?=some ei)(hk:i.k=.slice e){parts:Array (Nat × Operand)}{ps:List (Nat × AV)}(hI:yI E.G s parts.toList ps)
  (hz:ei.zero.length=ei.size) (cS:0<ei.size) (hlen:0<len) (BB:len*ei.size<=16777216) {z:DV} (ui:z.cells=ei.zero) (jD:∀ y∈ei.zero,y.fm=true) {stop:Prop} {k:List DV->Prop} (H:oT ei.size ps (ad6 len z) stop k) :
  stop\/∃ l,k l/\bz E (.buildSlice t len parts) s h (.d (.sl l)) h:=by
 have dW:iM ei.size (ad6 len z):=fun j e' h'=>by
  rw[aeC]at h';split at h'
  ·cases h';rw[ui,hz]
  ·cases h'
 have fH:pH (ad6 len z):=fun j e' h'=>by
  rw[aeC]at h';split at h'
  ·cases h';rw[ui];exact jD
  ·cases h'
 rcases EA dW fH H with h'|⟨l,h1,h2,iN,h3,h4⟩
 ·exact .inl h'
 refine .inr ⟨l,h1,fun o c ac e1 e2 e3 e4=>?_⟩;subst e2;obtain⟨ti,zv,g1,g2,g3,g4⟩:=zeroOf (hE.types e ei bV) hz cS;obtain⟨zs,yK,kS⟩:=g4 c;obtain⟨p1,p2⟩:=hI c ac e3 e4;have mh:zs.length=ei.size:=by rw[<- kS.1];simpa using hz
 have yL:VL c ((flat (ad6 len z)).map .d) ((aeD (len*ti.size)).map (zv.cells[· % zv.cells.size]!)).toList:=by
  refine .ug (by rw[oc dW];simp[g3]) (fun j x v hx hv=>?_);have hj:j<len*ei.size:=by
   have:=oc dW;rw[List.length_replicate]at this;rw[<- this];rcases adV j (flat (ad6 len z)).length with h|h
   ·exact h
   ·rw[adW h]at hx;cases hx
  have hd:j / ei.size<len:=Nat.div_lt_of_lt_mul (by rw[aeE];exact hj);have hm:j % ei.size<ei.size:=Nat.mod_lt _ cS;have h5:=flat_get dW (i:=j / ei.size) (j:=j % ei.size) (e:=z) (by simp[hd]) hm;rw[aeE,Nat.div_add_mod,hx,ui]at h5;have eK:v=zs[j % ei.size]'(by omega):=by
   have eU:j<len*ti.size:=by rw[<- g3];exact hj
   simp[eU,yK,mh]at hv;rw[<- hv];simp[mh,hm]
  rw[eK];exact kS.pF (j % ei.size) x _ h5.symm (by simp[mh,hm])
 obtain⟨vs',f1,f2⟩:=h4 c _ _ yL p2;obtain⟨wN,d,q1,q2,q3,-⟩:=cC (hE.types t i hi);obtain rfl:=lF (hk.symm.trans q3);have eq:(parts.map fun(i,x)=>(i,ac.eval x)).toList=(ps.map (·.1)).zip (parts.toList.map fun p=>ac.eval p.2):=by
  rw[p1,aex];generalize parts.toList=q
  induction q with
  |nil=>rfl
  |cons a q ih=>simp only[ad0,aea,ih]
 have uj:Instr.fill (fun i=>some (i*ti.size,ti.size)) ((aeD (len*ti.size)).map (zv.cells[· % zv.cells.size]!)) (parts.map fun(i,x)=>(i,ac.eval x)).toList=some vs'.toArray:=by
  rw[eq,<- f1,g3]
 have cK:=run_buildSlice (P:=E.P) c.w t e len (parts.map fun(i,x)=>(i,ac.eval x)) vs'.toArray ti zv q2 g1 g2 (by rw[<- g3];omega) (by rw[<- g3];have:=Nat.mul_pos hlen cS;omega) uj;obtain⟨k1,k2⟩:=e3.grow ((Proofs.YtfmdaiojokniiaaGreatDoor.Ext.refl c.w).alloc (.cells vs'.toArray e));refine⟨c.eB (c.w.alloc (.cells vs'.toArray e)),.slice (some ⟨c.w.heap.size,0,none⟩) len len,.inl (by simp only[execOp,e1,adT,cK,adU,adS];rfl),rfl,k1,?_,k2⟩;have mi:l.length=len:=by rw[h3];simp
 rw[<- mi];refine .d _ _ (Rg cS h2 ?_ (aed _) (by have:=f2.1;simp at this;omega) iN.flat (fun j x v hx hv=>?_))
 ·rintro(hb|⟨j,n,hj⟩)
  ·have:=e3.bS _ hb;omega
  ·have:=(e3.bB j _ n hj).1;omega
 ·exact k2.vd (f2.pF j x v hx hv)
theorem iO{a b:Nat}(h:adZ a b=true):a<b:=ad3 h
theorem BC(hE:E.OK){o:Op}{stop:Prop}{k:AV->List af->Prop}(H:jZ E.T E.G o s h stop k):stop\/∃ v h',k v h'/\bz E o s h v h':=by
 unfold jZ at H;split at H
 ·
  rcases cu H with h|⟨v,hv,H⟩
  ·exact .inl h
  exact .inr ⟨v,h,H,QM hv⟩
 ·
  rcases cu H with h|⟨v,hv,H⟩
  ·exact .inl h
  exact .inr ⟨v,h,H,QN hv⟩
 ·
  rcases cu H with h|⟨v,hv,H⟩
  ·exact .inl h
  rcases Bs H with h|⟨l,hl,H⟩
  ·exact .inl h
  rw[sk,ad5]at H;exact .inr ⟨_,_,H,QS hv hl⟩
 ·
  rcases bp H with h|⟨i,hi,H⟩
  ·exact .inl h
  split at H
  ·rename_i q1 q2;rw[ub,sk,ad5]at H;exact .inr ⟨_,_,H,QT hE hi (adX q1) (iO q2)⟩
  ·exact .inl H
 ·
  rcases bp H with h|⟨i,hi,H⟩
  ·exact .inl h
  rcases cu H with h|⟨a,ha,H⟩
  ·exact .inl h
  rcases QQ hE hi ha H with h|⟨v,H,hv⟩
  ·exact .inl h
  exact .inr ⟨v,h,H,hv⟩
 ·
  rcases bp H with h|⟨i,hi,H⟩
  ·exact .inl h
  rcases cu H with h|⟨a,ha,H⟩
  ·exact .inl h
  rcases cu H with h|⟨v,hv,H⟩
  ·exact .inl h
  rcases QR hE hi ha hv H with h|⟨h',H,ho⟩
  ·exact .inl h
  exact .inr ⟨_,h',H,ho⟩
 ·
  rcases bp H with h|⟨i,hi,H⟩
  ·exact .inl h
  rcases Jt H with h|⟨fs,off,ft,hk,hf,H⟩
  ·exact .inl h
  rcases bp H with h|⟨fi,gN,H⟩
  ·exact .inl h
  split at H
  ·exact .inl H
  rename_i q;rcases cu H with h|⟨a,ha,H⟩
  ·exact .inl h
  split at H
  ·rcases bp H with h|⟨bx,hb,H⟩
   ·exact .inl h
   split at H
   ·exact .inr ⟨_,_,H,Eu hE hi gN (iO q) hk hf ha (.inl ⟨_,_,rfl,rfl,_,hb⟩)⟩
   ·exact .inl H
  ·exact .inr ⟨_,_,H,Eu hE hi gN (iO q) hk hf ha (.inr (.inl ⟨_,_,rfl,rfl⟩))⟩
  ·rcases bp H with h|⟨bx,hb,H⟩
   ·exact .inl h
   split at H
   ·split at H
    ·rename_i g' ts l _ qg;have:=adX qg;subst this;exact .inr ⟨_,_,H,Eu hE hi gN (iO q) hk hf ha (.inr (.inr ⟨_,_,_,_,_,_,rfl,rfl,hb⟩))⟩
    ·exact .inl H
   ·exact .inl H
  ·exact .inl H
 ·
  rcases bp H with h|⟨i,hi,H⟩
  ·exact .inl h
  rcases Jt H with h|⟨fs,off,ft,hk,hf,H⟩
  ·exact .inl h
  rcases bp H with h|⟨fi,gN,H⟩
  ·exact .inl h
  rcases cu H with h|⟨a,ha,H⟩
  ·exact .inl h
  split at H
  ·rcases Ju hE hi gN hk hf ha (fun c v hv=>pG hv) H with h|⟨v,H,hv⟩
   ·exact .inl h
   exact .inr ⟨_,_,H,hv⟩
  ·rw[ub]at H;rcases Ju hE hi gN hk hf ha (fun c v hv=>En hv) H with h|⟨v,H,hv⟩
   ·exact .inl h
   exact .inr ⟨_,_,H,hv⟩
  ·exact .inl H
 ·
  rcases cu H with h|⟨a,ha,H⟩
  ·exact .inl h
  split at H
  ·rcases bp H with h|⟨bx,hb,H⟩
   ·exact .inl h
   split at H
   ·exact .inr ⟨_,_,H,Ew ha (.inl ⟨_,_,rfl,_,hb⟩)⟩
   ·exact .inl H
  ·exact .inr ⟨_,_,H,Ew ha (.inr (.inl ⟨_,_,rfl⟩))⟩
  ·rcases bp H with h|⟨bx,hb,H⟩
   ·exact .inl h
   split at H
   ·split at H
    ·rename_i g' ts l _ qg;have:=adX qg;subst this;exact .inr ⟨_,_,H,Ew ha (.inr (.inr ⟨_,_,_,_,_,_,rfl,hb⟩))⟩
    ·exact .inl H
   ·exact .inl H
  ·exact .inl H
 ·
  rcases bp H with h|⟨i,hi,H⟩
  ·exact .inl h
  rcases cu H with h|⟨a,ha,H⟩
  ·exact .inl h
  rcases cu H with h|⟨b,hb,H⟩
  ·exact .inl h
  split at H
  ·split at H
   ·rcases Js (.inl rfl) ha H with h|⟨v,H,hv⟩
    ·exact .inl h
    exact .inr ⟨_,_,H,hv⟩
   ·exact .inl H
  ·split at H
   ·rcases Js (.inr rfl) ha H with h|⟨v,H,hv⟩
    ·exact .inl h
    exact .inr ⟨_,_,H,hv⟩
   ·exact .inl H
  ·rename_i n1 n2;rcases QZ ⟨n1,n2⟩ (hE.types _ _ hi) ha hb H with h|⟨v,H,hv⟩
   ·exact .inl h
   exact .inr ⟨_,_,H,hv⟩
 ·
  rcases cu H with h|⟨a,ha,H⟩
  ·exact .inl h
  split at H
  ·exact .inr ⟨_,_,H,Q0 ha⟩
  ·exact .inl H
 ·
  rcases cu H with h|⟨a,ha,H⟩
  ·exact .inl h
  split at H
  ·exact .inr ⟨_,_,H,Q1 ha⟩
  ·exact .inl H
 ·
  rcases cu H with h|⟨a,ha,H⟩
  ·exact .inl h
  split at H
  ·rcases cu H with h|⟨v,hv,H⟩
   ·exact .inl h
   exact .inr ⟨_,_,H,QU ha hv⟩
  ·rcases cu H with h|⟨v,hv,H⟩
   ·exact .inl h
   exact .inr ⟨_,_,H,QV ha hv⟩
  ·exact .inl H
 ·
  rcases cu H with h|⟨a,ha,H⟩
  ·exact .inl h
  split at H
  ·rcases bp H with h|⟨v,hv,H⟩
   ·exact .inl h
   exact .inr ⟨_,_,H,Q2 ha hv⟩
  ·rcases bp H with h|⟨v,hv,H⟩
   ·exact .inl h
   exact .inr ⟨_,_,H,Q3 ha hv⟩
  ·exact .inl H
 ·
  rcases bp H with h|⟨i0,lG,H⟩
  ·exact .inl h
  rcases bp H with h|⟨i,hi,H⟩
  ·exact .inl h
  rcases cu H with h|⟨a,ha,H⟩
  ·exact .inl h
  split at H
  ·rename_i hk;exact .inr ⟨_,_,H,Q4 (hE.types _ _ hi) (hE.types _ _ lG) hk ha⟩
  ·rename_i hk;exact .inr ⟨_,_,H,Q5 (hE.types _ _ hi) (hE.types _ _ lG) hk ha⟩
  ·exact .inl H
 ·
  rcases bp H with h|⟨i,hi,H⟩
  ·exact .inl h
  rcases yJ H with h|⟨ps,hI,H⟩
  ·exact .inl h
  split at H
  ·rename_i q1 q2;rw[ub]at H;have hz:=adX q1;have cS:=iO q2;obtain⟨ti,d,g1,g2,g3,-⟩:=cC (hE.types _ _ hi);split at H
   ·rename_i fs hk;obtain⟨fl,rfl,rfl⟩:=qE (hk.symm.trans g3);rcases Jv hE.types H with h|⟨pl,H,kc⟩
    ·exact .inl h
    rcases Bz H with h|⟨l,H,hf⟩
    ·exact .inl h
    obtain⟨v,H,hv⟩:=yD H;exact .inr ⟨_,_,H,Jw hE hi hI hz cS (fun ti z k1 k2 us=>Rc k1 g2 k2 kc us) hf hv⟩
   ·rename_i n e hk;obtain rfl:=wI (hk.symm.trans g3);rcases bp H with h|⟨ei,bV,H⟩
    ·exact .inl h
    rcases Bz H with h|⟨l,H,hf⟩
    ·exact .inl h
    obtain⟨v,H,hv⟩:=yD H;obtain⟨eti,ed,k1,k2,k3,k4,-⟩:=cC (hE.types _ _ bV);exact .inr ⟨_,_,H,Jw hE hi hI hz cS (fun ti z r1 r2 us=>by rw[Re r1 g2 r2 k1 us,k4]) hf hv⟩
   ·exact .inl H
  ·exact .inl H
 ·
  rcases bp H with h|⟨i,hi,H⟩
  ·exact .inl h
  split at H
  ·rename_i e hk;rcases bp H with h|⟨ei,bV,H⟩
   ·exact .inl h
   split at H
   ·rename_i q1 q2 q3 q4 q5;rcases yJ H with h|⟨ps,hI,H⟩
    ·exact .inl h
    split at H
    ·rename_i z gG;rw[BA]at H;have jD:z.fm=true:=by rw[gG]at q5;simpa using q5
     rcases Jx hE hi bV hk hI (adX q1) (iO q2) (iO q3) (ad3 q4) (z:=z) (by rw[gG];cases z<;>first|rfl|cases jD) (fun y hy=>ad'.1 q5 y hy) H with h|⟨l,H,hl⟩
     ·exact .inl h
     exact .inr ⟨_,_,H,hl⟩
    ·rw[BA]at H;rcases Jx hE hi bV hk hI (adX q1) (iO q2) (iO q3) (ad3 q4) (z := .agg ei.zero) rfl (fun y hy=>ad'.1 q5 y hy) H with h|⟨l,H,hl⟩
     ·exact .inl h
     exact .inr ⟨_,_,H,hl⟩
   ·exact .inl H
  ·exact .inl H
 ·
  rcases yH H with h|⟨a,ha,H⟩
  ·exact .inl h
  rcases yH H with h|⟨b,hb,H⟩
  ·exact .inl h
  exact .inr ⟨_,_,H,Ra ha hb⟩
 ·
  rcases bp H with h|⟨x,hx,H⟩
  ·exact .inl h
  rcases bp H with h|⟨t,ht,H⟩
  ·exact .inl h
  rcases bp H with h|⟨i,hi,H⟩
  ·exact .inl h
  rcases cu H with h|⟨a,ha,H⟩
  ·exact .inl h
  have bX:=hE.types _ _ hi;split at H
  ·rename_i e l hk;refine .inr ⟨_,_,H,.quiet fun o c ac h1 _ h3 h4=>⟨_,wJ h1 hx ht bX rfl (.inl ?_),.d _ _ (.int _ _)⟩⟩;have:=ha c ac h3 h4;generalize ac.eval x=u at this;cases this with
   |d _ _ hd=>cases hd with
    |slnil=>exact⟨e,_,_,hk,rfl⟩
    |jX=>exact⟨e,_,_,hk,rfl⟩
    |sl _ _ _ _ _ _ _ _ _ _ _ _ _=>exact⟨e,_,_,hk,rfl⟩
  ·rename_i l hk;exact .inr ⟨_,_,H,.quiet fun o c ac h1 _ h3 h4=>⟨_,wJ h1 hx ht bX (pE (ha c ac h3 h4)) (.inr ⟨_,hk,rfl,by simp[ByteArray.size]⟩),.d _ _ (.int _ _)⟩⟩
  ·rename_i e hk;refine .inr ⟨_,_,H,.quiet fun o c ac h1 _ h3 h4=>⟨.int .i64 (0:Nat),wJ h1 hx ht bX rfl (.inl ?_),.d _ _ (.int _ _)⟩⟩;have:=ha c ac h3 h4;generalize ac.eval x=u at this;cases this with
   |d _ _ hd=>cases hd with
    |aI=>exact⟨e,_,_,hk,rfl⟩
  ·rename_i e b g hk;rcases bp H with h|⟨bx,hb,H⟩
   ·exact .inl h
   split at H
   ·split at H
    ·rename_i g' ts l _ qg;have:=adX qg;subst this;refine .inr ⟨_,_,H,.quiet fun o c ac h1 h2 h3 h4=>⟨_,wJ h1 hx ht bX rfl (.inl ?_),.d _ _ (.int _ _)⟩⟩;subst h2;have:=ha c ac h3 h4;generalize ac.eval x=u at this;cases this with
     |own _ _ _ l' _ _ k1 k2=>rw[hb]at k1;cases k1;exact⟨e,_,_,hk,rfl⟩
     |iH _ _ _ k1 k2=>rw[hb]at k1;cases k1;exact⟨e,_,_,hk,rfl⟩
     |kQ _ _ g1 _ _ _ k1 k2 _=>rw[hb]at k1;cases k1;omega
     |jY _ _ _ k1 _=>rw[hb]at k1;cases k1
     |mZ _ _ _ _ _ _ k1 _ _=>rw[hb]at k1;cases k1
    ·exact .inl H
   ·exact .inl H
  ·exact .inl H
 ·exact .inl H
end
end Go.aA
end
