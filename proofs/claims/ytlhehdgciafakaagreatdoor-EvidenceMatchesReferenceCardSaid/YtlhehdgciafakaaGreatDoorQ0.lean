/- Lemmas of mine. Conditions: as stated. -/
import Derived.Test.YtlhehdgciafakaaGreatDoorRows
import Derived.WalkKit
import Derived.WalkSpells
import Derived.WalkLawsBesides
import Derived.Deep.QuietTactic
import Derived.BigQuiet
import Derived.Lib.Hide
import Derived.Laws.EntriesVeiled
import Derived.Deep.RegionHeld3
import Derived.Deep.LoopGhost
import Derived.Sort.Grow
import Derived.Laws.Cells
import Derived.Laws.IdiomCopy
import Derived.Great.BuildSlice
set_option linter.unusedVariables false
set_option linter.unusedSimpArgs false
open Array renaming getElem?_toList->ahP,toList_push->ahX,getElem?_modify->ahZ,getElem?_eq_getElem->ah2,toList_map->ah4,range->ah'
open Bool renaming false_eq_true->ah0
open List renaming getElem?_eq_none->aht,map_cons->ahx,getElem?_map->ahy,replicate->ahC,all_eq_true->ahH,zip_cons_cons->ahI,flatMap_cons->ahJ,eq_nil_of_length_eq_zero->ahM,length_cons->ahN,getElem?_set_self->ahQ,getElem?_set_ne->ahR,getElem?_take->ahS,getElem?_append_left->ahT,getD->ahU,exists_cons_of_ne_nil->ahV,mem_map->ahY,length_take->ah1,length_append->ah5,getElem?_set->ah7,getElem?_replicate->ah9
open Nat renaming lt_or_ge->ahs,eq_of_beq_eq_true->ahu,beq->ahv,blt->ahw,le_of_ble_eq_true->ahA,zero_add->ahB,lt_of_lt_of_le->ahD,add_assoc->ahE,add_mul->ahK,le_refl->ahL,add_comm->ahW,add_zero->ah3,mul_comm->aia
open Option renaming map_eq_some_iff->ahF,getD_some->ah8
open Go.Result renaming andThen_ok->ahr
open Go.Sem renaming run_pure->ahp,run_bind->ahq,run->ahz,bind->ahG
section
theorem Go.oM{p:Prop}(h:p:=by omega):p:=h
theorem Go.dC{p:Prop}(h:p:=by decide):p:=h
theorem Go.sP{p:Prop}(h:p:=by simp):p:=h
theorem Go.zD{p q:Prop}(h:p)(e:p->q:=by(intro h;simpa using h)):q:=e h
namespace Go.Proofs.YtlhehdgciafakaaGreatDoor
open Go.RowKit
structure Ext(w w':World):Prop where
 os:w'.os=w.os
 tape:w'.tape=w.tape
 output:w'.output=w.output
 size:w.heap.size<=w'.heap.size
 block:∀ k,k<w.heap.size->w'.heap[k]?=w.heap[k]?
theorem Ext.refl(w:World):Ext w w:=⟨rfl,rfl,rfl,ahL _,fun _ _=>rfl⟩
theorem Ext.alloc{a w:World}(h:Ext a w)(o:Obj):Ext a (w.alloc o) :=
 ⟨h.os,h.tape,h.output,by simp;exact Nat.le_succ_of_le h.size,fun k hk=>by
  rw[Below.heap_alloc w o k (ahD hk h.size)];exact h.block k hk⟩
theorem Ext.below{a w:World}(h:Ext a w):Below a.heap.size a w:=⟨h.os,h.tape,h.output,h.size,h.block⟩
end Go.Proofs.YtlhehdgciafakaaGreatDoor
end
section
namespace Go.az
open Go
inductive DV where
 |undef
 |bool (b:Bool)
 |int (k:IntKind) (n:Int)
 |str (s:List UInt8)
 |aF
 |sl (l:List DV)
 |agg (c:List DV)
 |aG (c:List DV)
 |eS|aB|kH|fD
 |fn (f:Fn)
 |raw (v:Value)
def DV.cells:DV->List DV
 | .agg c=>c
 |x=>[x]
inductive AV where
 |any
 |d (x:DV)
 |own (b g:Nat)
 |cut (b g k:Nat) (q:Option Nat)
 |ptr (b off:Nat)
 |dv (b g i off:Nat)
 |bT (e:DV) (off:Nat)
 |map (b:Nat)
 |agg (c:List AV)
 |aG (c:List AV)
 |fn (f:Fn) (first captured:List AV)
inductive ae where
 |cells (c:List AV)
 |arr (g:Nat) (ts:Nat × Nat) (l:List DV)
 |map (es:List (DV × DV))
 |gone
 |hole
inductive VD (bad:Nat->Prop) (w:World):DV->Value->Prop
 |undef:VD bad w .undef Go.undef
 |bool (b:Bool):VD bad w (.bool b) (.bool b)
 |int (k:IntKind) (n:Int):VD bad w (.int k n) (.int k n)
 |str (l:List UInt8):VD bad w (.str l) (.string ⟨l.toArray⟩)
 |aF:VD bad w .aF (.slice none 0 0)
 |slnil:VD bad w (.sl []) (.slice none 0 0)
 |l6 (a:Addr):VD bad w (.sl []) (.slice (some a) 0 0)
 |sl (l:List DV) (blk off cap sz:Nat) (f:Nat->Nat->Value) (hb:l≠[]->¬ bad blk) (bP:0<sz) (kI:l.length<=cap)
   (hlen:∀ (i:Nat) (e:DV),l[i]?=some e->e.cells.length=sz)
   (dQ:∀ (i j:Nat) (e x:DV),l[i]?=some e->e.cells[j]?=some x->w.cell? ⟨blk,off+(i*sz+j),none⟩=some (f i j))
   (bJ:∀ (i j:Nat) (e x:DV),l[i]?=some e->e.cells[j]?=some x->VD bad w x (f i j))
   (bW:∀ (i j:Nat) (e x:DV),l[i]?=some e->e.cells[j]?=some x->(f i j).oneCell'=true) :
   VD bad w (.sl l) (.slice (some ⟨blk,off,none⟩) l.length cap)
 |agg (c:List DV) (vs:Array Value) (hlen:c.length=vs.size) (bJ:∀ (j:Nat) (x:DV) (v:Value),c[j]?=some x->vs[j]?=some v->VD bad w x v):VD bad w (.agg c) (.agg vs)
 |aG (c:List DV) (vs:Array Value) (hlen:c.length=vs.size) (bJ:∀ (j:Nat) (x:DV) (v:Value),c[j]?=some x->vs[j]?=some v->VD bad w x v):VD bad w (.aG c) (.tuple vs)
 |eS:VD bad w .eS (.pointer none)
 |aB:VD bad w .aB .nilFunc
 |kH:VD bad w .kH (.map none)
 |fD:VD bad w .fD .nilIface
 |fn (f:Fn):VD bad w (.fn f) (.func f #[] #[])
 |raw (v:Value) (h:v.oneCell'=true):VD bad w (.raw v) v
theorem VD.mono{bad yc:Nat->Prop}{w w':World}(h:∀ b,b<w.heap.size->¬ bad b->¬ yc b/\w'.heap[b]?=w.heap[b]?){x:DV}{v:Value}(hv:VD bad w x v):VD yc w' x v:=by
 induction hv with
 |undef=>exact .undef
 |bool b=>exact .bool b
 |int k n=>exact .int k n
 |str l=>exact .str l
 |aF=>exact .aF
 |slnil=>exact .slnil
 |l6 a=>exact .l6 a
 |sl l blk off cap sz f hb bP kI hlen dQ bJ bW ih =>
  have key:l≠[]->blk<w.heap.size:=fun aL=>by
   obtain⟨e,r,rfl⟩:=ahV aL;have h1:=hlen 0 e rfl;obtain⟨x,hx⟩:∃ x,e.cells[0]?=some x:=⟨e.cells[0]' oM,by simp⟩;exact World.block_lt_of_cell? _ _ (dQ 0 0 e x rfl hx)
  refine .sl l blk off cap sz f (fun aL=>(h blk (key aL) (hb aL)).1) bP kI hlen (fun i j e x he hx=>?_) ih bW;have aL:l≠[]:=fun h0=>by subst h0;simp at he
  rw[World.cell?_of_block (h blk (key aL) (hb aL)).2];exact dQ i j e x he hx
 |agg c vs hlen bJ ih=>exact .agg c vs hlen ih
 |aG c vs hlen bJ ih=>exact .aG c vs hlen ih
 |eS=>exact .eS
 |aB=>exact .aB
 |kH=>exact .kH
 |fD=>exact .fD
 |fn f=>exact .fn f
 |raw v h=>exact .raw v h
structure Cx where
 own:Nat->Option (Nat × Nat)
 heap:List ae
 aD:Nat->Prop
 w:World
def Cx.bad(c:Cx)(b:Nat):Prop:=c.aD b\/∃ i n,c.own i=some (b,n)
inductive VR (c:Cx):AV->Value->Prop
 |any (v:Value):VR c .any v
 |d (x:DV) (v:Value) (h:VD c.bad c.w x v):VR c (.d x) v
 |own (b g:Nat) (sz:Nat × Nat) (l:List DV) (blk cap:Nat) (hb:c.heap[b]?=some (.arr g sz l)) (ho:c.own b=some (blk,cap)):VR c (.own b g) (.slice (some ⟨blk,0,none⟩) l.length cap)
 |jJ (b g:Nat) (sz:Nat × Nat) (hb:c.heap[b]?=some (.arr g sz [])) (ho:c.own b=none):VR c (.own b g) (.slice none 0 0)
 |l7 (b g g':Nat) (sz:Nat × Nat) (l:List DV) (v:Value) (hb:c.heap[b]?=some (.arr g' sz l)) (hg:g<g') (hv:v.oneCell'=true):VR c (.own b g) v
 |ln (b g:Nat) (v:Value) (hb:c.heap[b]?=some .gone) (hv:v.oneCell'=true):VR c (.own b g) v
 |ow (b g:Nat) (cs:List AV) (blk cap n:Nat) (hb:c.heap[b]?=some (.cells cs)) (ho:c.own b=some (blk,cap)) (hn:cs.length=n):VR c (.own b g) (.slice (some ⟨blk,0,none⟩) n n)
 |cut (b g k:Nat) (q:Option Nat) (sz:Nat × Nat) (l:List DV) (blk cap o:Nat) (hb:c.heap[b]?=some (.arr g sz l)) (ho:c.own b=some (blk,cap)) (hk:k<=l.length) (CU:k<cap->o=k*sz.2) (hq:∀ n,q=some n->n=cap):VR c (.cut b g k q) (.slice (some ⟨blk,o,none⟩) (l.length-k) (cap-k))
 |pj (b g g' k:Nat) (q:Option Nat) (sz:Nat × Nat) (l:List DV) (v:Value) (hb:c.heap[b]?=some (.arr g' sz l)) (hg:g<g') (hv:v.oneCell'=true):VR c (.cut b g k q) v
 |pk (b g k:Nat) (q:Option Nat) (v:Value) (hb:c.heap[b]?=some .gone) (hv:v.oneCell'=true):VR c (.cut b g k q) v
 |ptr (b off:Nat) (cs:List AV) (blk cap:Nat) (hb:c.heap[b]?=some (.cells cs)) (ho:c.own b=some (blk,cap)):VR c (.ptr b off) (.pointer (some ⟨blk,off,none⟩))
 |jK (b off:Nat) (v:Value) (hb:c.heap[b]?=some .gone) (hv:v.oneCell'=true):VR c (.ptr b off) v
 |dv (b g i off:Nat) (sz:Nat × Nat) (l:List DV) (blk cap:Nat) (hb:c.heap[b]?=some (.arr g sz l)) (ho:c.own b=some (blk,cap)) (hi:i<l.length):VR c (.dv b g i off) (.pointer (some ⟨blk,i*sz.2+off,none⟩))
 |nv (b g g' i off:Nat) (sz:Nat × Nat) (l:List DV) (v:Value) (hb:c.heap[b]?=some (.arr g' sz l)) (hg:g<g') (hv:v.oneCell'=true):VR c (.dv b g i off) v
 |nw (b g i off:Nat) (v:Value) (hb:c.heap[b]?=some .gone) (hv:v.oneCell'=true):VR c (.dv b g i off) v
 |bT (e:DV) (off blk o:Nat) (f:Nat->Value) (hb:¬ c.bad blk) (aL:e.cells≠[])
   (dQ:∀ (j:Nat) (x:DV),e.cells[j]?=some x->c.w.cell? ⟨blk,o+j,none⟩=some (f j)) (bJ:∀ (j:Nat) (x:DV),e.cells[j]?=some x->VD c.bad c.w x (f j)) :
   VR c (.bT e off) (.pointer (some ⟨blk,o+off,none⟩))
 |map (b:Nat) (es:List (DV × DV)) (blk cap:Nat) (hb:c.heap[b]?=some (.map es)) (ho:c.own b=some (blk,cap)):VR c (.map b) (.map (some blk))
 |pn (b:Nat) (v:Value) (hb:c.heap[b]?=some .gone) (hv:v.oneCell'=true):VR c (.map b) v
 |agg (a:List AV) (vs:Array Value) (hlen:a.length=vs.size) (bJ:∀ (j:Nat) (x:AV) (v:Value),a[j]?=some x->vs[j]?=some v->VR c x v):VR c (.agg a) (.agg vs)
 |aG (a:List AV) (vs:Array Value) (hlen:a.length=vs.size) (bJ:∀ (j:Nat) (x:AV) (v:Value),a[j]?=some x->vs[j]?=some v->VR c x v):VR c (.aG a) (.tuple vs)
 |fn (f:Fn) (a1 a2:List AV) (v1 v2:Array Value) (qd:a1.length=v1.size) (po:a2.length=v2.size)
   (h1:∀ (j:Nat) (x:AV) (v:Value),a1[j]?=some x->v1[j]?=some v->VR c x v)
   (h2:∀ (j:Nat) (x:AV) (v:Value),a2[j]?=some x->v2[j]?=some v->VR c x v):VR c (.fn f a1 a2) (.func f v1 v2)
def vR(c c':Cx)(i:Nat):ae->Prop
 | .cells cs=>(∃ cs',c'.heap[i]?=some (.cells cs')/\c'.own i=c.own i/\cs'.length=cs.length)\/c'.heap[i]?=some .gone
 | .arr g sz l=>(∃ g' l',c'.heap[i]?=some (.arr g' sz l')/\(g<g'\/g'=g/\l'.length=l.length/\c'.own i=c.own i))\/c'.heap[i]?=some .gone
 | .map _=>(∃ ev,c'.heap[i]?=some (.map ev)/\c'.own i=c.own i)\/c'.heap[i]?=some .gone
 | .gone=>c'.heap[i]?=some .gone
 | .hole=>∃ b,c'.heap[i]?=some b
theorem vR.ex{c c':Cx}{i:Nat}{b:ae}(h:vR c c' i b):∃ b',c'.heap[i]?=some b':=by
 cases b with
 |cells cs=>rcases h with⟨_,h,_⟩|h<;>exact⟨_,h⟩
 |arr g ts l=>rcases h with⟨_,_,h,_⟩|h<;>exact⟨_,h⟩
 |map es=>rcases h with⟨_,h,_⟩|h<;>exact⟨_,h⟩
 |gone=>exact⟨_,h⟩
 |hole=>exact h
structure Step(c c':Cx):Prop where
 aD:c'.aD=c.aD
 bV:∀ b,c.aD b->b<c.w.heap.size
 os:c'.w.os=c.w.os
 tape:c'.w.tape=c.w.tape
 output:c'.w.output=c.w.output
 size:c.w.heap.size<=c'.w.heap.size
 keep:∀ b,b<c.w.heap.size->(∀ i n,c.own i≠some (b,n))->c'.w.heap[b]?=c.w.heap[b]?
 eh:∀ i b n,c'.own i=some (b,n)->b<c.w.heap.size->∃ m,c.own i=some (b,m)
 boxes:∀ i bx,c.heap[i]?=some bx->vR c c' i bx
theorem Step.refl(c:Cx)(hb:∀ b,c.aD b->b<c.w.heap.size):Step c c :=
 ⟨rfl,hb,rfl,rfl,rfl,ahL _,fun _ _ _=>rfl,fun i b n h _=>⟨n,h⟩,fun i bx h=>by
  cases bx with
  |cells cs=>exact .inl ⟨cs,h,rfl,rfl⟩
  |arr g sz l=>exact .inl ⟨g,l,h,.inr ⟨rfl,rfl,rfl⟩⟩
  |map es=>exact .inl ⟨es,h,rfl⟩
  |gone=>exact h
  |hole=>exact⟨_,h⟩⟩
theorem Step.trans{a b c:Cx}(h:Step a b)(k:Step b c):Step a c where
 aD:=k.aD.trans h.aD
 bV:=h.bV
 os:=k.os.trans h.os
 tape:=k.tape.trans h.tape
 output:=k.output.trans h.output
 size:=Nat.le_trans h.size k.size
 keep:=fun x hx hn=>by
  rw[k.keep x (ahD hx h.size) (fun i n hi=>by obtain⟨m,hj⟩:=h.eh i x n hi hx;exact hn i m hj)];exact h.keep x hx hn
 eh:=fun i x n hi hx=>by
  obtain⟨m,hj⟩:=k.eh i x n hi (ahD hx h.size);exact h.eh i x m hj hx
 boxes:=fun i bx hi=>by
  have h1:=h.boxes i bx hi;cases bx with
  |cells cs =>
   rcases h1 with⟨cs',h1,h2,h3⟩|h1
   ·rcases k.boxes i _ h1 with⟨Ga,k1,k2,k3⟩|k1
    ·exact .inl ⟨Ga,k1,k2.trans h2,k3.trans h3⟩
    ·exact .inr k1
   ·exact .inr (k.boxes i _ h1)
  |arr g sz l =>
   rcases h1 with⟨g',l',h1,h2⟩|h1
   ·rcases k.boxes i _ h1 with⟨Gb,Gc,k1,k2⟩|k1
    ·refine .inl ⟨Gb,Gc,k1,?_⟩;rcases h2 with h2|⟨h2,h3,h4⟩<;>rcases k2 with k2|⟨k2,k3,k4⟩
     ·left;omega
     ·left;omega
     ·left;omega
     ·exact .inr ⟨k2.trans h2,k3.trans h3,k4.trans h4⟩
    ·exact .inr k1
   ·exact .inr (k.boxes i _ h1)
  |map es =>
   rcases h1 with⟨ev,h1,h2⟩|h1
   ·rcases k.boxes i _ h1 with⟨Gd,k1,k2⟩|k1
    ·exact .inl ⟨Gd,k1,k2.trans h2⟩
    ·exact .inr k1
   ·exact .inr (k.boxes i _ h1)
  |gone=>exact k.boxes i _ h1
  |hole=>obtain⟨b,h1⟩:=h1;exact(k.boxes i b h1).ex
theorem Step.Ah{c c':Cx}(h:Step c c')(b:Nat)(hb:b<c.w.heap.size)(hn:¬ c.bad b):¬ c'.bad b/\c'.w.heap[b]?=c.w.heap[b]? := by
 have h0:∀ i n,c.own i≠some (b,n):=fun i n hi=>hn (.inr ⟨i,n,hi⟩);refine⟨?_,h.keep b hb h0⟩;rintro(h1|⟨i,n,h1⟩)
 ·exact hn (.inl (by rw[<- h.aD];exact h1))
 ·obtain⟨m,hj⟩:=h.eh i b n h1 hb;exact h0 i m hj
theorem Step.vd{c c':Cx}(h:Step c c'){x:DV}{v:Value}(hv:VD c.bad c.w x v):VD c'.bad c'.w x v:=hv.mono h.Ah
theorem um{c c':Cx}(qf:∀ b,b<c.w.heap.size->¬ c.bad b->¬ c'.bad b/\c'.w.heap[b]?=c.w.heap[b]?)(dF:∀ i bx,c.heap[i]?=some bx->vR c c' i bx){x:AV}{v:Value}(hv:VR c x v):VR c' x v:=by
 induction hv with
 |any v=>exact .any v
 |d x v hx=>exact .d x v (hx.mono qf)
 |own b g sz l blk cap hb ho =>
  rcases dF b _ hb with⟨g',l',h1,h2|⟨rfl,h3,h4⟩⟩|h1
  ·exact .l7 b g g' sz l' _ h1 h2 rfl
  ·rw[<- h3];exact .own b g' sz l' blk cap h1 (h4.trans ho)
  ·exact .ln b g _ h1 rfl
 |jJ b g sz hb ho =>
  rcases dF b _ hb with⟨g',l',h1,h2|⟨rfl,h3,h4⟩⟩|h1
  ·exact .l7 b g g' sz l' _ h1 h2 rfl
  ·obtain rfl:l'=[]:=ahM (zD h3);exact .jJ b g' sz h1 (h4.trans ho)
  ·exact .ln b g _ h1 rfl
 |l7 b g g1 sz l v hb hg hv =>
  rcases dF b _ hb with⟨g',l',h1,h2|⟨rfl,h3,h4⟩⟩|h1
  ·exact .l7 b g g' sz l' _ h1 oM hv
  ·exact .l7 b g g' sz l' _ h1 hg hv
  ·exact .ln b g _ h1 hv
 |ln b g v hb hv=>exact .ln b g v (dF b _ hb) hv
 |ow b g cs blk cap n hb ho hn =>
  rcases dF b _ hb with⟨cs',h1,h2,h3⟩|h1
  ·exact .ow b g cs' blk cap n h1 (h2.trans ho) (h3.trans hn)
  ·exact .ln b g _ h1 rfl
 |cut b g k q sz l blk cap o hb ho hk CU hq =>
  rcases dF b _ hb with⟨g',l',h1,h2|⟨rfl,h3,h4⟩⟩|h1
  ·exact .pj b g g' k q sz l' _ h1 h2 rfl
  ·rw[<- h3];exact .cut b g' k q sz l' blk cap o h1 (h4.trans ho) oM CU hq
  ·exact .pk b g k q _ h1 rfl
 |pj b g g1 k q sz l v hb hg hv =>
  rcases dF b _ hb with⟨g',l',h1,h2|⟨rfl,h3,h4⟩⟩|h1
  ·exact .pj b g g' k q sz l' _ h1 oM hv
  ·exact .pj b g g' k q sz l' _ h1 hg hv
  ·exact .pk b g k q _ h1 hv
 |pk b g k q v hb hv=>exact .pk b g k q v (dF b _ hb) hv
 |ptr b off cs blk cap hb ho =>
  rcases dF b _ hb with⟨cs',h1,h2,h3⟩|h1
  ·exact .ptr b off cs' blk cap h1 (h2.trans ho)
  ·exact .jK b off _ h1 rfl
 |jK b off v hb hv=>exact .jK b off v (dF b _ hb) hv
 |dv b g i off sz l blk cap hb ho hi =>
  rcases dF b _ hb with⟨g',l',h1,h2|⟨rfl,h3,h4⟩⟩|h1
  ·exact .nv b g g' i off sz l' _ h1 h2 rfl
  ·exact .dv b g' i off sz l' blk cap h1 (h4.trans ho) oM
  ·exact .nw b g i off _ h1 rfl
 |nv b g g1 i off sz l v hb hg hv =>
  rcases dF b _ hb with⟨g',l',h1,h2|⟨rfl,h3,h4⟩⟩|h1
  ·exact .nv b g g' i off sz l' _ h1 oM hv
  ·exact .nv b g g' i off sz l' _ h1 hg hv
  ·exact .nw b g i off _ h1 hv
 |nw b g i off v hb hv=>exact .nw b g i off v (dF b _ hb) hv
 |bT e off blk o f hb aL dQ bJ =>
  have ai:blk<c.w.heap.size:=by
   obtain⟨x,r,hx⟩:=ahV aL;exact World.block_lt_of_cell? _ _ (dQ 0 x (by rw[hx];rfl))
  have hk:=qf blk ai hb;exact .bT e off blk o f hk.1 aL (fun j x hx=>by rw[World.cell?_of_block hk.2];exact dQ j x hx) (fun j x hx=>(bJ j x hx).mono qf)
 |map b es blk cap hb ho =>
  rcases dF b _ hb with⟨ev,h1,h2⟩|h1
  ·exact .map b ev blk cap h1 (h2.trans ho)
  ·exact .pn b _ h1 rfl
 |pn b v hb hv=>exact .pn b v (dF b _ hb) hv
 |agg a vs hlen bJ ih=>exact .agg a vs hlen ih
 |aG a vs hlen bJ ih=>exact .aG a vs hlen ih
 |fn f a1 a2 v1 v2 qd po h1 h2 TO TP=>exact .fn f a1 a2 v1 v2 qd po TO TP
theorem Step.vr{c c':Cx}(h:Step c c'){x:AV}{v:Value}(hv:VR c x v):VR c' x v:=um h.Ah h.boxes hv
end Go.az
end
section
namespace Go.az
open Go
universe u
inductive TK where
 |bool|int (k:IntKind)|string|pointer (e:Nat)|slice (e:Nat)|array (n e:Nat)|map (k e:Nat)|struct (fs:List (Nat × Nat))|func|iface|other
def tk:TypeDesc->TK
 | .bool => .bool
 | .int k => .int k
 | .string => .string
 | .pointer e => .pointer e
 | .slice e => .slice e
 | .array n e => .array n e
 | .map k e => .map k e
 | .struct fs => .struct (fs.toList.map fun f=>(f.offset,f.type))
 | .func _ _ _ => .func
 | .interface _ => .iface
 |_ => .other
def vS:Value->Option DV
 | .bool b=>some (.bool b)
 | .int k n=>some (.int k n)
 | .string s=>some (.str s.data.toList)
 | .slice none 0 0=>some .aF
 | .pointer none=>some .eS
 | .nilFunc=>some .aB
 | .map none=>some .kH
 | .nilIface=>some .fD
 |_=>none
theorem Lx{bad:Nat->Prop}{w:World}{v:Value}{x:DV}(h:vS v=some x):VD bad w x v:=by
 unfold vS at h;split at h<;>first|(cases h;constructor)|cases h
def TK.agg:TK->Bool
 | .struct _=>true
 | .array _ _=>true
 |_=>false
structure bA where
 k:TK
 size:Nat
 bytes:Nat
 zero:List DV
def Ai:List (Option DV)->Option (List DV)
 |[]=>some []
 |none::_=>none
 |some x::l=>(Ai l).map (x :: ·)
def yd(z:Option Value):List DV:=(z.bind fun v=>Ai (v.cells.toList.map vS)).getD []
def fR(P:Program)(t:Nat):Option bA :=
 match P.info? t,P.underlying t with
 |some i,some d=>some ⟨tk d,i.size,i.bytes,yd i.zero⟩
 |_,_=>none
structure Env where
 P:Program
 T:List bA
 G:List (Nat × DV)
 Q:List Nat
def CV(P:Program)(t:Nat):Bool := !P.stoodInHeld t && !P.eqGuardType P.depth t&&(match P.underlying t with
 |some (.struct fs) => fs.toList.all fun f => f.name != "_"
 |_=>false)
structure Env.OK(E:Env):Prop where
 types:∀ (t:Nat) (i:bA),E.T[t]?=some i->fR E.P t=some i
 eqs:∀ t∈E.Q,CV E.P t=true
section Ge
variable {α:Sort u} {β:Type}
def iA:List β->Nat->β->(List β->α)->α
 |[],_,_,k=>k []
 |_::l,0,v,k=>k (v::l)
 |a::l,i+1,v,k=>iA l i v fun l'=>k (a::l')
theorem jk(l:List β)(i:Nat)(v:β)(k:List β->α):iA l i v k=k (l.set i v):=by
 induction l generalizing i k with
 |nil=>rfl
 |cons a l ih=>cases i with
  |zero=>rfl
  |succ i=>simp only[iA,ih,List.set_cons_succ]
def bh:List β->Nat->(no:α)->(β->α)->α
 |[],_,no,_=>no
 |a::_,0,_,k=>k a
 |_::l,i+1,no,k=>bh l i no k
theorem CW{l:List β}{i:Nat}{x:β}(h:l[i]?=some x)(no:α)(k:β->α):bh l i no k=k x:=by
 induction l generalizing i with
 |nil=>simp at h
 |cons a l ih=>cases i with
  |zero=>simp at h;subst h;rfl
  |succ i=>exact ih (zD h)
theorem Ly{l:List β}{i:Nat}(h:l[i]?=none)(no:α)(k:β->α):bh l i no k=no:=by
 induction l generalizing i with
 |nil=>rfl
 |cons a l ih=>cases i with
  |zero=>simp at h
  |succ i=>exact ih (zD h)
def ye:Nat->List β->(List β->α)->α
 |0,_,k=>k []
 |_+1,[],k=>k []
 |n+1,a::l,k=>ye n l fun l'=>k (a::l')
theorem LC(n:Nat)(l:List β)(k:List β->α):ye n l k=k (l.take n):=by
 induction n generalizing l k with
 |zero=>simp[ye]
 |succ n ih=>cases l with
  |nil=>simp[ye]
  |cons a l=>simp[ye,ih]
def vU:Nat->List β->(List β->α)->α
 |0,l,k=>k l
 |_+1,[],k=>k []
 |n+1,_::l,k=>vU n l k
theorem Gf(n:Nat)(l:List β)(k:List β->α):vU n l k=k (l.drop n):=by
 induction n generalizing l with
 |zero=>simp[vU]
 |succ n ih=>cases l with
  |nil=>simp[vU]
  |cons a l=>simp[vU,ih]
def pq:List β->β->Nat->(List β->Nat->α)->α
 |[],v,n,k=>k [v] n
 |a::l,v,n,k=>pq l v (n+1) fun l' m=>k (a::l') m
theorem uo(l:List β)(v:β)(n:Nat)(k:List β->Nat->α):pq l v n k=k (l++[v]) (n+l.length):=by
 induction l generalizing n k with
 |nil=>rfl
 |cons a l ih=>simp only[pq,ih,List.cons_append,ahN,ahE,ahW 1]
def yf:List β->Nat->List β->(List β->α)->α
 |c,_,[],k=>k c
 |c,off,v::l,k=>iA c off v fun c'=>yf c' (off+1) l k
def dX:List β->Nat->List β->List β
 |c,_,[]=>c
 |c,off,v::l=>dX (c.set off v) (off+1) l
theorem Gg(c:List β)(off:Nat)(l:List β)(k:List β->α):yf c off l k=k (dX c off l):=by
 induction l generalizing c off with
 |nil=>rfl
 |cons v l ih=>simp only[yf,jk,ih,dX]
def qh{γ:Type}(f:β->γ):List β->(List γ->α)->α
 |[],k=>k []
 |a::l,k=>qh f l fun l'=>k (f a::l')
theorem vV{γ:Type}(f:β->γ)(l:List β)(k:List γ->α):qh f l k=k (l.map f):=by
 induction l generalizing k with
 |nil=>rfl
 |cons a l ih=>simp only[qh,ih,ahx]
end Ge
section ops
variable {α:Sort u}
def sE:List AV->(no:α)->(List DV->α)->α
 |[],_,k=>k []
 | .d x::l,no,k=>sE l no fun l'=>k (x::l')
 |_::_,no,_=>no
theorem Aj(l:List AV)(no:α)(k:List DV->α):(∃ l',l=l'.map .d/\sE l no k=k l')\/sE l no k=no:=by
 induction l generalizing k with
 |nil=>exact .inl ⟨[],rfl,rfl⟩
 |cons a l ih =>
  cases a
  case d x =>
   rcases ih (fun l'=>k (x::l'))with⟨l',h1,h2⟩|h
   ·exact .inl ⟨x::l',by rw[h1];rfl,h2⟩
   ·exact .inr h
  all_goals exact .inr rfl
def yg(l:List AV)(k:AV->α):α:=sE l (k (.agg l)) fun l'=>k (.d (.agg l'))
def LD(v:Value)(stop:α)(k:AV->α):α :=
 match v with
 | .bool b=>k (.d (.bool b))
 | .int j n=>k (.d (.int j n))
 | .string s=>k (.d (.str s.data.toList))
 | .slice none 0 0=>k (.d .aF)
 | .pointer none=>k (.d .eS)
 | .nilFunc=>k (.d .aB)
 | .map none=>k (.d .kH)
 | .nilIface=>k (.d .fD)
 |_=>stop
def CX:List (Nat × DV)->Nat->(stop:α)->(AV->α)->α
 |[],_,stop,_=>stop
 |(g,e)::l,i,stop,k=>match ahv g i with
  |true=>k (.bT e 0)
  |false=>CX l i stop k
def cG(G:List (Nat × DV))(s:List AV)(x:Operand)(stop:α)(k:AV->α):α :=
 match x with
 | .tmp t=>bh s t stop k
 | .const v=>LD v stop k
 | .global g=>CX G g stop k
 | .func f=>k (.fn (.func f) [] [])
def vW(G:List (Nat × DV))(s:List AV):List Operand->(stop:α)->(List AV->α)->α
 |[],_,k=>k []
 |x::l,stop,k=>cG G s x stop fun v=>vW G s l stop fun l'=>k (v::l')
def DV.gd:DV->Bool
 | .agg _=>false
 | .aG _=>false
 | .undef=>false
 |_=>true
def AV.gd:AV->Bool
 | .agg _=>false
 | .aG _=>false
 | .any=>false
 | .d x=>x.gd
 |_=>true
def yh(v:AV)(stop:α)(k:List AV->α):α :=
 match v with
 | .agg c=>k c
 | .d (.agg c)=>qh .d c k
 |v=>match v.gd with
  |true=>k [v]
  |false=>stop
def mK(i:bA)(c:List AV)(off:Nat)(stop:α)(k:AV->α):α :=
 match i.k.agg with
 |true=>vU off c fun c1=>ye i.size c1 fun c2=>match ahv c2.length i.size with
  |true=>yg c2 k
  |false=>stop
 |false=>bh c off stop k
def Gh(i:bA)(h:List ae)(a:AV)(stop:α)(k:AV->α):α :=
 match a with
 | .ptr b off=>bh h b stop fun
  | .cells c=>mK i c off stop k
  |_=>stop
 | .bT e off=>match e with
  | .agg c=>qh .d c fun c'=>mK i c' off stop k
  |x=>mK i [.d x] off stop k
 |_=>stop
def Gi(i:bA)(h:List ae)(a v:AV)(stop:α)(k:List ae->α):α :=
 match a with
 | .ptr b off=>bh h b stop fun
  | .cells c=>yh v stop fun vs=>match ahv vs.length i.size,Nat.ble (off+vs.length) c.length,vs.all AV.gd with
   |true,true,true=>yf c off vs fun c'=>iA h b (.cells c') k
   |_,_,_=>stop
  |_=>stop
 |_=>stop
def Gj(op:BinOp)(j:IntKind)(a b:Int)(stop:α)(k:AV->α):α :=
 match op with
 | .add=>k (.d (.int j (j.wrap (a+b))))
 | .sub=>k (.d (.int j (j.wrap (a-b))))
 | .mul=>k (.d (.int j (j.wrap (a*b))))
 | .eql=>k (.d (.bool (a==b)))
 | .neq=>k (.d (.bool (a != b)))
 | .lss=>k (.d (.bool (decide (a<b))))
 | .leq=>k (.d (.bool (decide (a<=b))))
 | .gtr=>k (.d (.bool (decide (a>b))))
 | .geq=>k (.d (.bool (decide (a>=b))))
 |_=>stop
def Gk(op:BinOp)(a b:List UInt8)(stop:α)(k:AV->α):α :=
 match op with
 | .eql=>k (.d (.bool (a==b)))
 | .neq=>k (.d (.bool (!(a==b))))
 | .lss=>k (.d (.bool (Op.bytesLess a b)))
 | .leq=>k (.d (.bool (Op.bytesLess a b||a==b)))
 | .gtr=>k (.d (.bool (!(Op.bytesLess a b||a==b))))
 | .geq=>k (.d (.bool (!(Op.bytesLess a b))))
 |_=>stop
def IntKind.same:IntKind->IntKind->Bool
 | .i8,.i8 | .i16,.i16 | .i32,.i32 | .i64,.i64 | .u8,.u8 | .u16,.u16 | .u32,.u32 | .u64,.u64=>true
 |_,_=>false
def Gl(i:bA)(op:BinOp)(x y:AV)(stop:α)(k:AV->α):α :=
 match x,y with
 | .d (.int j a),.d (.int j' b)=>match IntKind.same j j' with
  |true=>Gj op j a b stop k
  |false=>stop
 | .d (.str a),.d (.str b)=>Gk op a b stop k
 | .d (.bool a),.d (.bool b)=>match i.k,op with
  | .bool,.eql=>k (.d (.bool (a==b)))
  | .bool,.neq=>k (.d (.bool (!(a==b))))
  |_,_=>stop
 |_,_=>stop
def CY(op:BinOp)(j:IntKind)(a:Int)(y:Operand)(stop:α)(k:AV->α):α :=
 match y with
 | .const (.int j' (.ofNat (m+1)))=>match op with
  | .quo=>match IntKind.same j j' with
   |true=>k (.d (.int j (j.wrap (a.tdiv (.ofNat (m+1))))))
   |false=>stop
  | .rem=>match IntKind.same j j' with
   |true=>k (.d (.int j (a.tmod (.ofNat (m+1)))))
   |false=>stop
  |_=>stop
 |_=>stop
def CZ(i:bA)(f:Nat)(stop:α)(k:Nat->Nat->α):α :=
 match i.k with
 | .struct fs=>bh fs f stop fun p=>k p.1 p.2
 |_=>stop
def yi(pl:Nat->Option (Nat × Nat)):List (Nat × AV)->List AV->(stop:α)->(List AV->α)->α
 |[],c,_,k=>k c
 |(f,v)::r,c,stop,k =>
  match pl f with
  |none=>stop
  |some p=>yh v stop fun vs=>match ahv vs.length p.2,Nat.ble (p.1+vs.length) c.length with
   |true,true=>yf c p.1 vs fun c'=>yi pl r c' stop k
   |_,_=>stop
def C0(T:List bA):List (Nat × Nat)->(stop:α)->(List (Nat × Nat)->α)->α
 |[],_,k=>k []
 |(o,t)::l,stop,k=>bh T t stop fun i=>C0 T l stop fun l'=>k ((o,i.size)::l')
def eB{β:Type}:List β->Nat->Option β
 |[],_=>none
 |a::_,0=>some a
 |_::l,i+1=>eB l i
def qi(sz:Nat):List (Nat × AV)->List DV->(stop:α)->(List DV->α)->α
 |[],c,_,k=>k c
 |(f,.d x)::r,c,stop,k=>match x with
  | .agg l=>match ahv l.length sz,l.all DV.gd,ahw f c.length with
   |true,true,true=>iA c f (.agg l) fun c'=>qi sz r c' stop k
   |_,_,_=>stop
  |x=>match ahv 1 sz,x.gd,ahw f c.length with
   |true,true,true=>iA c f x fun c'=>qi sz r c' stop k
   |_,_,_=>stop
 |_::_,_,stop,_=>stop
def vX:Nat->DV->(List DV->α)->α
 |0,_,k=>k []
 |n+1,x,k=>vX n x fun l=>k (x::l)
def vY(G:List (Nat × DV))(s:List AV):List (Nat × Operand)->(stop:α)->(List (Nat × AV)->α)->α
 |[],_,k=>k []
 |(i,x)::l,stop,k=>cG G s x stop fun v=>vY G s l stop fun l'=>k ((i,v)::l')
def kJ(T:List bA)(G:List (Nat × DV))(o:Op)(s:List AV)(h:List ae)(stop:α)(k:AV->List ae->α):α :=
 match o with
 | .move x=>cG G s x stop fun v=>k v h
 | .assign x=>cG G s x stop fun v=>k v h
 | .box _ x=>cG G s x stop fun v=>yh v stop fun c=>pq h (.cells c) 0 fun h' n=>k (.ptr n 0) h'
 | .alloc t=>bh T t stop fun i=>match ahv i.zero.length i.size,ahw 0 i.size with
  |true,true=>qh .d i.zero fun c=>pq h (.cells c) 0 fun h' n=>k (.ptr n 0) h'
  |_,_=>stop
 | .load t x=>bh T t stop fun i=>cG G s x stop fun a=>Gh i h a stop fun v=>k v h
 | .store t x y=>bh T t stop fun i=>cG G s x stop fun a=>cG G s y stop fun v=>Gi i h a v stop fun h'=>k (.d .undef) h'
 | .fieldAddr t x f=>bh T t stop fun i=>CZ i f stop fun o ft=>bh T ft stop fun fi=>match ahw 0 fi.size with
  |false=>stop
  |true=>cG G s x stop fun
   | .ptr b off=>bh h b stop fun
    | .cells _=>k (.ptr b (off+o)) h
    |_=>stop
   | .bT e off=>k (.bT e (off+o)) h
   | .dv b g i off=>bh h b stop fun
    | .arr g' _ _=>match ahv g g' with
     |true=>k (.dv b g i (off+o)) h
     |false=>stop
    |_=>stop
   |_=>stop
 | .field t x f=>bh T t stop fun i=>CZ i f stop fun o ft=>bh T ft stop fun fi=>cG G s x stop fun
  | .agg c=>mK fi c o stop fun v=>k v h
  | .d (.agg c)=>qh .d c fun c'=>mK fi c' o stop fun v=>k v h
  |_=>stop
 | .nilCheck x=>cG G s x stop fun
  | .ptr b off=>bh h b stop fun
   | .cells _=>k (.ptr b off) h
   |_=>stop
  | .bT e off=>k (.bT e off) h
  | .dv b g i off=>bh h b stop fun
   | .arr g' _ _=>match ahv g g' with
    |true=>k (.dv b g i off) h
    |false=>stop
   |_=>stop
  |_=>stop
 | .binOp op t x y _=>bh T t stop fun i=>cG G s x stop fun a=>cG G s y stop fun b =>
  match op with
  | .quo=>match a with
   | .d (.int j n)=>CY .quo j n y stop fun v=>k v h
   |_=>stop
  | .rem=>match a with
   | .d (.int j n)=>CY .rem j n y stop fun v=>k v h
   |_=>stop
  |op=>Gl i op a b stop fun v=>k v h
 | .unOp .not _ x=>cG G s x stop fun
  | .d (.bool b)=>k (.d (.bool !b)) h
  |_=>stop
 | .unOp .neg _ x=>cG G s x stop fun
  | .d (.int j n)=>k (.d (.int j (j.wrap (0-n)))) h
  |_=>stop
 | .pick c a b=>cG G s c stop fun
  | .d (.bool true)=>cG G s a stop fun v=>k v h
  | .d (.bool false)=>cG G s b stop fun v=>k v h
  |_=>stop
 | .extract x i=>cG G s x stop fun
  | .aG l=>bh l i stop fun v=>k v h
  | .d (.aG l)=>bh l i stop fun v=>k (.d v) h
  |_=>stop
 | .convert t0 t x=>bh T t0 stop fun _=>bh T t stop fun i=>cG G s x stop fun v=>match i.k,v with
  | .int j,.d (.int _ n)=>k (.d (.int j (j.wrap n))) h
  | .string,.d (.str l)=>k (.d (.str l)) h
  |_,_=>stop
 | .build t parts=>bh T t stop fun i=>vY G s parts.toList stop fun ps=>match ahv i.zero.length i.size,ahw 0 i.size with
  |true,true=>qh .d i.zero fun z=>match i.k with
   | .struct fs=>C0 T fs stop fun pl=>yi (eB pl) ps z stop fun c=>yg c fun v=>k v h
   | .array _ e=>bh T e stop fun ei=>yi (fun i=>some (i*ei.size,ei.size)) ps z stop fun c=>yg c fun v=>k v h
   |_=>stop
  |_,_=>stop
 | .buildSlice t len parts=>bh T t stop fun i=>match i.k with
  | .slice e=>bh T e stop fun ei=>match ahv ei.zero.length ei.size,ahw 0 ei.size,ahw 0 len,Nat.ble (len*ei.size) 16777216,ei.zero.all DV.gd with
   |true,true,true,true,true=>vY G s parts.toList stop fun ps =>
    match ei.zero with
    |[z]=>vX len z fun zs=>qi ei.size ps zs stop fun l=>k (.d (.sl l)) h
    |zl=>vX len (.agg zl) fun zs=>qi ei.size ps zs stop fun l=>k (.d (.sl l)) h
   |_,_,_,_,_=>stop
  |_=>stop
 | .makeFunc f first captured=>vW G s first.toList stop fun a=>vW G s captured.toList stop fun b=>k (.fn f a b) h
 | .call { callee := .builtin .len,args:=args,argTypes:=ts }=>bh args.toList 0 stop fun x=>bh ts.toList 0 stop fun t=>bh T t stop fun i=>cG G s x stop fun v=>match i.k,v with
  | .slice _,.d (.sl l)=>k (.d (.int .i64 l.length)) h
  | .string,.d (.str l)=>k (.d (.int .i64 l.length)) h
  | .slice _,.d .aF=>k (.d (.int .i64 0)) h
  | .slice _,.own b g=>bh h b stop fun
   | .arr g' _ l=>match ahv g g' with
    |true=>k (.d (.int .i64 l.length)) h
    |false=>stop
   |_=>stop
  |_,_=>stop
 |_=>stop
def cz(s:List AV)(d:Option Nat)(v:AV)(k:List AV->α):α :=
 match d with
 |some d=>iA s d v k
 |none=>k s
end ops
end Go.az
end
section
namespace Go.az
open Go
structure pr(en:Array MapEntry)(ck n:Nat):Prop where
 size:en.size=n
 born:∀ x∈en.toList,x.born<ck
 nodup:(en.toList.map (·.born)).Nodup
 idx:∀ (j:Nat) (x:MapEntry),en[j]?=some x->x.born=j
 tick:ck=n
theorem pr.push{en:Array MapEntry}{ck n:Nat}(h:pr en ck n)(u w:Value):pr (en.push { key:=u,val:=w,born:=ck }) (ck+1) (n+1):=by
 refine⟨by simp[h.size],fun x hx=>?_,?_,fun j x hj=>?_,by rw[h.tick]⟩
 ·rw[ahX,List.mem_append]at hx;rcases hx with hx|hx
  ·have:=h.born x hx;omega
  ·simp at hx;subst hx;simp
 ·rw[ahX,List.map_append,List.nodup_append];refine⟨h.nodup,by simp,fun a ha b hb=>?_⟩;obtain⟨x,hx,rfl⟩:=ahY.1 ha;have:=h.born x hx;simp at hb;omega
 ·rw[Array.getElem?_push]at hj;split at hj
  ·rename_i e;cases hj;rw[e,h.size];exact h.tick
  ·exact h.idx j x hj
theorem pr.modify{en:Array MapEntry}{ck n:Nat}(h:pr en ck n)(i:Nat)(u w:Value):pr (en.modify i fun e=>{ e with key:=u,val:=w }) ck n:=by
 have hm:(en.modify i fun e=>{ e with key:=u,val:=w }).toList.map (·.born)=en.toList.map (·.born):=by
  apply List.ext_getElem?;intro j;simp only[ahy,ahP,ahZ];by_cases hj:i=j
  ·rw[if_pos hj];cases en[j]? <;> rfl
  ·rw[if_neg hj]
 refine⟨by simp[h.size],fun x hx=>?_,by rw[hm];exact h.nodup,fun j x hj=>?_,h.tick⟩
 case refine_2 =>
  have e:(en.toList.map (·.born))[j]?=some x.born:=by rw[<- hm,ahy,ahP,hj];rfl
  simp only[ahy,ahP,ahF]at e;obtain⟨y,hy,e⟩:=e;rw[<- e];exact h.idx j y hy
 have:x.born∈en.toList.map (·.born):=by rw[<- hm];exact List.mem_map_of_mem hx
 obtain⟨y,hy,e⟩:=ahY.1 this;rw[<- e];exact h.born y hy
def lp(c:Cx)(i:Nat):ae->Prop
 | .cells cs=>∃ (blk cap:Nat) (vs:Array Value) (ty:TypeId),c.own i=some (blk,cap)/\c.w.heap[blk]?=some (.cells vs ty (0,0))/\vs.size=cs.length /\
   ∀ (j:Nat) (x:AV) (v:Value),cs[j]?=some x->vs[j]?=some v->VR c x v
 | .arr _ ts l=>0<ts.2/\(∀ (i:Nat) (e:DV),l[i]?=some e->e.cells.length=ts.2) /\
   ((c.own i=none/\l=[])\/∃ (blk cap:Nat) (vs:Array Value),c.own i=some (blk,cap)/\c.w.heap[blk]?=some (.cells vs ts.1 (0,0))/\vs.size=cap*ts.2/\l.length<=cap/\cap<=maxLen /\
    ∀ (i j:Nat) (e x:DV),l[i]?=some e->e.cells[j]?=some x->∃ v,vs[i*ts.2+j]?=some v/\v.oneCell'=true/\VD c.bad c.w x v)
 | .map es=>∃ (blk cap:Nat) (en:Array MapEntry) (ck:Nat),c.own i=some (blk,cap)/\c.w.heap[blk]?=some (.map en ck)/\pr en ck es.length /\
   ∀ (j:Nat) (k x:DV) (m:MapEntry),es[j]?=some (k,x)->en[j]?=some m->VD c.bad c.w k m.key/\VD c.bad c.w x m.val
 | .gone=>c.own i=none
 | .hole=>c.own i=none
structure aO(G:List (Nat × DV))(c:Cx):Prop where
 bV:∀ b,c.aD b->b<c.w.heap.size
 bD:∀ i b n,c.own i=some (b,n)->b<c.w.heap.size/\i<c.heap.length
 inj:∀ i j b n m,c.own i=some (b,n)->c.own j=some (b,m)->i=j
 sep:∀ i b n,c.own i=some (b,n)->¬ c.aD b
 box:∀ i bx,c.heap[i]?=some bx->lp c i bx
 gI:∀ g e,(g,e)∈G->VR c (.bT e 0) (.pointer (some ⟨g,0,none⟩))
def VS(c:Cx)(s:List AV)(t:Array Value):Prop:=s.length=t.size/\∀ (i:Nat) (x:AV) (v:Value),s[i]?=some x->t[i]?=some v->VR c x v
theorem Step.vs{c c':Cx}(h:Step c c'){s:List AV}{t:Array Value}(hv:VS c s t):VS c' s t:=⟨hv.1,fun i x v hx ht=>h.vr (hv.2 i x v hx ht)⟩
theorem VS.put{c:Cx}{s:List AV}{t:Array Value}(hv:VS c s t)(d:Nat){x:AV}{v:Value}(hx:VR c x v):VS c (s.set d x) (t.setIfInBounds d v):=by
 refine⟨zD hv.1,fun i y u hy hu=>?_⟩;by_cases hd:d=i
 ·subst hd;have h1:d<s.length:=by
   rcases ahs d s.length with h|h
   ·exact h
   ·rw[aht (zD h)]at hy;cases hy
  have h2:d<t.size:=by rw[<- hv.1];exact h1
  rw[ahQ h1]at hy;rw[Array.getElem?_setIfInBounds_self_of_lt h2]at hu;cases hy;cases hu;exact hx
 ·rw[ahR hd]at hy;rw[Array.getElem?_setIfInBounds_ne hd]at hu;exact hv.2 i y u hy hu
theorem lp.keep{c c':Cx}(h:Step c c'){i:Nat}{bx:ae}(hb:lp c i bx)(ho:c'.own i=c.own i)(hw:∀ b n,c.own i=some (b,n)->c'.w.heap[b]?=c.w.heap[b]?):lp c' i bx:=by
 cases bx with
 |cells cs =>
  obtain⟨blk,cap,vs,ty,h1,h2,h3,h4⟩:=hb;exact⟨blk,cap,vs,ty,ho.trans h1,(hw blk cap h1).trans h2,h3,fun j x v hx hv=>h.vr (h4 j x v hx hv)⟩
 |arr g ts l =>
  obtain⟨h0,h1,h2⟩:=hb;refine⟨h0,h1,?_⟩;rcases h2 with⟨h2,h3⟩|⟨blk,cap,vs,h2,h3,h4,h5,h6,h7⟩
  ·exact .inl ⟨ho.trans h2,h3⟩
  ·refine .inr ⟨blk,cap,vs,ho.trans h2,(hw blk cap h2).trans h3,h4,h5,h6,fun i j e x he hx=>?_⟩;obtain⟨v,h8,Al,h9⟩:=h7 i j e x he hx;exact⟨v,h8,Al,h.vd h9⟩
 |map es =>
  obtain⟨blk,cap,en,ck,h1,h2,h3,h4⟩:=hb;exact⟨blk,cap,en,ck,ho.trans h1,(hw blk cap h1).trans h2,h3,fun j k x m hx hm=>⟨h.vd (h4 j k x m hx hm).1,h.vd (h4 j k x m hx hm).2⟩⟩
 |gone=>exact ho.trans hb
 |hole=>exact ho.trans hb
theorem aO.next{G:List (Nat × DV)}{c c':Cx}(h:aO G c)(hs:Step c c')(hl:∀ i b n,c'.own i=some (b,n)->b<c'.w.heap.size/\i<c'.heap.length)
  (hi:∀ i j b n m,c'.own i=some (b,n)->c'.own j=some (b,m)->i=j)
  (hb:∀ i bx,c'.heap[i]?=some bx->(c.heap[i]?=some bx/\c'.own i=c.own i/\∀ b n,c.own i=some (b,n)->c'.w.heap[b]?=c.w.heap[b]?)\/lp c' i bx):aO G c' where
 bV:=fun b hb=>ahD (h.bV b (by rw[<- hs.aD];exact hb)) hs.size
 bD:=hl
 inj:=hi
 sep:=fun i b n cu hb=>by
  rw[hs.aD]at hb;obtain⟨m,hj⟩:=hs.eh i b n cu (h.bV b hb);exact h.sep i b m hj hb
 box:=fun i bx hx=>(hb i bx hx).elim (fun⟨h1,h2,h3⟩=>(h.box i bx h1).keep hs h2 h3) id
 gI:=fun g e hg=>hs.vr (h.gI g e hg)
def Cx.fe(c:Cx)(w:World):Cx:={ c with w:=w }
theorem aO.grow{G:List (Nat × DV)}{c:Cx}(h:aO G c){w:World}(hx:Proofs.YtlhehdgciafakaaGreatDoor.Ext c.w w):aO G (c.fe w)/\Step c (c.fe w):=by
 have hs:Step c (c.fe w):=⟨rfl,h.bV,hx.os,hx.tape,hx.output,hx.size,fun b hb _=>hx.block b hb,fun i b n hi _=>⟨n,hi⟩,(Step.refl c h.bV).boxes⟩;exact⟨h.next hs (fun i b n hi=>⟨ahD (h.bD i b n hi).1 hx.size,(h.bD i b n hi).2⟩) h.inj (fun i bx hb => .inl ⟨hb,rfl,fun b n hn=>hx.block b (h.bD i b n hn).1⟩),hs⟩
def Gm(P:Program)(o:Oper)(a:Act)(w:World)(v:Value)(w':World):Prop :=
 (execOp a.eval o).run P w=.ok (.value v) w'\/(execOp a.eval o).run P w=.ok .skip w'/\v=undef
def bE(E:Env)(op:Op)(s:List AV)(h:List ae)(x:AV)(h':List ae):Prop :=
 ∀ (o:Oper) (c:Cx) (a:Act),o.op=op->c.heap=h->aO E.G c->VS c s a.tmps ->
  ∃ (c':Cx) (v:Value),Gm E.P o a c.w v c'.w/\c'.heap=h'/\aO E.G c'/\VR c' x v/\Step c c'
def bk(G:List (Nat × DV))(s:List AV)(x:Operand)(v:AV):Prop :=
 ∀ (c:Cx) (a:Act),aO G c->VS c s a.tmps->VR c v (a.eval x)
theorem bu{β:Type}{l:List β}{i:Nat}{stop:Prop}{k:β->Prop}(H:bh l i stop k):stop\/∃ x,l[i]?=some x/\k x:=by
 cases h:l[i]? with
 |none=>rw[Ly h]at H;exact .inl H
 |some x=>rw[CW h]at H;exact .inr ⟨x,rfl,H⟩
theorem cO{G:List (Nat × DV)}{s:List AV}{x:Operand}{stop:Prop}{k:AV->Prop}(H:cG G s x stop k):stop\/∃ v,bk G s x v/\k v:=by
 cases x with
 |tmp t =>
  rcases bu H with h|⟨v,hv,h⟩
  ·exact .inl h
  refine .inr ⟨v,fun c a _ hs=>?_,h⟩;have hl:t<a.tmps.size:=by
   rw[<- hs.1];rcases ahs t s.length with h|h
   ·exact h
   ·rw[aht h]at hv;cases hv
  have:=hs.2 t v a.tmps[t] hv (by simp[hl])
  simpa [Act.eval,hl]using this
 |const v =>
  simp only[cG,LD]at H;split at H<;>first
   |exact .inl H
   |exact .inr ⟨_,fun c a _ _ => .d _ _ (Lx rfl),H⟩
 |global g =>
  simp only[cG]at H;have:∀ l:List (Nat × DV),(∀ p∈l,p∈G)->CX l g stop k->stop\/∃ v,bk G s (.global g) v/\k v:=by
   intro l
   induction l with
   |nil=>exact fun _ h => .inl h
   |cons p l ih =>
    intro hm h;obtain⟨g',e⟩:=p;simp only[CX]at h;split at h
    ·rename_i hg;obtain rfl:g'=g:=ahu hg;exact .inr ⟨_,fun c a ho _=>ho.gI g' e (hm _ (List.mem_cons_self ..)),h⟩
    ·exact ih (fun p hp=>hm p (List.mem_cons_of_mem _ hp)) h
  exact this G (fun _ h=>h) H
 |func f=>exact .inr ⟨_,fun c a _ _ => .fn _ _ _ _ _ rfl rfl (fun j x v h=>by simp at h) (fun j x v h=>by simp at h),H⟩
theorem bE.quiet{E:Env}{op:Op}{s:List AV}{h:List ae}{x:AV}
  (H:∀ (o:Oper) (c:Cx) (a:Act),o.op=op->c.heap=h->aO E.G c->VS c s a.tmps->∃ v,(execOp a.eval o).run E.P c.w=.ok (.value v) c.w/\VR c x v):bE E op s h x h :=
 fun o c a h1 h2 h3 h4=>let ⟨v,h5,h6⟩:=H o c a h1 h2 h3 h4;⟨c,v,.inl h5,h2,h3,h6,Step.refl c h3.bV⟩
theorem TQ{E:Env}{s:List AV}{h:List ae}{x:Operand}{v:AV}(hx:bk E.G s x v):bE E (.move x) s h v h :=
 .quiet fun o c a h1 _ h3 h4=>⟨_,by simp only[execOp,h1];rfl,hx c a h3 h4⟩
theorem TR{E:Env}{s:List AV}{h:List ae}{x:Operand}{v:AV}(hx:bk E.G s x v):bE E (.assign x) s h v h :=
 .quiet fun o c a h1 _ h3 h4=>⟨_,by simp only[execOp,h1];rfl,hx c a h3 h4⟩
end Go.az
end
section
namespace Go.az
open Go
section
variable {E:Env} {s:List AV} {h:List ae} {c:Cx}
theorem vZ{b:Bool}{v:Value}(h:VR c (.d (.bool b)) v):v=.bool b:=by cases h with|d _ _ h=>cases h;rfl
theorem eT{k:IntKind}{n:Int}{v:Value}(h:VR c (.d (.int k n)) v):v=.int k n:=by cases h with|d _ _ h=>cases h;rfl
theorem qX{l:List UInt8}{v:Value}(h:VR c (.d (.str l)) v):v=.string ⟨l.toArray⟩:=by cases h with|d _ _ h=>cases h;rfl
def VL(c:Cx)(l:List AV)(vs:List Value):Prop:=l.length=vs.length/\∀ (j:Nat) (x:AV) (v:Value),l[j]?=some x->vs[j]?=some v->VR c x v
theorem VL.nil:VL c [] []:=⟨rfl,fun j x v h=>by simp at h⟩
theorem VL.cons{x:AV}{v:Value}{l:List AV}{vs:List Value}(h:VR c x v)(hl:VL c l vs):VL c (x::l) (v::vs) :=
 ⟨by simp[hl.1],fun j y u hy hu=>by
  cases j with
  |zero=>simp at hy hu;subst hy;subst hu;exact h
  |succ j=>exact hl.2 j y u (zD hy) (zD hu)⟩
theorem VL.head{x:AV}{v:Value}{l:List AV}{vs:List Value}(h:VL c (x::l) (v::vs)):VR c x v/\VL c l vs :=
 ⟨h.2 0 x v rfl rfl,zD h.1,fun j y u hy hu=>h.2 (j+1) y u (zD hy) (zD hu)⟩
theorem VL.set{x:AV}{v:Value}{l:List AV}{vs:List Value}(h:VL c l vs)(i:Nat)(hx:VR c x v):VL c (l.set i x) (vs.set i v):=by
 have:=VS.put (t:=vs.toArray) (s:=l) ⟨zD h.1,fun j y u hy hu=>h.2 j y u hy (zD hu)⟩ i hx;exact⟨zD h.1,fun j y u hy hu=>this.2 j y u hy (zD hu)⟩
theorem VL.dX:∀ {xs:List AV} {us:List Value} {cs:List AV} {os:List Value} (_:VL c cs os) (off:Nat) (_:VL c xs us),VL c (dX cs off xs) (az.dX os off us):=by
 intro xs
 induction xs with
 |nil=>intro us cs os hc off hx;obtain rfl:us=[]:=ahM hx.1.symm;exact hc
 |cons x xs ih =>
  intro us cs os hc off hx;cases us with
  |nil=>simp[VL]at hx
  |cons u us=>exact ih (hc.set off hx.head.1) (off+1) hx.head.2
theorem VL.drop{l:List AV}{vs:List Value}(h:VL c l vs)(n:Nat):VL c (l.drop n) (vs.drop n) :=
 ⟨by simp[h.1],fun j y u hy hu=>h.2 (n+j) y u (zD hy) (zD hu)⟩
theorem VL.take{l:List AV}{vs:List Value}(h:VL c l vs)(n:Nat):VL c (l.take n) (vs.take n) :=
 ⟨by simp[h.1],fun j y u hy hu=>by
  rw[ahS]at hy hu;split at hy
  ·rename_i hj;rw[if_pos hj]at hu;exact h.2 j y u hy hu
  ·cases hy⟩
theorem VL.v7{l:List DV}{vs:List Value}(hl:l.length=vs.length)(h:∀ (j:Nat) (x:DV) (v:Value),l[j]?=some x->vs[j]?=some v->VD c.bad c.w x v):VL c (l.map .d) vs :=
 ⟨zD hl,fun j y u hy hu=>by
  rw[ahy]at hy;cases hx:l[j]? with
  |none=>rw[hx]at hy;cases hy
  |some x=>rw[hx]at hy;cases hy;exact .d _ _ (h j x u hx hu)⟩
theorem VL.qY{l:List DV}{vs:List Value}(h:VL c (l.map .d) vs):∀ (j:Nat) (x:DV) (v:Value),l[j]?=some x->vs[j]?=some v->VD c.bad c.w x v:=fun j x v hx hv=>by
 have:=h.2 j (.d x) v (by rw[ahy,hx];rfl) hv;cases this with|d _ _ h=>exact h
theorem Step.vl{c c':Cx}(h:Step c c'){l:List AV}{vs:List Value}(hv:VL c l vs):VL c' l vs:=⟨hv.1,fun j x v hx hu=>h.vr (hv.2 j x v hx hu)⟩
theorem yj{l:List AV}{vs:List Value}(h:VL c l vs):VR c (.agg l) (.agg vs.toArray) :=
 .agg l vs.toArray (zD h.1) (fun j x v hx hv=>h.2 j x v hx (zD hv))
theorem Am{l:List AV}{k:AV->Prop}(H:yg l k):∃ v,k v/\∀ (c:Cx) (vs:List Value),VL c l vs->VR c v (.agg vs.toArray):=by
 unfold yg at H;rcases Aj l (k (.agg l)) (fun l'=>k (.d (.agg l')))with⟨l',h1,h2⟩|h2
 ·rw[h2]at H;refine⟨_,H,fun c vs hv => .d _ _ (.agg _ _ (by have:=hv.1;rw[h1]at this;simpa using this) ?_)⟩;rw[h1]at hv;exact fun j x v hx fu=>hv.qY j x v hx (zD fu)
 ·rw[h2]at H;exact⟨_,H,fun c vs hv=>yj hv⟩
theorem Gn{l:List DV}{v:Value}(h:VR c (.d (.agg l)) v):∃ vs:List Value,v=.agg vs.toArray/\VL c (l.map .d) vs:=by
 cases h with
 |d _ _ h=>cases h with
  |agg _ vs hl hv=>exact⟨vs.toList,by simp,.v7 (zD hl) (fun j x v hx hu=>hv j x v hx (zD hu))⟩
theorem qZ{l:List AV}{v:Value}(h:VR c (.agg l) v):∃ vs:List Value,v=.agg vs.toArray/\VL c l vs:=by
 cases h with
 |agg _ vs hl hv=>exact⟨vs.toList,by simp,zD hl,fun j x v hx hu=>hv j x v hx (zD hu)⟩
theorem An{bad:Nat->Prop}{w:World}{x:DV}{v:Value}(h:VD bad w x v)(h1:x.gd=true):v.oneCell'=true:=by
 cases h<;>first|rfl|assumption|cases h1
theorem Gp{x:AV}{v:Value}(h:VR c x v)(h1:x.gd=true):v.oneCell'=true:=by
 cases h with
 |d y v hy=>exact An hy h1
 |_=>first|rfl|assumption|cases h1
theorem cells_one{v:Value}(h:v.oneCell'=true):v.cells = #[v]:=by
 cases v<;>first|rfl|cases h
def Gq(x:AV)(l:List AV):Prop:=∀ (c:Cx) (v:Value),VR c x v->∃ vs:List Value,v.cells=vs.toArray/\VL c l vs
theorem C1{x:AV}{stop:Prop}{k:List AV->Prop}(H:yh x stop k):stop\/∃ l,Gq x l/\k l:=by
 unfold yh at H;split at H
 ·rename_i l;exact .inr ⟨l,fun c v hv=>(by obtain⟨vs,rfl,h⟩:=qZ hv;exact⟨vs,rfl,h⟩),H⟩
 ·rename_i l;rw[vV]at H;exact .inr ⟨_,fun c v hv=>(by obtain⟨vs,rfl,h⟩:=Gn hv;exact⟨vs,rfl,h⟩),H⟩
 ·split at H
  ·rename_i hs;exact .inr ⟨[x],fun c v hv=>⟨[v],cells_one (Gp hv hs),.cons hv .nil⟩,H⟩
  ·exact .inl H
theorem cK{P:Program}{t:Nat}{i:bA}(h:fR P t=some i):∃ ti d,P.info? t=some ti/\P.underlying t=some d/\i.k=tk d/\i.size=ti.size/\i.bytes=ti.bytes/\i.zero=yd ti.zero:=by
 unfold fR at h;split at h
 ·rename_i ti d h1 h2;cases h;exact⟨ti,d,h1,h2,rfl,rfl,rfl,rfl⟩
 ·cases h
theorem C2{P:Program}{t:Nat}{i:bA}(h:fR P t=some i)(w:World):(isAgg t).run P w=.ok i.k.agg w:=by
 obtain⟨ti,d,h1,h2,h3,-⟩:=cK h;rw[h3];simp only[isAgg,underlying,bind,ahG,program,h2,pure,ahz];cases d<;>rfl
theorem run_sizeOf{P:Program}{t:Nat}{i:bA}(h:fR P t=some i)(w:World):(Go.sizeOf t).run P w=.ok i.size w:=by
 obtain⟨ti,d,h1,h2,h3,h4,-⟩:=cK h;simp only[Go.sizeOf,typeInfo,bind,ahG,program,h1,pure,ahz,h4]
def C3(w:World)(b o:Nat)(vs:List Value):Prop:=∀ j v,vs[j]?=some v->w.cell? ⟨b,o+j,none⟩=some v
theorem oy(b o j:Nat):(⟨b,o,none⟩:Addr).add j=⟨b,o+j,none⟩:=by unfold Addr.add;split<;>simp_all
theorem TS{P:Program}{t:Nat}{i:bA}(h:fR P t=some i){w:World}{b o:Nat}{vs:List Value}(hr:C3 w b o vs)(hs:vs.length=i.size)(gT:i.k.agg=true) :
  (Instr.loadAt t (.pointer (some ⟨b,o,none⟩))).run P w=.ok (.agg vs.toArray) w:=by
 have h1:=run_loadCells_list (P:=P) w ⟨b,o,none⟩ vs (fun j v hv=>by rw[oy];exact hr j v hv);rw[hs]at h1;simp only[Instr.loadAt,Instr.sureAddr,loadVar,ahq,ahp,ahr,C2 h,gT,run_sizeOf h,h1,if_true]
theorem TT{P:Program}{t:Nat}{i:bA}(h:fR P t=some i){w:World}{a:Addr}{v:Value}(hr:w.cell? a=some v)(gT:i.k.agg=false) :
  (Instr.loadAt t (.pointer (some a))).run P w=.ok v w:=by
 simp only[Instr.loadAt,Instr.sureAddr,loadVar,ahq,ahp,ahr,C2 h,gT,ah0,if_false,load,ahz,hr]
theorem C4{i:bA}{l:List AV}{off:Nat}{stop:Prop}{k:AV->Prop}(H:mK i l off stop k):stop\/∃ x,k x/\∀ (P:Program) (t:Nat) (c:Cx) (b o:Nat) (vs:List Value),fR P t=some i->VL c l vs->C3 c.w b o vs ->
  ∃ v,(Instr.loadAt t (.pointer (some ⟨b,o+off,none⟩))).run P c.w=.ok v c.w/\VR c x v:=by
 unfold mK at H;split at H
 ·rename_i gT;rw[Gf,LC]at H;split at H
  ·rename_i hl;obtain⟨x,hx,h⟩:=Am H;refine .inr ⟨x,hx,fun P t c b o vs ht hv hr=>⟨_,TS ht (b:=b) (o:=o+off) (vs:=(vs.drop off).take i.size) (fun j v hj=>?_) ?_ gT,h c _ ((hv.drop off).take _)⟩⟩
   ·rw[ahS]at hj;split at hj
    ·have:=hr (off+j) v (zD hj);rwa [<- ahE]at this
    ·cases hj
   ·have:=ahu hl;simp only[ah1,List.length_drop]at this ⊢;rw[<- hv.1];exact this
  ·exact .inl H
 ·rename_i gT;rcases bu H with h|⟨x,hx,h⟩
  ·exact .inl h
  refine .inr ⟨x,h,fun P t c b o vs ht hv hr=>?_⟩;have ai:off<vs.length:=by
   rw[<- hv.1];rcases ahs off l.length with h|h
   ·exact h
   ·rw[aht h]at hx;cases hx
  exact⟨vs[off],TT ht (hr off _ (by simp[ai])) gT,hv.2 off x _ hx (by simp[ai])⟩
end
end Go.az
end
section
namespace Go.az
open Go Go.RowKit
section
variable {E:Env} {s:List AV} {h:List ae} {c:Cx} {G:List (Nat × DV)}
theorem C5(b:Nat):∀ (vs:List Value) (o:Nat) (w:World),(w.setCells b o vs).os=w.os/\(w.setCells b o vs).tape=w.tape/\(w.setCells b o vs).output=w.output/\(w.setCells b o vs).heap.size=w.heap.size
 |[],_,_=>⟨rfl,rfl,rfl,rfl⟩
 |v::r,o,w=>by
  obtain⟨h1,h2,h3,h4⟩:=C5 b r (o+1) (w.setCell ⟨b,o,none⟩ v);exact⟨h1,h2,h3,h4.trans sP⟩
theorem yk(b:Nat):∀ (vs:List Value) (o:Nat) (w:World) (k:Nat),k≠b->(w.setCells b o vs).heap[k]?=w.heap[k]?
 |[],_,_,_,_=>rfl
 |v::r,o,w,k,hk=>by
  have:=yk b r (o+1) (w.setCell ⟨b,o,none⟩ v) k hk;exact this.trans (Below.heap_setCell w _ v k hk)
theorem C6(b:Nat)(ty:TypeId)(fr:Nat × Nat):∀ (vs:List Value) (o:Nat) (w:World) (cur:Array Value),w.heap[b]?=some (.cells cur ty fr) ->
  (w.setCells b o vs).heap[b]?=some (.cells (dX cur.toList o vs).toArray ty fr)
 |[],_,_,cur,hb=>by simpa [dX,World.setCells]using hb
 |v::r,o,w,cur,hb=>by
  have h1:(w.setCell ⟨b,o,none⟩ v).heap[b]?=some (.cells (cur.setIfInBounds o v) ty fr):=by
   simp only[World.setCell,ahZ,if_true,hb,Option.map_some];rfl
  have:=C6 b ty fr r (o+1) (w.setCell ⟨b,o,none⟩ v) _ h1
  simpa [dX,World.setCells]using this
theorem Ao{β:Type}:∀ (vs:List β) (o:Nat) (l:List β),(dX l o vs).length=l.length
 |[],_,_=>rfl
 |v::r,o,l=>by simp[dX,Ao r]
theorem mL{w:World}{b:Nat}{vs:Array Value}{ty:TypeId}{fr:Nat × Nat}(h:w.heap[b]?=some (.cells vs ty fr)):C3 w b 0 vs.toList:=fun j v hv=>by
 simp only[World.cell?,h,ahB]
 simpa using hv
theorem aO.cells(ho:aO G c){b:Nat}{cs:List AV}(hb:c.heap[b]?=some (.cells cs)):∃ (blk cap:Nat) (vs:Array Value) (ty:TypeId),c.own b=some (blk,cap)/\c.w.heap[blk]?=some (.cells vs ty (0,0))/\VL c cs vs.toList:=by
 obtain⟨blk,cap,vs,ty,h1,h2,h3,h4⟩:=ho.box b _ hb;exact⟨blk,cap,vs,ty,h1,h2,zD h3.symm,fun j x v hx hv=>h4 j x v hx (zD hv)⟩
theorem TU(hE:E.OK){t:Nat}{x:Operand}{i:bA}(hi:E.T[t]?=some i){a:AV}(ha:bk E.G s x a){stop:Prop}{k:AV->Prop}(H:Gh i h a stop k):stop\/∃ v,k v/\bE E (.load t x) s h v h:=by
 have ht:=hE.types t i hi;have run:∀ (o:Oper) (ac:Act) (w:World) (v:Value),o.op=.load t x->(Instr.loadAt t (ac.eval x)).run E.P w=.ok v w->(execOp ac.eval o).run E.P w=.ok (.value v) w:=fun o ac w v h1 h2=>by
  simp only[execOp,h1,ahq,h2,ahr,ahp]
 unfold Gh at H;split at H
 ·rename_i b off;rcases bu H with h1|⟨bx,hb,H⟩
  ·exact .inl h1
  split at H
  ·rename_i cs;rcases C4 H with h1|⟨v,hk,hp⟩
   ·exact .inl h1
   refine .inr ⟨v,hk,.quiet fun o c ac h1 h2 h3 h4=>?_⟩;subst h2;obtain⟨blk,cap,vs,ty,g1,g2,g3⟩:=h3.cells hb;have hv:=ha c ac h3 h4;obtain⟨u,hu,sF⟩:=hp E.P t c blk 0 vs.toList ht g3 (mL g2);refine⟨u,run o ac c.w u h1 ?_,sF⟩;generalize ac.eval x=p at hv;cases hv with
   |ptr b off cs' jL iV cB du =>
    rw[g1]at du;cases du
    rwa [ahB]at hu
   |jK b off v' cB _=>rw[hb]at cB;cases cB
  ·exact .inl H
 ·rename_i e off;have key:∀ l:List AV,l=e.cells.map .d->mK i l off stop k->stop\/∃ v,k v/\bE E (.load t x) s h v h:=fun l hl H=>by
   rcases C4 H with h1|⟨v,hk,hp⟩
   ·exact .inl h1
   refine .inr ⟨v,hk,.quiet fun o c ac h1 h2 h3 h4=>?_⟩;have hv:=ha c ac h3 h4;generalize uq:ac.eval x=p at hv;cases hv with
   |bT _ _ blk o' f qf aL dQ bJ =>
    obtain⟨u,hu,sF⟩:=hp E.P t c blk o' ((List.range e.cells.length).map f) ht (by
      rw[hl];refine .v7 sP (fun j y v hy hv=>?_);have hj:j<e.cells.length:=by
       rcases ahs j e.cells.length with h|h
       ·exact h
       ·rw[aht h]at hy;cases hy
      simp[hj]at hv;subst hv;exact bJ j y hy) (fun j v hv=>by
      rcases ahs j e.cells.length with hj|hj
      ·simp[hj]at hv;subst hv;exact dQ j e.cells[j] (by simp[hj])
      ·rw[aht (zD hj)]at hv;cases hv)
    exact⟨u,run o ac c.w u h1 (by rw[uq];exact hu),sF⟩
  split at H
  ·rename_i l;rw[vV]at H;exact key _ rfl H
  ·rename_i qj;exact key _ (by cases e<;>first|rfl|exact absurd rfl (qj _)) H
 ·exact .inl H
theorem LF{P:Program}{t:Nat}{i:bA}(ht:fR P t=some i){w:World}{b o:Nat}{v:Value}{vs:List Value}(hv:v.cells=vs.toArray)(hs:vs.length=i.size){cur:Array Value}{ty:TypeId}(hb:w.heap[b]?=some (.cells cur ty (0,0)))
  (jM:o+vs.length<=cur.size) (h1:∀ u∈vs,u.oneCell'=true):(Instr.storeAt t (.pointer (some ⟨b,o,none⟩)) v).run P w=.ok () (w.setCells b o vs):=by
 have bc:=run_storeCells_cells (P:=P) b o vs 0 w (fun j hj=>by
   simp only[World.cell?,hb]
   simp;omega) (fun j hj=>by simp[World.frozen?,hb]) h1
 simp only[Instr.storeAt,Instr.sureAddr,storeVar,ahq,ahp,ahr,run_sizeOf ht,hv];simp only[List.size_toArray,hs,ne_eq,not_true_eq_false,if_false]
 simpa using bc
theorem aO.write(ho:aO G c){b blk cap:Nat}{cs cs':List AV}{vs:Array Value}{ty:TypeId}(hb:c.heap[b]?=some (.cells cs))(bN:c.own b=some (blk,cap))(hblk:c.w.heap[blk]?=some (.cells vs ty (0,0)))
  {us:List Value} {off:Nat} (hl:cs'.length=cs.length) (hv:VL c cs' (dX vs.toList off us)) :
  let c':Cx:={ c with heap:=c.heap.set b (.cells cs'),w:=c.w.setCells blk off us }
  aO G c'/\Step c c':=by
 intro c';obtain⟨e1,e2,e3,e4⟩:=C5 blk us off c.w;have fE:b<c.heap.length:=(ho.bD b blk cap bN).2
 have hs:Step c c':={
  aD:=rfl
  bV:=ho.bV
  os:=e1
  tape:=e2
  output:=e3
  size:=Nat.le_of_eq e4.symm
  keep:=fun x _ hn=>yk blk us off c.w x (fun e=>hn b cap (by rw[e];exact bN))
  eh:=fun i x n hi _=>⟨n,hi⟩
  boxes:=fun i bx hi=>by
   by_cases bL:i=b
   ·subst bL;rw[hb]at hi;cases hi;exact .inl ⟨cs',by show(c.heap.set i _)[i]?=_;rw[ahQ fE],rfl,hl⟩
   ·have h':c'.heap[i]?=some bx:=by show(c.heap.set b _)[i]?=_;rw[ahR (Ne.symm bL)];exact hi
    cases bx with
    |cells cs=>exact .inl ⟨cs,h',rfl,rfl⟩
    |arr g sz l=>exact .inl ⟨g,l,h',.inr ⟨rfl,rfl,rfl⟩⟩
    |map es=>exact .inl ⟨es,h',rfl⟩
    |gone=>exact h'
    |hole=>exact⟨_,h'⟩ }
 refine⟨ho.next hs (fun i x n hi=>⟨by show x<(c.w.setCells blk off us).heap.size;rw[e4];exact(ho.bD i x n hi).1,by show i<(c.heap.set b _).length;rw[List.length_set];exact(ho.bD i x n hi).2⟩) ho.inj (fun i bx hi=>?_),hs⟩;by_cases bL:i=b
 ·subst bL;have cu:(c.heap.set i (.cells cs'))[i]?=some bx:=hi;rw[ahQ fE]at cu;cases cu;right;have fu:=hs.vl hv;exact⟨blk,cap,(dX vs.toList off us).toArray,ty,bN,C6 blk ty (0,0) us off c.w vs hblk,zD fu.1.symm,fun j x v hx hu=>fu.2 j x v hx (zD hu)⟩
 ·left;have cu:(c.heap.set b (.cells cs'))[i]?=some bx:=hi;rw[ahR (Ne.symm bL)]at cu;exact⟨cu,rfl,fun x n hn=>yk blk us off c.w x (fun e=>bL (ho.inj i b blk n cap (by rw[<- e];exact hn) bN))⟩
theorem TV(hE:E.OK){t:Nat}{x y:Operand}{i:bA}(hi:E.T[t]?=some i){a v:AV}(ha:bk E.G s x a)(hv:bk E.G s y v){stop:Prop}{k:List ae->Prop}(H:Gi i h a v stop k):stop\/∃ h',k h'/\bE E (.store t x y) s h (.d .undef) h':=by
 have ht:=hE.types t i hi;unfold Gi at H;split at H
 ·rename_i b off;rcases bu H with h1|⟨bx,hb,H⟩
  ·exact .inl h1
  split at H
  ·rename_i cs;rcases C1 H with h1|⟨l,hl,H⟩
   ·exact .inl h1
   split at H
   ·rename_i q1 q2 q3;rw[Gg,jk]at H;refine .inr ⟨_,H,fun o c ac h1 h2 h3 h4=>?_⟩;subst h2;have hp:=ha c ac h3 h4;have hu:=hv c ac h3 h4;obtain⟨blk,cap,vs,ty,g1,g2,g3⟩:=h3.cells hb;obtain⟨us,v8,l8⟩:=hl c _ hu;have q1:=ahu q1;have q2:=ahA q2;have jM:off+us.length<=vs.size:=by
     rw[<- l8.1];have:=g3.1;simp at this;omega
    have bW:∀ u∈us,u.oneCell'=true:=fun u hu=>by
     obtain⟨j,hj,rfl⟩:=List.getElem_of_mem hu;have ra:j<l.length:=by rw[l8.1];exact hj
     exact Gp (l8.2 j l[j] us[j] (by simp[ra]) (by simp[hj])) (ahH.1 q3 _ (List.getElem_mem ra))
    have cL:(Instr.storeAt t (ac.eval x) (ac.eval y)).run E.P c.w=.ok () (c.w.setCells blk off us):=by
     generalize ac.eval x=p at hp;cases hp with
     |ptr b off cs' jL iV cB du =>
      rw[g1]at du;cases du;exact LF ht v8 (by rw[<- l8.1];exact q1) g2 jM bW
     |jK b off v' cB _=>rw[hb]at cB;cases cB
    obtain⟨w1,w2⟩:=h3.write (cs':=dX cs off l) (us:=us) (off:=off) hb g1 g2 (Ao _ _ _) (VL.dX g3 off l8);refine⟨_,Go.undef,.inr ⟨?_,rfl⟩,rfl,w1,.d _ _ .undef,w2⟩;simp only[execOp,h1,ahq,cL,ahr,ahp]
   ·exact .inl H
  ·exact .inl H
 ·exact .inl H
def Cx.add(c:Cx)(bx:ae)(cap:Nat)(o:Obj):Cx:={ c with own:=fun i=>if i=c.heap.length then some (c.w.heap.size,cap)else c.own i,heap:=c.heap++[bx],w:=c.w.alloc o }
theorem aO.add(ho:aO G c)(bx:ae)(cap:Nat)(o:Obj):Step c (c.add bx cap o)/\(lp (c.add bx cap o) c.heap.length bx->aO G (c.add bx cap o)):=by
 have bI:∀ i b n,c.own i=some (b,n)->i≠c.heap.length:=fun i b n hi e=>by have:=(ho.bD i b n hi).2;omega
 have hs:Step c (c.add bx cap o):={
  aD:=rfl
  bV:=ho.bV
  os:=rfl
  tape:=rfl
  output:=rfl
  size:=by simp[Cx.add]
  keep:=fun x hx _=>Below.heap_alloc c.w o x hx
  eh:=fun i x n hi hx=>by
   simp only[Cx.add]at hi;split at hi
   ·cases hi;omega
   ·exact⟨n,hi⟩
  boxes:=fun i b hi=>by
   have ai:i<c.heap.length:=by
    rcases ahs i c.heap.length with h|h
    ·exact h
    ·rw[aht h]at hi;cases hi
   have h':(c.add bx cap o).heap[i]?=some b:=by simp only[Cx.add];rw[ahT ai];exact hi
   have sG:(c.add bx cap o).own i=c.own i:=by simp only[Cx.add];rw[if_neg oM]
   cases b with
   |cells cs=>exact .inl ⟨cs,h',sG,rfl⟩
   |arr g sz l=>exact .inl ⟨g,l,h',.inr ⟨rfl,rfl,sG⟩⟩
   |map es=>exact .inl ⟨es,h',sG⟩
   |gone=>exact h'
   |hole=>exact⟨_,h'⟩ }
 refine⟨hs,fun kb=>ho.next hs ?_ ?_ ?_⟩
 ·intro i b n hi;simp only[Cx.add]at hi ⊢;split at hi
  ·cases hi;simp;omega
  ·have:=ho.bD i b n hi;simp;omega
 ·intro i j b n m hi hj;simp only[Cx.add]at hi hj;split at hi<;>split at hj
  ·omega
  ·cases hi;have:=(ho.bD j _ _ hj).1;omega
  ·cases hj;have:=(ho.bD i _ _ hi).1;omega
  ·exact ho.inj i j b n m hi hj
 ·intro i b hi;by_cases hY:i=c.heap.length
  ·subst hY;right;have:b=bx:=by simp[Cx.add]at hi;exact hi.symm
   subst this;exact kb
  ·left;have ai:i<c.heap.length:=by
    rcases ahs i c.heap.length with h|h
    ·exact h
    ·rw[aht (by simp[Cx.add];omega)]at hi;cases hi
   refine⟨?_,by simp only[Cx.add];rw[if_neg hY],fun x n hn=>Below.heap_alloc c.w o x (ho.bD i x n hn).1⟩;simp only[Cx.add]at hi
   rwa [ahT ai]at hi
theorem aO.Gr(ho:aO G c){cs:List AV}{vs:List Value}(hv:VL c cs vs)(ty:TypeId) :
  let c':=c.add (.cells cs) 0 (.cells vs.toArray ty)
  aO G c'/\Step c c'/\VR c' (.ptr c.heap.length 0) (.pointer (some ⟨c.w.heap.size,0,none⟩)):=by
 intro c';obtain⟨h1,h2⟩:=ho.add (.cells cs) 0 (.cells vs.toArray ty);have e1:c'.own c.heap.length=some (c.w.heap.size,0):=by simp[c',Cx.add]
 have fu:=h1.vl hv;refine⟨h2 ⟨c.w.heap.size,0,vs.toArray,ty,e1,heap_alloc_new _ _,zD hv.1.symm,fun j x v hx hu=>fu.2 j x v hx (zD hu)⟩,h1,.ptr _ _ cs _ 0 ?_ e1⟩;simp[c',Cx.add]
theorem TW{t:Nat}{x:Operand}{v:AV}(hv:bk E.G s x v){l:List AV}(hl:Gq v l):bE E (.box t x) s h (.ptr h.length 0) (h++[.cells l]):=fun o c a h1 h2 h3 h4=>by
 subst h2;obtain⟨us,v8,l8⟩:=hl c _ (hv c a h3 h4);obtain⟨w1,w2,w3⟩:=h3.Gr l8 t;refine⟨_,_,.inl ?_,rfl,w1,w3,w2⟩;simp only[execOp,h1,Instr.box,newVar,newRow,newObj,ahq,ahz,ahr,ahp,v8];rfl
theorem LG:∀ {vs:List Value} {l:List DV},Ai (vs.map vS)=some l->l.length=vs.length/\∀ (j:Nat) (x:DV) (v:Value),l[j]?=some x->vs[j]?=some v->vS v=some x
 |[],l,h=>by cases h;exact⟨rfl,fun j x v h=>by simp at h⟩
 |v::vs,l,h=>by
  simp only[ahx]at h;cases hv:vS v with
  |none=>rw[hv]at h;cases h
  |some x =>
   rw[hv]at h;simp only[Ai,ahF]at h;obtain⟨l',h1,rfl⟩:=h;obtain⟨h2,h3⟩:=LG h1;refine⟨by simp[h2],fun j y u hy hu=>?_⟩;cases j with
   |zero=>simp at hy hu;subst hy;subst hu;exact hv
   |succ j=>exact h3 j y u (zD hy) (zD hu)
theorem LH{P:Program}{t:Nat}{i:bA}(ht:fR P t=some i)(hz:i.zero.length=i.size)(db:0<i.size):∃ z:Value,(∀ w,(zeroValue t).run P w=.ok z w)/\∀ c:Cx,∃ vs:List Value,z.cells=vs.toArray/\VL c (i.zero.map .d) vs:=by
 obtain⟨ti,d,h1,h2,h3,h4,h5,h6⟩:=cK ht;cases pt:ti.zero with
 |none=>rw[h6,pt]at hz;simp[yd]at hz;omega
 |some z =>
  rw[h6,pt]at hz;simp only[yd,Option.bind_some]at hz;cases ha:Ai (z.cells.toList.map vS)with
  |none=>rw[ha]at hz;simp at hz;omega
  |some l =>
   refine⟨z,fun w=>by simp only[zeroValue,typeInfo,bind,ahG,program,h1,pure,ahz,pt],fun c=>⟨z.cells.toList,by simp,?_⟩⟩;have:i.zero=l:=by rw[h6,pt];simp[yd,ha]
   rw[this];obtain⟨g1,g2⟩:=LG ha;exact .v7 g1 (fun j x v hx hu=>Lx (g2 j x v hx hu))
theorem TX(hE:E.OK){t:Nat}{i:bA}(hi:E.T[t]?=some i)(hz:i.zero.length=i.size)(db:0<i.size):bE E (.alloc t) s h (.ptr h.length 0) (h++[.cells (i.zero.map .d)]):=fun o c a h1 h2 h3 h4=>by
 subst h2;obtain⟨z,iB,iW⟩:=LH (hE.types t i hi) hz db;obtain⟨us,v8,l8⟩:=iW c;obtain⟨w1,w2,w3⟩:=h3.Gr l8 t;refine⟨_,_,.inl ?_,rfl,w1,w3,w2⟩;simp only[execOp,h1,Instr.alloc,newVar,newRow,newObj,ahq,ahz,ahr,ahp,iB,v8];rfl
end
end Go.az
end
section
namespace Go.az
open Go Go.RowKit
section
variable {E:Env} {s:List AV} {h:List ae} {c:Cx} {G:List (Nat × DV)}
theorem TY{x a b:Operand}{v:AV}(hx:bk E.G s x (.d (.bool true)))(ha:bk E.G s a v):bE E (.pick x a b) s h v h :=
 .quiet fun o c ac h1 _ h3 h4=>⟨_,by simp only[execOp,h1,vZ (hx c ac h3 h4),asBool,ahq,ahp,ahr,if_true],ha c ac h3 h4⟩
theorem TZ{x a b:Operand}{v:AV}(hx:bk E.G s x (.d (.bool false)))(hb:bk E.G s b v):bE E (.pick x a b) s h v h :=
 .quiet fun o c ac h1 _ h3 h4=>⟨_,by simp only[execOp,h1,vZ (hx c ac h3 h4),asBool,ahq,ahp,ahr];rfl,hb c ac h3 h4⟩
theorem yl(op:BinOp)(t:TypeId)(x y:Operand)(j j':IntKind)(a b:Int):eqGuard op t x y (.int j a) (.int j' b)=pure ():=by
 unfold eqGuard;cases op<;>rfl
theorem T0(op:BinOp)(t:TypeId)(x y:Operand)(a b:ByteArray):eqGuard op t x y (.string a) (.string b)=pure ():=by
 unfold eqGuard;cases op<;>rfl
theorem T1(op:BinOp)(t:TypeId)(x y:Operand)(a b:Bool):eqGuard op t x y (.bool a) (.bool b)=pure ():=by
 unfold eqGuard;cases op<;>rfl
theorem ur{j j':IntKind}(h:IntKind.same j j'=true):j=j':=by
 cases j<;>cases j'<;>first|rfl|cases h
theorem sH{P:Program}{o:Oper}{ac:Act}{w:World}{op:BinOp}{t t':TypeId}{x y:Operand}{u:Value}(h1:o.op=.binOp op t x y t')(hg:eqGuard op t x y (ac.eval x) (ac.eval y)=pure ())
  (h:(binOp op t (ac.eval x) (ac.eval y)).run P w=.ok u w):(execOp ac.eval o).run P w=.ok (.value u) w:=by
 simp only[execOp,h1,hg,ahq,ahp,ahr,h]
theorem ok_int{op:BinOp}{t t':TypeId}{x y:Operand}{j:IntKind}{a b:Int}(hx:bk E.G s x (.d (.int j a)))(hy:bk E.G s y (.d (.int j b))){stop:Prop}{k:AV->Prop}(H:Gj op j a b stop k) :
  stop\/∃ v,k v/\bE E (.binOp op t x y t') s h v h:=by
 unfold Gj at H;split at H;all_goals first
  |exact .inl H
  |refine .inr ⟨_,H,.quiet fun o c ac h1 _ h3 h4=>?_⟩
   have e1:=eT (hx c ac h3 h4);have e2:=eT (hy c ac h3 h4)
   refine⟨_,sH h1 (by rw[e1,e2];exact yl ..) (u:=?_) (by
    rw[e1,e2];simp only[binOp,ne_eq,not_true_eq_false,if_false,Op.intArith,Op.intCmp]
    rfl),.d _ _ (by constructor)⟩
theorem T2{op:BinOp}{t t':TypeId}{x y:Operand}{a b:List UInt8}(hx:bk E.G s x (.d (.str a)))(hy:bk E.G s y (.d (.str b))){stop:Prop}{k:AV->Prop}(H:Gk op a b stop k) :
  stop\/∃ v,k v/\bE E (.binOp op t x y t') s h v h:=by
 have tl:∀ l:List UInt8,(ByteArray.mk l.toArray).toList=l:=fun l=>by simp
 unfold Gk at H;split at H;all_goals first
  |exact .inl H
  |refine .inr ⟨_,H,.quiet fun o c ac h1 _ h3 h4=>?_⟩
   have e1:=qX (hx c ac h3 h4);have e2:=qX (hy c ac h3 h4)
   refine⟨_,sH h1 (by rw[e1,e2];exact T0 ..) (u:=?_) (by
    rw[e1,e2];simp only[binOp,Op.stringOp,tl]
    rfl),.d _ _ (by constructor)⟩
theorem LI{op:BinOp}{t t':TypeId}{x y:Operand}{i:bA}(ht:fR E.P t=some i){a b:Bool}(hx:bk E.G s x (.d (.bool a)))(hy:bk E.G s y (.d (.bool b)))(hk:i.k=.bool)(v:Bool)
  (cH:op=.eql/\v=(a==b)\/op=.neq/\v = !(a==b)):bE E (.binOp op t x y t') s h (.d (.bool v)) h :=
 .quiet fun o c ac h1 _ h3 h4=>by
  have e1:=vZ (hx c ac h3 h4);have e2:=vZ (hy c ac h3 h4);obtain⟨ti,d,g1,g2,g3,-⟩:=cK ht;have hd:d=.bool:=by rw[hk]at g3;cases d<;>first|rfl|cases g3
  subst hd;have heq:∀ w,(Op.equal t (.bool a) (.bool b)).run E.P w=.ok (a==b) w:=fun w=>by
   have:∀ n,(Op.equalIn (n+1) t (.bool a) (.bool b)).run E.P w=.ok (a==b) w:=fun n=>by
    rw[Op.equalIn];simp only[ahq,run_underlying g2,ahr,ahp]
   exact this 9999
  refine⟨_,sH h1 (by rw[e1,e2];exact T1 ..) (u := .bool v) ?_,.d _ _ (.bool v)⟩;rw[e1,e2];rcases cH with⟨rfl,rfl⟩|⟨rfl,rfl⟩<;>simp only[binOp,ahq,heq,ahr,ahp]
theorem LJ{op:BinOp}{t t':TypeId}{x y:Operand}{j:IntKind}{a:Int}(cH:op=.quo\/op=.rem)(hx:bk E.G s x (.d (.int j a))){stop:Prop}{k:AV->Prop}(H:CY op j a y stop k) :
  stop\/∃ v,k v/\bE E (.binOp op t x y t') s h v h:=by
 unfold CY at H;split at H
 ·rename_i j' m;have aL:¬ (Int.ofNat (m+1)=0):=by intro h;cases h
  rcases cH with rfl|rfl
  ·dsimp only at H;split at H
   ·rename_i hs;obtain rfl:=ur hs;refine .inr ⟨_,H,.quiet fun o c ac h1 _ h3 h4=>⟨_,sH h1 (by rw[eT (hx c ac h3 h4)];exact yl ..) (u := .int j (j.wrap (a.tdiv (.ofNat (m+1))))) ?_,.d _ _ (.int _ _)⟩⟩;rw[eT (hx c ac h3 h4)];simp only[Act.eval,binOp,ne_eq,not_true_eq_false,if_false,Op.intDiv,aL,ahp]
   ·exact .inl H
  ·dsimp only at H;split at H
   ·rename_i hs;obtain rfl:=ur hs;refine .inr ⟨_,H,.quiet fun o c ac h1 _ h3 h4=>⟨_,sH h1 (by rw[eT (hx c ac h3 h4)];exact yl ..) (u := .int j (a.tmod (.ofNat (m+1)))) ?_,.d _ _ (.int _ _)⟩⟩;rw[eT (hx c ac h3 h4)];simp only[Act.eval,binOp,ne_eq,not_true_eq_false,if_false,Op.intDiv,aL,ahp]
   ·exact .inl H
 ·exact .inl H
theorem T3{op:BinOp}(cH:op ≠ .quo/\op ≠ .rem){t t':TypeId}{x y:Operand}{i:bA}(ht:fR E.P t=some i){a b:AV}(hx:bk E.G s x a)(hy:bk E.G s y b){stop:Prop}{k:AV->Prop}(H:Gl i op a b stop k) :
  stop\/∃ v,k v/\bE E (.binOp op t x y t') s h v h:=by
 unfold Gl at H;split at H
 ·split at H
  ·rename_i hs;obtain rfl:=ur hs;exact ok_int hx hy H
  ·exact .inl H
 ·exact T2 hx hy H
 ·split at H
  ·rename_i hk;exact .inr ⟨_,H,LI ht hx hy hk _ (.inl ⟨rfl,rfl⟩)⟩
  ·rename_i hk;exact .inr ⟨_,H,LI ht hx hy hk _ (.inr ⟨rfl,rfl⟩)⟩
  ·exact .inl H
 ·exact .inl H
theorem T4{t:TypeId}{x:Operand}{b:Bool}(hx:bk E.G s x (.d (.bool b))):bE E (.unOp .not t x) s h (.d (.bool !b)) h :=
 .quiet fun o c ac h1 _ h3 h4=>⟨.bool !b,by simp only[execOp,h1,vZ (hx c ac h3 h4),Op.unary,ahq,ahp,ahr],.d _ _ (.bool _)⟩
theorem T5{t:TypeId}{x:Operand}{j:IntKind}{n:Int}(hx:bk E.G s x (.d (.int j n))):bE E (.unOp .neg t x) s h (.d (.int j (j.wrap (0-n)))) h :=
 .quiet fun o c ac h1 _ h3 h4=>⟨.int j (j.wrap (0-n)),by simp only[execOp,h1,eT (hx c ac h3 h4),Op.unary,Op.intArith,ahq,ahp,ahr],.d _ _ (.int _ _)⟩
theorem T6{x:Operand}{n:Nat}{l:List AV}(hx:bk E.G s x (.aG l)){v:AV}(hv:l[n]?=some v):bE E (.extract x n) s h v h :=
 .quiet fun o c ac h1 _ h3 h4=>by
  have:=hx c ac h3 h4;generalize he:ac.eval x=u at this;cases this with
  |aG _ vs hl bJ =>
   have hn:n<vs.size:=by
    rw[<- hl];rcases ahs n l.length with h|h
    ·exact h
    ·rw[aht h]at hv;cases hv
   exact⟨vs[n],by simp only[execOp,h1,he,Instr.extract,ahq,ahp,ahr,ah2 hn],bJ n v vs[n] hv (by simp[hn])⟩
theorem T7{x:Operand}{n:Nat}{l:List DV}(hx:bk E.G s x (.d (.aG l))){v:DV}(hv:l[n]?=some v):bE E (.extract x n) s h (.d v) h :=
 .quiet fun o c ac h1 _ h3 h4=>by
  have:=hx c ac h3 h4;generalize he:ac.eval x=u at this;cases this with
  |d _ _ hd=>cases hd with
   |aG _ vs hl bJ =>
    have hn:n<vs.size:=by
     rw[<- hl];rcases ahs n l.length with h|h
     ·exact h
     ·rw[aht h]at hv;cases hv
    exact⟨vs[n],by simp only[execOp,h1,he,Instr.extract,ahq,ahp,ahr,ah2 hn],.d _ _ (bJ n v vs[n] hv (by simp[hn]))⟩
theorem ym{d:TypeDesc}{j:IntKind}(h:TK.int j=tk d):d=.int j:=by cases d<;>first|cases h<;>rfl|cases h
theorem uu{d:TypeDesc}(h:TK.string=tk d):d=.string:=by cases d<;>first|rfl|cases h
theorem mM{d:TypeDesc}{e:Nat}(h:TK.slice e=tk d):d=.slice e:=by cases d<;>first|cases h<;>rfl|cases h
theorem yn{d:TypeDesc}{n e:Nat}(h:TK.array n e=tk d):d=.array n e:=by cases d<;>first|cases h<;>rfl|cases h
theorem sJ{d:TypeDesc}{fs:List (Nat × Nat)}(h:TK.struct fs=tk d):∃ fl,d=.struct fl/\fs=fl.toList.map fun f=>(f.offset,f.type):=by
 cases d with
 |struct fl=>exact⟨fl,rfl,by injection h⟩
 |_=>cases h
theorem T8{t0 t:TypeId}{x:Operand}{i i0:bA}(ht:fR E.P t=some i)(Gs:fR E.P t0=some i0){j j':IntKind}{n:Int}(hk:i.k=.int j)(hx:bk E.G s x (.d (.int j' n))):bE E (.convert t0 t x) s h (.d (.int j (j.wrap n))) h :=
 .quiet fun o c ac h1 _ h3 h4=>by
  obtain⟨ti,d,g1,g2,g3,-⟩:=cK ht;obtain⟨C7,d0,k1,k2,-⟩:=cK Gs;obtain rfl:=ym (hk.symm.trans g3);refine⟨.int j (j.wrap n),?_,.d _ _ (.int _ _)⟩;simp only[execOp,h1,eT (hx c ac h3 h4),convert,ahq,run_underlying k2,run_underlying g2,ahr,Conv.intToInt,ahp]
theorem T9{t0 t:TypeId}{x:Operand}{i i0:bA}(ht:fR E.P t=some i)(Gs:fR E.P t0=some i0){l:List UInt8}(hk:i.k=.string)(hx:bk E.G s x (.d (.str l))):bE E (.convert t0 t x) s h (.d (.str l)) h :=
 .quiet fun o c ac h1 _ h3 h4=>by
  obtain⟨ti,d,g1,g2,g3,-⟩:=cK ht;obtain⟨C7,d0,k1,k2,-⟩:=cK Gs;obtain rfl:=uu (hk.symm.trans g3);refine⟨.string ⟨l.toArray⟩,?_,.d _ _ (.str _)⟩;simp only[execOp,h1,qX (hx c ac h3 h4),convert,ahq,run_underlying k2,run_underlying g2,ahr,ahp]
end
end Go.az
end
section
namespace Go.az
open Go Go.RowKit
section
variable {E:Env} {s:List AV} {h:List ae} {c:Cx} {G:List (Nat × DV)}
theorem T'{P:Program}{t f off ft:Nat}{i fi:bA}(ht:fR P t=some i)(Ua:fR P ft=some fi)(db:0<fi.size){fs:List (Nat × Nat)}(hk:i.k=.struct fs)(hf:fs[f]?=some (off,ft))(w:World)(b o:Nat) :
  (Instr.fieldAt t (.pointer (some ⟨b,o,none⟩)) f).run P w=.ok (.pointer (some ⟨b,o+off,none⟩)) w:=by
 obtain⟨ti,d,g1,g2,g3,-⟩:=cK ht;obtain⟨fl,rfl,rfl⟩:=sJ (hk.symm.trans g3);simp only[ahy,ahF]at hf;obtain⟨fd,hf,uv⟩:=hf;simp only[Prod.mk.injEq]at uv;obtain⟨rfl,rfl⟩:=uv;have Gt:fl[f]?=some fd:=zD hf
 have hz:¬ (fi.size=0):=by omega
 simp only[Instr.fieldAt,ahq,run_underlying g2,ahr,Gt,Instr.sureAddr,ahp,fieldPlace,run_sizeOf Ua,hz,if_false,oy]
theorem LK{i:bA}{f:Nat}{stop:Prop}{k:Nat->Nat->Prop}(H:CZ i f stop k):stop\/∃ fs off ft,i.k=.struct fs/\fs[f]?=some (off,ft)/\k off ft:=by
 unfold CZ at H;split at H
 ·rename_i fs hk;rcases bu H with h|⟨p,hp,h⟩
  ·exact .inl h
  ·exact .inr ⟨fs,p.1,p.2,hk,hp,h⟩
 ·exact .inl H
theorem Gu(hE:E.OK){t f off ft:Nat}{x:Operand}{i fi:bA}(hi:E.T[t]?=some i)(lq:E.T[ft]?=some fi)(db:0<fi.size){fs:List (Nat × Nat)}(hk:i.k=.struct fs)(hf:fs[f]?=some (off,ft)){a a':AV}(ha:bk E.G s x a)
  (Gv:(∃ b o,a=.ptr b o/\a'=.ptr b (o+off)/\∃ cs,h[b]?=some (.cells cs))\/(∃ e o,a=.bT e o/\a'=.bT e (o+off))\/(∃ b g i o ts l,a=.dv b g i o/\a'=.dv b g i (o+off)/\h[b]?=some (.arr g ts l))) :
  bE E (.fieldAddr t x f) s h a' h := .quiet fun o c ac h1 h2 h3 h4=>by
 subst h2;have hv:=ha c ac h3 h4;have run:=T' (hE.types t i hi) (hE.types ft fi lq) db hk hf;generalize hp:ac.eval x=p at hv;have fin:∀ blk o',p=.pointer (some ⟨blk,o',none⟩)->(execOp ac.eval o).run E.P c.w=.ok (.value (.pointer (some ⟨blk,o'+off,none⟩))) c.w:=fun blk o' e=>by
  simp only[execOp,h1,hp,e,ahq,run,ahr,ahp]
 rcases Gv with⟨b,o1,rfl,rfl,cs,hb⟩|⟨e,o1,rfl,rfl⟩|⟨b,g,j,o1,ts,l,rfl,rfl,hb⟩
 ·cases hv with
  |ptr _ _ cs blk cap k1 k2=>exact⟨_,fin blk o1 rfl,.ptr _ _ cs blk cap k1 k2⟩
  |jK _ _ _ k1 _=>rw[hb]at k1;cases k1
 ·cases hv with
  |bT _ _ blk o' fv k1 k2 k3 k4=>exact⟨_,fin blk (o'+o1) rfl,by rw[ahE];exact .bT _ _ blk o' fv k1 k2 k3 k4⟩
 ·cases hv with
  |dv _ _ _ _ ts l blk cap k1 k2 k3=>exact⟨_,fin blk (j*ts.2+o1) rfl,by rw[ahE];exact .dv _ _ _ _ ts l blk cap k1 k2 k3⟩
  |nv _ _ g' _ _ _ _ _ k1 k2 _=>rw[hb]at k1;cases k1;omega
  |nw _ _ _ _ _ k1 _=>rw[hb]at k1;cases k1
theorem Ub{P:Program}{t:Nat}{i:bA}(ht:fR P t=some i)(w:World)(vs:List Value)(off:Nat)(gT:i.k.agg=true) :
  (part t vs.toArray off).run P w=.ok (.agg ((vs.drop off).take i.size).toArray) w:=by
 have:vs.toArray.extract off (off+i.size)=((vs.drop off).take i.size).toArray:=by
  simp[List.extract_eq_take_drop]
 simp only[part,ahq,C2 ht,gT,ahr,if_true,run_sizeOf ht,ahp,this]
theorem Ap{P:Program}{t:Nat}{i:bA}(ht:fR P t=some i)(w:World)(vs:List Value)(off:Nat)(v:Value)(hv:vs[off]?=some v)(gT:i.k.agg=false) :
  (part t vs.toArray off).run P w=.ok v w:=by
 have:vs.toArray[off]?=some v:=zD hv
 simp only[part,ahq,C2 ht,gT,ahr,ah0,if_false,this,ahp]
theorem Uc{i:bA}{l:List AV}{off:Nat}{stop:Prop}{k:AV->Prop}(H:mK i l off stop k):stop\/∃ x,k x/\∀ (P:Program) (t:Nat) (c:Cx) (vs:List Value),fR P t=some i->VL c l vs ->
  ∃ v,(part t vs.toArray off).run P c.w=.ok v c.w/\VR c x v:=by
 unfold mK at H;split at H
 ·rename_i gT;rw[Gf,LC]at H;split at H
  ·obtain⟨x,hx,h⟩:=Am H;refine .inr ⟨x,hx,fun P t c vs ht hv=>⟨_,?_,h c _ ((hv.drop off).take _)⟩⟩;exact Ub ht c.w vs off gT
  ·exact .inl H
 ·rename_i gT;rcases bu H with h|⟨x,hx,h⟩
  ·exact .inl h
  refine .inr ⟨x,h,fun P t c vs ht hv=>?_⟩;have ai:off<vs.length:=by
   rw[<- hv.1];rcases ahs off l.length with h|h
   ·exact h
   ·rw[aht h]at hx;cases hx
  exact⟨vs[off],Ap ht c.w vs off _ (by simp[ai]) gT,hv.2 off x _ hx (by simp[ai])⟩
theorem LL(hE:E.OK){t f off ft:Nat}{x:Operand}{i fi:bA}(hi:E.T[t]?=some i)(lq:E.T[ft]?=some fi){fs:List (Nat × Nat)}(hk:i.k=.struct fs)(hf:fs[f]?=some (off,ft)){a:AV}(ha:bk E.G s x a){l:List AV}
  (hl:∀ (c:Cx) (v:Value),VR c a v->∃ vs:List Value,v=.agg vs.toArray/\VL c l vs) {stop:Prop} {k:AV->Prop} (H:mK fi l off stop k):stop\/∃ v,k v/\bE E (.field t x f) s h v h:=by
 rcases Uc H with h|⟨v,hv,hp⟩
 ·exact .inl h
 refine .inr ⟨v,hv,.quiet fun o c ac h1 _ h3 h4=>?_⟩;obtain⟨vs,he,jl⟩:=hl c _ (ha c ac h3 h4);obtain⟨u,hu,sF⟩:=hp E.P ft c vs (hE.types ft fi lq) jl;obtain⟨ti,d,g1,g2,g3,-⟩:=cK (hE.types t i hi);obtain⟨fl,rfl,rfl⟩:=sJ (hk.symm.trans g3);simp only[ahy,ahF]at hf;obtain⟨fd,hf,uv⟩:=hf;simp only[Prod.mk.injEq]at uv;obtain⟨rfl,rfl⟩:=uv;have Gt:fl[f]?=some fd:=zD hf
 refine⟨u,?_,sF⟩;simp only[execOp,h1,he,Instr.field,ahq,run_underlying g2,ahr,Gt,asAgg,ahp,hu]
theorem Gw{x:Operand}{a:AV}(ha:bk E.G s x a)
  (Gv:(∃ b o,a=.ptr b o/\∃ cs,h[b]?=some (.cells cs))\/(∃ e o,a=.bT e o)\/(∃ b g i o ts l,a=.dv b g i o/\h[b]?=some (.arr g ts l))):bE E (.nilCheck x) s h a h := .quiet fun o c ac h1 h2 h3 h4=>by
 subst h2;have hv:=ha c ac h3 h4;refine⟨ac.eval x,?_,hv⟩;generalize hp:ac.eval x=p at hv;have fin:∀ a',p=.pointer (some a')->(execOp ac.eval o).run E.P c.w=.ok (.value p) c.w:=fun a' e=>by
  simp only[execOp,h1,hp,e];rfl
 rcases Gv with⟨b,o1,rfl,cs,hb⟩|⟨e,o1,rfl⟩|⟨b,g,j,o1,ts,l,rfl,hb⟩
 ·cases hv with
  |ptr _ _ cs blk cap k1 k2=>exact fin _ rfl
  |jK _ _ _ k1 _=>rw[hb]at k1;cases k1
 ·cases hv with
  |bT _ _ blk o' fv k1 k2 k3 k4=>exact fin _ rfl
 ·cases hv with
  |dv _ _ _ _ ts l blk cap k1 k2 k3=>exact fin _ rfl
  |nv _ _ g' _ _ _ _ _ k1 k2 _=>rw[hb]at k1;cases k1;omega
  |nw _ _ _ _ _ k1 _=>rw[hb]at k1;cases k1
def kK(G:List (Nat × DV))(s:List AV)(xs:List Operand)(vs:List AV):Prop:=∀ (c:Cx) (a:Act),aO G c->VS c s a.tmps->VL c vs (xs.map a.eval)
theorem Aq{stop:Prop}:∀ {xs:List Operand} {k:List AV->Prop},vW G s xs stop k->stop\/∃ vs,kK G s xs vs/\k vs
 |[],k,H => .inr ⟨[],fun _ _ _ _ => .nil,H⟩
 |x::xs,k,H=>by
  simp only[vW]at H;rcases cO H with h|⟨v,hv,H⟩
  ·exact .inl h
  rcases Aq H with h|⟨vs,fw,H⟩
  ·exact .inl h
  exact .inr ⟨v::vs,fun c a h1 h2 => .cons (hv c a h1 h2) (fw c a h1 h2),H⟩
theorem Ud{f:Fn}{a1 a2:Array Operand}{l1 l2:List AV}(h1:kK E.G s a1.toList l1)(h2:kK E.G s a2.toList l2):bE E (.makeFunc f a1 a2) s h (.fn f l1 l2) h :=
 .quiet fun o c ac e1 _ h3 h4=>by
  have g1:=h1 c ac h3 h4;have g2:=h2 c ac h3 h4;refine⟨.func f (a1.map ac.eval) (a2.map ac.eval),by simp only[execOp,e1,Instr.makeFunc,ahq,ahp,ahr],.fn _ _ _ _ _ (zD g1.1) (zD g2.1) ?_ ?_⟩
  ·exact fun j x v hx hv=>g1.2 j x v hx (zD hv)
  ·exact fun j x v hx hv=>g2.2 j x v hx (zD hv)
theorem yo{P:Program}{o:Oper}{ac:Act}{w:World}{args:Array Operand}{ts:Array TypeId}{x:Operand}{t:Nat}{i:bA}{n:Nat}{v:Value}(h1:o.op=.call { callee := .builtin .len,args:=args,argTypes:=ts })(hx:args.toList[0]?=some x)(ht:ts.toList[0]?=some t)(ca:fR P t=some i)(he:ac.eval x=v)
  (hv:(∃ e a cap,i.k=.slice e/\v=.slice a n cap)\/(∃ b,i.k=.string/\v=.string b/\b.size=n)):(execOp ac.eval o).run P w=.ok (.value (.int .i64 n)) w:=by
 have dY:args[0]?=some x:=zD hx
 have pv:ts[0]?=some t:=zD ht
 have yp:(args.map ac.eval)[0]?=some v:=by rw[Array.getElem?_map,dY];simp[he]
 obtain⟨ti,d,g1,g2,g3,-⟩:=cK ca;rcases hv with⟨e,a,cap,hk,rfl⟩|⟨b,hk,rfl,hb⟩
 ·obtain rfl:=mM (hk.symm.trans g3);simp only[execOp,h1,resolve,invoke,builtin,Builtin.len_,pv,yp,ahq,ahp,ahr,run_underlying g2,goInt]
 ·obtain rfl:=uu (hk.symm.trans g3);simp only[execOp,h1,resolve,invoke,builtin,Builtin.len_,pv,yp,ahq,ahp,ahr,run_underlying g2,goInt,hb]
def Ar(G:List (Nat × DV))(s:List AV)(xs:List (Nat × Operand))(vs:List (Nat × AV)):Prop:=∀ (c:Cx) (a:Act),aO G c->VS c s a.tmps->vs.map (·.1)=xs.map (·.1)/\VL c (vs.map (·.2)) (xs.map fun p=>a.eval p.2)
theorem Au{stop:Prop}:∀ {xs:List (Nat × Operand)} {k:List (Nat × AV)->Prop},vY G s xs stop k->stop\/∃ vs,Ar G s xs vs/\k vs
 |[],k,H => .inr ⟨[],fun _ _ _ _=>⟨rfl,.nil⟩,H⟩
 |(n,x)::xs,k,H=>by
  simp only[vY]at H;rcases cO H with h|⟨v,hv,H⟩
  ·exact .inl h
  rcases Au H with h|⟨vs,fw,H⟩
  ·exact .inl h
  exact .inr ⟨(n,v)::vs,fun c a h1 h2=>⟨by simp[(fw c a h1 h2).1],.cons (hv c a h1 h2) (fw c a h1 h2).2⟩,H⟩
theorem Gx(off:Nat):∀ (vs:List Value) (n:Nat) (cs:Array Value),((vs.zipIdx n).foldl (fun cs (x:Value × Nat)=>cs.setIfInBounds (off+x.2) x.1) cs)=(dX cs.toList (off+n) vs).toArray
 |[],_,cs=>by simp[dX]
 |v::r,n,cs=>by
  simp only[List.zipIdx_cons,List.foldl_cons];rw[Gx off r (n+1)];simp[dX,ahE]
theorem C8{pl:Nat->Option (Nat × Nat)}{stop:Prop}:∀ {ps:List (Nat × AV)} {l:List AV} {k:List AV->Prop},yi pl ps l stop k->stop\/∃ l',k l' /\
  ∀ (c:Cx) (vs us:List Value),VL c l vs->VL c (ps.map (·.2)) us->∃ vs':List Value,Instr.fill pl vs.toArray ((ps.map (·.1)).zip us)=some vs'.toArray/\VL c l' vs'
 |[],l,k,H => .inr ⟨l,H,fun c vs us hv hu=>⟨vs,by simp[Instr.fill],hv⟩⟩
 |(f,x)::ps,l,k,H=>by
  simp only[yi]at H;split at H
  ·exact .inl H
  rename_i p hp;rcases C1 H with h|⟨xs,Ue,H⟩
  ·exact .inl h
  split at H
  ·rename_i q1 q2;rw[Gg]at H;rcases C8 H with h|⟨l',hk,hf⟩
   ·exact .inl h
   refine .inr ⟨l',hk,fun c vs us hv hu=>?_⟩;cases us with
   |nil=>have:=hu.1;simp at this
   |cons u us =>
    simp only[ahx]at hu ⊢;obtain⟨h1,h2⟩:=hu.head;obtain⟨cv,rf,jl⟩:=Ue c u h1;obtain⟨vs',h3,h4⟩:=hf c (dX vs p.1 cv) us (VL.dX hv p.1 jl) h2;refine⟨vs',?_,h4⟩;have q1:=ahu q1;have q2:=ahA q2;rw[jl.1]at q1 q2;rw[hv.1]at q2;simp only[ahI,Instr.fill,hp];rw[if_neg (by simp[rf,q1];omega)];rw[<- h3]
    congr 1
    rw[rf];have:=Gx p.1 cv 0 vs.toArray;simp only[ah3]at this;rw[<- this];simp
  ·exact .inl H
theorem LM{P:Program}{T:List bA}(hT:∀ (t:Nat) (i:bA),T[t]?=some i->fR P t=some i){stop:Prop}:∀ {fs:List Field} {k:List (Nat × Nat)->Prop},C0 T (fs.map fun f=>(f.offset,f.type)) stop k ->
  stop\/∃ pl,k pl/\fs.mapM (fun f=>(P.info? f.type).map fun i=>(f.offset,i.size))=some pl
 |[],k,H => .inr ⟨[],H,rfl⟩
 |f::fs,k,H=>by
  simp only[ahx,C0]at H;rcases bu H with h|⟨i,hi,H⟩
  ·exact .inl h
  rcases LM hT H with h|⟨pl,hk,hp⟩
  ·exact .inl h
  obtain⟨ti,d,g1,g2,g3,g4,-⟩:=cK (hT _ _ hi);refine .inr ⟨_,hk,?_⟩;simp[List.mapM_cons,g1,hp,g4]
theorem ff{β:Type}(l:List β)(i:Nat):eB l i=l[i]? := by
 induction l generalizing i with
 |nil=>rfl
 |cons a l ih=>cases i with
  |zero=>rfl
  |succ i=>simpa [eB]using ih i
theorem zeroOf{P:Program}{t:Nat}{i:bA}(ht:fR P t=some i)(hz:i.zero.length=i.size)(db:0<i.size):∃ (ti:TypeInfo) (z:Value),P.info? t=some ti/\ti.zero=some z/\i.size=ti.size/\∀ c:Cx,∃ vs:List Value,z.cells=vs.toArray/\VL c (i.zero.map .d) vs:=by
 obtain⟨ti,d,h1,h2,h3,h4,h5,h6⟩:=cK ht;obtain⟨z,iB,iW⟩:=LH ht hz db;cases pt:ti.zero with
 |none=>rw[h6,pt]at hz;simp[yd]at hz;omega
 |some z' =>
  have:=iB default;simp only[zeroValue,typeInfo,bind,ahG,program,h1,pure,ahz,pt,Result.ok.injEq,and_true]at this;subst this;exact⟨ti,z',h1,pt,h4,iW⟩
theorem LN(hE:E.OK){t:Nat}{i:bA}(hi:E.T[t]?=some i){parts:Array (Nat × Operand)}{ps:List (Nat × AV)}(gu:Ar E.G s parts.toList ps)(hz:i.zero.length=i.size)(db:0<i.size){pl:Nat->Option (Nat × Nat)}{l:List AV}{v:AV}
  (hb:∀ (ti:TypeInfo) (z:Value),E.P.info? t=some ti->ti.zero=some z->∀ us,E.P.built t us=Instr.fill pl z.cells us)
  (hf:∀ (c:Cx) (vs us:List Value),VL c (i.zero.map .d) vs->VL c (ps.map (·.2)) us->∃ vs':List Value,Instr.fill pl vs.toArray ((ps.map (·.1)).zip us)=some vs'.toArray/\VL c l vs')
  (hv:∀ (c:Cx) (vs:List Value),VL c l vs->VR c v (.agg vs.toArray)):bE E (.build t parts) s h v h :=
 .quiet fun o c ac h1 _ h3 h4=>by
  obtain⟨ti,z,g1,g2,g3,g4⟩:=zeroOf (hE.types t i hi) hz db;obtain⟨zs,kL,kc⟩:=g4 c;obtain⟨p1,p2⟩:=gu c ac h3 h4;obtain⟨vs',f1,f2⟩:=hf c zs _ kc p2;refine⟨.agg vs'.toArray,?_,hv c vs' f2⟩;have cB:=hb ti z g1 g2 (parts.map fun(i,x)=>(i,ac.eval x)).toList;have e:(parts.map fun(i,x)=>(i,ac.eval x)).toList=(ps.map (·.1)).zip (parts.toList.map fun p=>ac.eval p.2):=by
   rw[p1,ah4];generalize parts.toList=q
   induction q with
   |nil=>rfl
   |cons a q ih=>simp only[ahx,ahI,ih]
  rw[e,kL,f1]at cB;rw[<- e]at cB;simp only[execOp,h1,ahq,run_build c.w t _ _ cB,ahr,ahp]
theorem Uf{P:Program}{t:Nat}{ti:TypeInfo}{z:Value}{fl:Array Field}{pl:List (Nat × Nat)}(h1:P.info? t=some ti)(h2:P.underlying t=some (.struct fl))(h3:ti.zero=some z)(h4:fl.toList.mapM (fun f=>(P.info? f.type).map fun i=>(f.offset,i.size))=some pl)(us:List (Nat × Value)) :
  P.built t us=Instr.fill (eB pl) z.cells us:=by
 have:(eB pl)=(pl.toArray[·]?):=funext fun i=>by rw[ff];simp
 simp only[Program.built,h1,h2,h3,h4,this]
theorem Ug{P:Program}{t n e:Nat}{ti ei:TypeInfo}{z:Value}(h1:P.info? t=some ti)(h2:P.underlying t=some (.array n e))(h3:ti.zero=some z)(h4:P.info? e=some ei)(us:List (Nat × Value)) :
  P.built t us=Instr.fill (fun i=>some (i*ei.size,ei.size)) z.cells us:=by
 simp only[Program.built,h1,h2,h3,h4]
end
end Go.az
end
section
namespace Go.az
open Go Go.RowKit
def flat(l:List DV):List DV:=l.flatMap DV.cells
theorem Gy{β:Type}:∀ (v p a r:List β),a.length=v.length->dX (p++a++r) p.length v=p++v++r
 |[],p,a,r,h=>by obtain rfl:a=[]:=ahM h;simp[dX]
 |x::v,p,a,r,h=>by
  cases a with
  |nil=>simp at h
  |cons y a =>
   have h1:(p++y::a++r).set p.length x=(p++[x])++a++r:=by simp
   have:=Gy v (p++[x]) a r (zD h);simp only[ah5,ahN,List.length_nil,ahB]at this;rw[dX,h1,this];simp
theorem Gz(a b:List DV):flat (a++b)=flat a++flat b:=by simp[flat]
theorem pw{sz:Nat}:∀ {l:List DV},(∀ (i:Nat) (e:DV),l[i]?=some e->e.cells.length=sz)->(flat l).length=l.length*sz
 |[],_=>by simp[flat]
 |e::l,h=>by
  have h1:=h 0 e rfl;have h2:=pw (l:=l) (fun i e he=>h (i+1) e (zD he));simp only[flat,ahJ,ah5,ahN]at h2 ⊢;rw[h1,h2,ahK,Nat.one_mul,ahW]
theorem flat_get{sz:Nat}{l:List DV}(h:∀ (i:Nat) (e:DV),l[i]?=some e->e.cells.length=sz){i j:Nat}{e:DV}(he:l[i]?=some e)(hj:j<sz):(flat l)[i*sz+j]?=e.cells[j]? := by
 induction l generalizing i with
 |nil=>simp at he
 |cons a l ih =>
  have h0:=h 0 a rfl;cases i with
  |zero =>
   simp at he;subst he;simp only[flat,ahJ,Nat.zero_mul,ahB];rw[ahT oM]
  |succ i =>
   have:=ih (fun i e he=>h (i+1) e (zD he)) (i:=i) (zD he);simp only[flat,ahJ]at this ⊢;rw[List.getElem?_append_right (by rw[h0,ahK];omega),h0,<- this]
   congr 1
   rw[ahK];omega
theorem Uh{sz:Nat}{l:List DV}(h:∀ (i:Nat) (e:DV),l[i]?=some e->e.cells.length=sz){f:Nat}(hf:f<l.length){e:DV}(he:e.cells.length=sz):flat (l.set f e)=dX (flat l) (f*sz) e.cells:=by
 have h1:l=l.take f++l[f]::l.drop (f+1):=by simp
 have h2:l.set f e=l.take f++e::l.drop (f+1):=by rw[List.set_eq_take_append_cons_drop,if_pos hf]
 have h3:(flat (l.take f)).length=f*sz:=by
  rw[pw (sz:=sz) (fun i e he=>h i e (by rw[ahS]at he;split at he;exact he;cases he)),ah1,Nat.min_eq_left oM]
 have h4:=Gy e.cells (flat (l.take f)) l[f].cells (flat (l.drop (f+1))) (by rw[he];exact h f _ (by simp[hf]));have e1:flat l=flat (l.take f)++l[f].cells++flat (l.drop (f+1)):=by
  have:=congrArg flat h1;rw[Gz]at this;rw[this];simp only[flat,ahJ,List.append_assoc]
 have e2:flat (l.set f e)=flat (l.take f)++e.cells++flat (l.drop (f+1)):=by rw[h2,Gz];simp[flat]
 rw[e2,e1,<- h3];exact h4.symm
section
variable {E:Env} {s:List AV} {h:List ae} {c:Cx} {G:List (Nat × DV)}
theorem C9{k:List DV->Prop}{x:DV}:∀ {n:Nat},vX n x k=k (ahC n x):=by
 intro n
 induction n generalizing k with
 |zero=>rfl
 |succ n ih=>simp only[vX,ih,List.replicate_succ]
def jN(sz:Nat)(l:List DV):Prop:=∀ (i:Nat) (e:DV),l[i]?=some e->e.cells.length=sz
theorem jN.set{sz:Nat}{l:List DV}(hl:jN sz l)(f:Nat){e:DV}(he:e.cells.length=sz):jN sz (l.set f e):=fun i e' h'=>by
 rw[ah7]at h';split at h'
 ·split at h'
  ·cases h';exact he
  ·cases h'
 ·exact hl i e' h'
def rh(l:List DV):Prop:=∀ (i:Nat) (e:DV),l[i]?=some e->∀ y∈e.cells,y.gd=true
theorem rh.set{l:List DV}(hl:rh l)(f:Nat){e:DV}(he:∀ y∈e.cells,y.gd=true):rh (l.set f e):=fun i e' h'=>by
 rw[ah7]at h';split at h'
 ·split at h'
  ·cases h';exact he
  ·cases h'
 ·exact hl i e' h'
theorem rh.flat{l:List DV}(hl:rh l):∀ x∈flat l,x.gd=true:=fun x hx=>by
 simp only[az.flat,List.mem_flatMap]at hx;obtain⟨e,he,hx⟩:=hx;obtain⟨i,hi⟩:=List.getElem?_of_mem he;exact hl i e hi x hx
theorem GA{sz:Nat}{stop:Prop}:∀ {ps:List (Nat × AV)} {l:List DV} {k:List DV->Prop},jN sz l->rh l->qi sz ps l stop k->stop\/∃ l',k l'/\jN sz l'/\rh l'/\l'.length=l.length /\
  ∀ (c:Cx) (vs us:List Value),VL c ((flat l).map .d) vs->VL c (ps.map (·.2)) us->∃ vs':List Value,Instr.fill (fun i=>some (i*sz,sz)) vs.toArray ((ps.map (·.1)).zip us)=some vs'.toArray/\VL c ((flat l').map .d) vs'
 |[],l,k,hl,gJ,H => .inr ⟨l,H,hl,gJ,rfl,fun c vs us hv hu=>⟨vs,by simp[Instr.fill],hv⟩⟩
 |(f,x)::ps,l,k,hl,gJ,H=>by
  have key:∀ (e:DV),x=.d e->e.cells.length=sz->(∀ y∈e.cells,y.gd=true)->f<l.length->qi sz ps (l.set f e) stop k->stop\/∃ l',k l'/\jN sz l'/\rh l'/\l'.length=l.length /\
    ∀ (c:Cx) (vs us:List Value),VL c ((flat l).map .d) vs->VL c (((f,x)::ps).map (·.2)) us->∃ vs':List Value,Instr.fill (fun i=>some (i*sz,sz)) vs.toArray ((((f,x)::ps).map (·.1)).zip us)=some vs'.toArray/\VL c ((flat l').map .d) vs':=by
   intro e hx he nx hf H';subst hx;rcases GA (hl.set f he) (gJ.set f nx) H' with h|⟨l',h1,h2,iC,h3,h4⟩
   ·exact .inl h
   refine .inr ⟨l',h1,h2,iC,zD h3,fun c vs us hv hu=>?_⟩;cases us with
   |nil=>have:=hu.1;simp at this
   |cons u us =>
    simp only[ahx]at hu ⊢;obtain⟨g1,g2⟩:=hu.head;have yq:∃ cv:List Value,u.cells=cv.toArray/\VL c (e.cells.map .d) cv:=by
     by_cases gT:∃ el,e=.agg el
     ·obtain⟨el,rfl⟩:=gT;obtain⟨cv,rfl,hc⟩:=Gn g1;exact⟨cv,rfl,hc⟩
     ·have mN:e.cells=[e]:=by cases e<;>first|rfl|exact absurd ⟨_,rfl⟩ gT
      rw[mN];refine⟨[u],?_,.cons g1 .nil⟩;cases g1 with
      |d _ _ g=>cases g<;>first|rfl|(rename_i h1;revert h1;cases u<;>intro h1<;>first|rfl|cases h1)|exact absurd ⟨_,rfl⟩ gT
    obtain⟨cv,rf,jl⟩:=yq;have yr:VL c ((flat (l.set f e)).map .d) (dX vs (f*sz) cv):=by
     rw[Uh hl hf he];have:=VL.dX hv (f*sz) jl;have hm:∀ (q:List DV) (o:Nat) (p:List DV),(dX p o q).map AV.d=dX (p.map .d) o (q.map .d):=by
      intro q
      induction q with
      |nil=>intro o p;rfl
      |cons a q ih=>intro o p;simp[dX,ih]
     rw[hm];exact this
    obtain⟨vs',f1,f2⟩:=h4 c _ us yr g2;refine⟨vs',?_,f2⟩;have qd:cv.length=sz:=by rw[<- jl.1];simpa using he
    have po:f*sz+sz<=vs.length:=by
     have:=hv.1;rw[List.length_map,pw hl]at this;rw[<- this]
     calc f*sz+sz=(f+1)*sz:=by rw[ahK,Nat.one_mul]
      _<=l.length*sz:=Nat.mul_le_mul_right _ hf
    simp only[ahI,Instr.fill];rw[if_neg (by simp[rf,qd];omega)];rw[<- f1]
    congr 1
    rw[rf];have:=Gx (f*sz) cv 0 vs.toArray;simp only[ah3]at this;rw[<- this];simp
  cases x
  case d e =>
   simp only[qi]at H;split at H
   ·rename_i el;split at H
    ·rename_i q1 q2 q3;rw[jk]at H;exact key _ rfl (ahu q1) (fun y hy=>ahH.1 q2 y hy) (ahA q3) H
    ·exact .inl H
   ·split at H
    ·rename_i qj _ _ _ q1 q2 q3;rw[jk]at H;have mN:e.cells=[e]:=by cases e<;>first|rfl|exact absurd rfl (qj _)
     refine key _ rfl ?_ (fun y hy=>by rw[mN]at hy;simp at hy;subst hy;exact q2) (ahA q3) H;have:=ahu q1;rw[<- this,mN];rfl
    ·exact .inl H
  all_goals exact .inl H
theorem Ui{bad:Nat->Prop}{w:World}{l:List DV}{sz cap:Nat}{vs:List Value}{ty:TypeId}{fr:Nat × Nat}(bP:0<sz)(hl:jN sz l)(hb:¬ bad w.heap.size)(kI:l.length<=cap)(hlen:(flat l).length<=vs.length)(h1:∀ (x:DV),x∈flat l->x.gd=true)
  (hv:∀ (j:Nat) (x:DV) (v:Value),(flat l)[j]?=some x->vs[j]?=some v->VD bad (w.alloc (.cells vs.toArray ty fr)) x v) :
  VD bad (w.alloc (.cells vs.toArray ty fr)) (.sl l) (.slice (some ⟨w.heap.size,0,none⟩) l.length cap):=by
 have bz:=mL (heap_alloc_new w (.cells vs.toArray ty fr));have at_:∀ (i j:Nat) (e x:DV),l[i]?=some e->e.cells[j]?=some x->∃ v,vs[i*sz+j]?=some v/\(flat l)[i*sz+j]?=some x:=fun i j e x he hx=>by
  have hj:j<sz:=by
   rw[<- hl i e he];rcases ahs j e.cells.length with h|h
   ·exact h
   ·rw[aht h]at hx;cases hx
  have h1:=flat_get hl he hj;rw[hx]at h1;have h2:i*sz+j<(flat l).length:=by
   rcases ahs (i*sz+j) (flat l).length with h|h
   ·exact h
   ·rw[aht h]at h1;cases h1
  have h3:i*sz+j<vs.length:=by omega
  exact⟨vs[i*sz+j],by simp[h3],h1⟩
 refine .sl l w.heap.size 0 cap sz (fun i j=>vs.getD (i*sz+j) undef) (fun _=>hb) bP kI hl (fun i j e x he hx=>?_) (fun i j e x he hx=>?_) (fun i j e x he hx=>?_)
 ·obtain⟨v,h1,h2⟩:=at_ i j e x he hx;have:=bz (i*sz+j) v (zD h1);rw[this];simp[ahU,h1]
 ·obtain⟨v,h1,h2⟩:=at_ i j e x he hx;simp only[ahU,h1,ah8];exact hv _ x v h2 h1
 ·obtain⟨v,h3,h2⟩:=at_ i j e x he hx;simp only[ahU,h3,ah8];exact An (hv _ x v h2 h3) (h1 x (List.mem_of_getElem? h2))
theorem LO(hE:E.OK){t e len:Nat}{i ei:bA}(hi:E.T[t]?=some i)(b9:E.T[e]?=some ei)(hk:i.k=.slice e){parts:Array (Nat × Operand)}{ps:List (Nat × AV)}(gu:Ar E.G s parts.toList ps)
  (hz:ei.zero.length=ei.size) (db:0<ei.size) (hlen:0<len) (wa:len*ei.size<=16777216) {z:DV} (wb:z.cells=ei.zero) (kL:∀ y∈ei.zero,y.gd=true) {stop:Prop} {k:List DV->Prop} (H:qi ei.size ps (ahC len z) stop k) :
  stop\/∃ l,k l/\bE E (.buildSlice t len parts) s h (.d (.sl l)) h:=by
 have eU:jN ei.size (ahC len z):=fun j e' h'=>by
  rw[ah9]at h';split at h'
  ·cases h';rw[wb,hz]
  ·cases h'
 have gJ:rh (ahC len z):=fun j e' h'=>by
  rw[ah9]at h';split at h'
  ·cases h';rw[wb];exact kL
  ·cases h'
 rcases GA eU gJ H with h'|⟨l,h1,h2,iC,h3,h4⟩
 ·exact .inl h'
 refine .inr ⟨l,h1,fun o c ac e1 e2 e3 e4=>?_⟩;subst e2;obtain⟨ti,zv,g1,g2,g3,g4⟩:=zeroOf (hE.types e ei b9) hz db;obtain⟨zs,Av,kc⟩:=g4 c;obtain⟨p1,p2⟩:=gu c ac e3 e4;have ny:zs.length=ei.size:=by rw[<- kc.1];simpa using hz
 have Aw:VL c ((flat (ahC len z)).map .d) ((ah' (len*ti.size)).map (zv.cells[· % zv.cells.size]!)).toList:=by
  refine .v7 (by rw[pw eU];simp[g3]) (fun j x v hx hv=>?_);have hj:j<len*ei.size:=by
   have:=pw eU;rw[List.length_replicate]at this;rw[<- this];rcases ahs j (flat (ahC len z)).length with h|h
   ·exact h
   ·rw[aht h]at hx;cases hx
  have hd:j / ei.size<len:=Nat.div_lt_of_lt_mul (by rw[aia];exact hj);have hm:j % ei.size<ei.size:=Nat.mod_lt _ db;have h5:=flat_get eU (i:=j / ei.size) (j:=j % ei.size) (e:=z) (by simp[hd]) hm;rw[aia,Nat.div_add_mod,hx,wb]at h5;have fu:v=zs[j % ei.size]' oM:=by
   have fh:j<len*ti.size:=by rw[<- g3];exact hj
   simp[fh,Av,ny]at hv;rw[<- hv];simp[ny,hm]
  rw[fu];exact kc.qY (j % ei.size) x _ h5.symm (by simp[ny,hm])
 obtain⟨vs',f1,f2⟩:=h4 c _ _ Aw p2;obtain⟨yu,d,q1,q2,q3,-⟩:=cK (hE.types t i hi);obtain rfl:=mM (hk.symm.trans q3);have eq:(parts.map fun(i,x)=>(i,ac.eval x)).toList=(ps.map (·.1)).zip (parts.toList.map fun p=>ac.eval p.2):=by
  rw[p1,ah4];generalize parts.toList=q
  induction q with
  |nil=>rfl
  |cons a q ih=>simp only[ahx,ahI,ih]
 have we:Instr.fill (fun i=>some (i*ti.size,ti.size)) ((ah' (len*ti.size)).map (zv.cells[· % zv.cells.size]!)) (parts.map fun(i,x)=>(i,ac.eval x)).toList=some vs'.toArray:=by
  rw[eq,<- f1,g3]
 have cL:=run_buildSlice (P:=E.P) c.w t e len (parts.map fun(i,x)=>(i,ac.eval x)) vs'.toArray ti zv q2 g1 g2 (by rw[<- g3];omega) (by rw[<- g3];have:=Nat.mul_pos hlen db;omega) we;obtain⟨k1,k2⟩:=e3.grow ((Proofs.YtlhehdgciafakaaGreatDoor.Ext.refl c.w).alloc (.cells vs'.toArray e));refine⟨c.fe (c.w.alloc (.cells vs'.toArray e)),.slice (some ⟨c.w.heap.size,0,none⟩) len len,.inl (by simp only[execOp,e1,ahq,cL,ahr,ahp];rfl),rfl,k1,?_,k2⟩;have l9:l.length=len:=by rw[h3];simp
 rw[<- l9];refine .d _ _ (Ui db h2 ?_ (ahL _) (by have:=f2.1;simp at this;omega) iC.flat (fun j x v hx hv=>?_))
 ·rintro(hb|⟨j,n,hj⟩)
  ·have:=e3.bV _ hb;omega
  ·have:=(e3.bD j _ n hj).1;omega
 ·exact k2.vd (f2.qY j x v hx hv)
theorem jO{a b:Nat}(h:ahw a b=true):a<b:=ahA h
theorem Ax(hE:E.OK){o:Op}{stop:Prop}{k:AV->List ae->Prop}(H:kJ E.T E.G o s h stop k):stop\/∃ v h',k v h'/\bE E o s h v h':=by
 unfold kJ at H;split at H
 ·
  rcases cO H with h|⟨v,hv,H⟩
  ·exact .inl h
  exact .inr ⟨v,h,H,TQ hv⟩
 ·
  rcases cO H with h|⟨v,hv,H⟩
  ·exact .inl h
  exact .inr ⟨v,h,H,TR hv⟩
 ·
  rcases cO H with h|⟨v,hv,H⟩
  ·exact .inl h
  rcases C1 H with h|⟨l,hl,H⟩
  ·exact .inl h
  rw[uo,ahB]at H;exact .inr ⟨_,_,H,TW hv hl⟩
 ·
  rcases bu H with h|⟨i,hi,H⟩
  ·exact .inl h
  split at H
  ·rename_i q1 q2;rw[vV,uo,ahB]at H;exact .inr ⟨_,_,H,TX hE hi (ahu q1) (jO q2)⟩
  ·exact .inl H
 ·
  rcases bu H with h|⟨i,hi,H⟩
  ·exact .inl h
  rcases cO H with h|⟨a,ha,H⟩
  ·exact .inl h
  rcases TU hE hi ha H with h|⟨v,H,hv⟩
  ·exact .inl h
  exact .inr ⟨v,h,H,hv⟩
 ·
  rcases bu H with h|⟨i,hi,H⟩
  ·exact .inl h
  rcases cO H with h|⟨a,ha,H⟩
  ·exact .inl h
  rcases cO H with h|⟨v,hv,H⟩
  ·exact .inl h
  rcases TV hE hi ha hv H with h|⟨h',H,ho⟩
  ·exact .inl h
  exact .inr ⟨_,h',H,ho⟩
 ·
  rcases bu H with h|⟨i,hi,H⟩
  ·exact .inl h
  rcases LK H with h|⟨fs,off,ft,hk,hf,H⟩
  ·exact .inl h
  rcases bu H with h|⟨fi,lq,H⟩
  ·exact .inl h
  split at H
  ·exact .inl H
  rename_i q;rcases cO H with h|⟨a,ha,H⟩
  ·exact .inl h
  split at H
  ·rcases bu H with h|⟨bx,hb,H⟩
   ·exact .inl h
   split at H
   ·exact .inr ⟨_,_,H,Gu hE hi lq (jO q) hk hf ha (.inl ⟨_,_,rfl,rfl,_,hb⟩)⟩
   ·exact .inl H
  ·exact .inr ⟨_,_,H,Gu hE hi lq (jO q) hk hf ha (.inr (.inl ⟨_,_,rfl,rfl⟩))⟩
  ·rcases bu H with h|⟨bx,hb,H⟩
   ·exact .inl h
   split at H
   ·split at H
    ·rename_i g' ts l _ qg;have:=ahu qg;subst this;exact .inr ⟨_,_,H,Gu hE hi lq (jO q) hk hf ha (.inr (.inr ⟨_,_,_,_,_,_,rfl,rfl,hb⟩))⟩
    ·exact .inl H
   ·exact .inl H
  ·exact .inl H
 ·
  rcases bu H with h|⟨i,hi,H⟩
  ·exact .inl h
  rcases LK H with h|⟨fs,off,ft,hk,hf,H⟩
  ·exact .inl h
  rcases bu H with h|⟨fi,lq,H⟩
  ·exact .inl h
  rcases cO H with h|⟨a,ha,H⟩
  ·exact .inl h
  split at H
  ·rcases LL hE hi lq hk hf ha (fun c v hv=>qZ hv) H with h|⟨v,H,hv⟩
   ·exact .inl h
   exact .inr ⟨_,_,H,hv⟩
  ·rw[vV]at H;rcases LL hE hi lq hk hf ha (fun c v hv=>Gn hv) H with h|⟨v,H,hv⟩
   ·exact .inl h
   exact .inr ⟨_,_,H,hv⟩
  ·exact .inl H
 ·
  rcases cO H with h|⟨a,ha,H⟩
  ·exact .inl h
  split at H
  ·rcases bu H with h|⟨bx,hb,H⟩
   ·exact .inl h
   split at H
   ·exact .inr ⟨_,_,H,Gw ha (.inl ⟨_,_,rfl,_,hb⟩)⟩
   ·exact .inl H
  ·exact .inr ⟨_,_,H,Gw ha (.inr (.inl ⟨_,_,rfl⟩))⟩
  ·rcases bu H with h|⟨bx,hb,H⟩
   ·exact .inl h
   split at H
   ·split at H
    ·rename_i g' ts l _ qg;have:=ahu qg;subst this;exact .inr ⟨_,_,H,Gw ha (.inr (.inr ⟨_,_,_,_,_,_,rfl,hb⟩))⟩
    ·exact .inl H
   ·exact .inl H
  ·exact .inl H
 ·
  rcases bu H with h|⟨i,hi,H⟩
  ·exact .inl h
  rcases cO H with h|⟨a,ha,H⟩
  ·exact .inl h
  rcases cO H with h|⟨b,hb,H⟩
  ·exact .inl h
  split at H
  ·split at H
   ·rcases LJ (.inl rfl) ha H with h|⟨v,H,hv⟩
    ·exact .inl h
    exact .inr ⟨_,_,H,hv⟩
   ·exact .inl H
  ·split at H
   ·rcases LJ (.inr rfl) ha H with h|⟨v,H,hv⟩
    ·exact .inl h
    exact .inr ⟨_,_,H,hv⟩
   ·exact .inl H
  ·rename_i n1 n2;rcases T3 ⟨n1,n2⟩ (hE.types _ _ hi) ha hb H with h|⟨v,H,hv⟩
   ·exact .inl h
   exact .inr ⟨_,_,H,hv⟩
 ·
  rcases cO H with h|⟨a,ha,H⟩
  ·exact .inl h
  split at H
  ·exact .inr ⟨_,_,H,T4 ha⟩
  ·exact .inl H
 ·
  rcases cO H with h|⟨a,ha,H⟩
  ·exact .inl h
  split at H
  ·exact .inr ⟨_,_,H,T5 ha⟩
  ·exact .inl H
 ·
  rcases cO H with h|⟨a,ha,H⟩
  ·exact .inl h
  split at H
  ·rcases cO H with h|⟨v,hv,H⟩
   ·exact .inl h
   exact .inr ⟨_,_,H,TY ha hv⟩
  ·rcases cO H with h|⟨v,hv,H⟩
   ·exact .inl h
   exact .inr ⟨_,_,H,TZ ha hv⟩
  ·exact .inl H
 ·
  rcases cO H with h|⟨a,ha,H⟩
  ·exact .inl h
  split at H
  ·rcases bu H with h|⟨v,hv,H⟩
   ·exact .inl h
   exact .inr ⟨_,_,H,T6 ha hv⟩
  ·rcases bu H with h|⟨v,hv,H⟩
   ·exact .inl h
   exact .inr ⟨_,_,H,T7 ha hv⟩
  ·exact .inl H
 ·
  rcases bu H with h|⟨i0,mO,H⟩
  ·exact .inl h
  rcases bu H with h|⟨i,hi,H⟩
  ·exact .inl h
  rcases cO H with h|⟨a,ha,H⟩
  ·exact .inl h
  split at H
  ·rename_i hk;exact .inr ⟨_,_,H,T8 (hE.types _ _ hi) (hE.types _ _ mO) hk ha⟩
  ·rename_i hk;exact .inr ⟨_,_,H,T9 (hE.types _ _ hi) (hE.types _ _ mO) hk ha⟩
  ·exact .inl H
 ·
  rcases bu H with h|⟨i,hi,H⟩
  ·exact .inl h
  rcases Au H with h|⟨ps,gu,H⟩
  ·exact .inl h
  split at H
  ·rename_i q1 q2;rw[vV]at H;have hz:=ahu q1;have db:=jO q2;obtain⟨ti,d,g1,g2,g3,-⟩:=cK (hE.types _ _ hi);split at H
   ·rename_i fs hk;obtain⟨fl,rfl,rfl⟩:=sJ (hk.symm.trans g3);rcases LM hE.types H with h|⟨pl,H,fF⟩
    ·exact .inl h
    rcases C8 H with h|⟨l,H,hf⟩
    ·exact .inl h
    obtain⟨v,H,hv⟩:=Am H;exact .inr ⟨_,_,H,LN hE hi gu hz db (fun ti z k1 k2 us=>Uf k1 g2 k2 fF us) hf hv⟩
   ·rename_i n e hk;obtain rfl:=yn (hk.symm.trans g3);rcases bu H with h|⟨ei,b9,H⟩
    ·exact .inl h
    rcases C8 H with h|⟨l,H,hf⟩
    ·exact .inl h
    obtain⟨v,H,hv⟩:=Am H;obtain⟨eti,ed,k1,k2,k3,k4,-⟩:=cK (hE.types _ _ b9);exact .inr ⟨_,_,H,LN hE hi gu hz db (fun ti z r1 r2 us=>by rw[Ug r1 g2 r2 k1 us,k4]) hf hv⟩
   ·exact .inl H
  ·exact .inl H
 ·
  rcases bu H with h|⟨i,hi,H⟩
  ·exact .inl h
  split at H
  ·rename_i e hk;rcases bu H with h|⟨ei,b9,H⟩
   ·exact .inl h
   split at H
   ·rename_i q1 q2 q3 q4 q5;rcases Au H with h|⟨ps,gu,H⟩
    ·exact .inl h
    split at H
    ·rename_i z iB;rw[C9]at H;have kL:z.gd=true:=by rw[iB]at q5;simpa using q5
     rcases LO hE hi b9 hk gu (ahu q1) (jO q2) (jO q3) (ahA q4) (z:=z) (by rw[iB];cases z<;>first|rfl|cases kL) (fun y hy=>ahH.1 q5 y hy) H with h|⟨l,H,hl⟩
     ·exact .inl h
     exact .inr ⟨_,_,H,hl⟩
    ·rw[C9]at H;rcases LO hE hi b9 hk gu (ahu q1) (jO q2) (jO q3) (ahA q4) (z := .agg ei.zero) rfl (fun y hy=>ahH.1 q5 y hy) H with h|⟨l,H,hl⟩
     ·exact .inl h
     exact .inr ⟨_,_,H,hl⟩
   ·exact .inl H
  ·exact .inl H
 ·
  rcases Aq H with h|⟨a,ha,H⟩
  ·exact .inl h
  rcases Aq H with h|⟨b,hb,H⟩
  ·exact .inl h
  exact .inr ⟨_,_,H,Ud ha hb⟩
 ·
  rcases bu H with h|⟨x,hx,H⟩
  ·exact .inl h
  rcases bu H with h|⟨t,ht,H⟩
  ·exact .inl h
  rcases bu H with h|⟨i,hi,H⟩
  ·exact .inl h
  rcases cO H with h|⟨a,ha,H⟩
  ·exact .inl h
  have ca:=hE.types _ _ hi;split at H
  ·rename_i e l hk;refine .inr ⟨_,_,H,.quiet fun o c ac h1 _ h3 h4=>⟨_,yo h1 hx ht ca rfl (.inl ?_),.d _ _ (.int _ _)⟩⟩;have:=ha c ac h3 h4;generalize ac.eval x=u at this;cases this with
   |d _ _ hd=>cases hd with
    |slnil=>exact⟨e,_,_,hk,rfl⟩
    |l6=>exact⟨e,_,_,hk,rfl⟩
    |sl _ _ _ _ _ _ _ _ _ _ _ _ _=>exact⟨e,_,_,hk,rfl⟩
  ·rename_i l hk;exact .inr ⟨_,_,H,.quiet fun o c ac h1 _ h3 h4=>⟨_,yo h1 hx ht ca (qX (ha c ac h3 h4)) (.inr ⟨_,hk,rfl,by simp[ByteArray.size]⟩),.d _ _ (.int _ _)⟩⟩
  ·rename_i e hk;refine .inr ⟨_,_,H,.quiet fun o c ac h1 _ h3 h4=>⟨.int .i64 (0:Nat),yo h1 hx ht ca rfl (.inl ?_),.d _ _ (.int _ _)⟩⟩;have:=ha c ac h3 h4;generalize ac.eval x=u at this;cases this with
   |d _ _ hd=>cases hd with
    |aF=>exact⟨e,_,_,hk,rfl⟩
  ·rename_i e b g hk;rcases bu H with h|⟨bx,hb,H⟩
   ·exact .inl h
   split at H
   ·split at H
    ·rename_i g' ts l _ qg;have:=ahu qg;subst this;refine .inr ⟨_,_,H,.quiet fun o c ac h1 h2 h3 h4=>⟨_,yo h1 hx ht ca rfl (.inl ?_),.d _ _ (.int _ _)⟩⟩;subst h2;have:=ha c ac h3 h4;generalize ac.eval x=u at this;cases this with
     |own _ _ _ l' _ _ k1 k2=>rw[hb]at k1;cases k1;exact⟨e,_,_,hk,rfl⟩
     |jJ _ _ _ k1 k2=>rw[hb]at k1;cases k1;exact⟨e,_,_,hk,rfl⟩
     |l7 _ _ g1 _ _ _ k1 k2 _=>rw[hb]at k1;cases k1;omega
     |ln _ _ _ k1 _=>rw[hb]at k1;cases k1
     |ow _ _ _ _ _ _ k1 _ _=>rw[hb]at k1;cases k1
    ·exact .inl H
   ·exact .inl H
  ·exact .inl H
 ·exact .inl H
end
end Go.az
end
