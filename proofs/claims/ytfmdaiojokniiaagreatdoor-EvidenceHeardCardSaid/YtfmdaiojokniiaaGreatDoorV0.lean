/- Several texts of mine, one behind the other. Conditions: as each says. -/
import Derived.Test.YtfmdaiojokniiaaGreatDoorRows
import Derived.WalkKit
import Derived.WalkSpells
import Derived.WalkLawsBesides
import Derived.Deep.QuietTactic
import Derived.BigQuiet
import Derived.Lib.Hide
import Derived.Laws.EntriesVeiled
import Derived.Deep.RegionHeld3
import Derived.Deep.LoopGhost
import Derived.Sort.Grow
import Derived.Laws.Cells
import Derived.Laws.IdiomCopy
import Derived.Great.BuildSlice
set_option linter.unusedVariables false
set_option linter.unusedSimpArgs false
section
namespace Go.Proofs.YtfmdaiojokniiaaGreatDoor
open Go.RowKit
structure Ext (w w':World):Prop where
 os:w'.os=w.os
 tape:w'.tape=w.tape
 output:w'.output=w.output
 size:w.heap.size≤w'.heap.size
 block:∀ k,k<w.heap.size→w'.heap[k]? = w.heap[k]?
theorem Ext.refl (w:World):Ext w w:=⟨rfl,rfl,rfl,Nat.le_refl _,fun _ _=>rfl⟩
theorem Ext.trans {a b c:World} (h:Ext a b) (k:Ext b c):Ext a c :=
 ⟨k.os.trans h.os,k.tape.trans h.tape,k.output.trans h.output,Nat.le_trans h.size k.size,
  fun i hi=>(k.block i (Nat.lt_of_lt_of_le hi h.size)).trans (h.block i hi)⟩
theorem Ext.drew {a w:World} (h:Ext a w):Ext a w.drew:=⟨h.os,h.tape,h.output,h.size,h.block⟩
theorem Ext.drewN {a w:World} (h:Ext a w) (n:Nat):Ext a (w.drewN n):=⟨h.os,h.tape,h.output,h.size,h.block⟩
theorem Ext.alloc {a w:World} (h:Ext a w) (o:Obj):Ext a (w.alloc o) :=
 ⟨h.os,h.tape,h.output,by simp; exact Nat.le_succ_of_le h.size,fun k hk=>by
  rw [Below.heap_alloc w o k (Nat.lt_of_lt_of_le hk h.size)]; exact h.block k hk⟩
theorem Ext.setCell {a w:World} (h:Ext a w) {p:Addr} (hp:a.heap.size≤p.block) (v:Value):Ext a (w.setCell p v) :=
 ⟨h.os,h.tape,h.output,by simpa [World.setCell] using h.size,fun k hk=>by
  rw [Below.heap_setCell w p v k (by omega)]; exact h.block k hk⟩
theorem Ext.below {a w:World} (h:Ext a w):Below a.heap.size a w:=⟨h.os,h.tape,h.output,h.size,h.block⟩
theorem Ext.cells {W w1:World} (h:Ext W w1):(∀ b o,b<W.heap.size→w1.cell? ⟨b,o,none⟩=W.cell? ⟨b,o,none⟩)∧(∀ b o,b<W.heap.size→w1.frozen? ⟨b,o,none⟩=W.frozen? ⟨b,o,none⟩) :=
 ⟨fun b o hb=>h.below.cell (p:=⟨b,o,none⟩) hb,fun b o hb=>h.below.frozen (p:=⟨b,o,none⟩) hb⟩
theorem Ext.keep {W w1:World} (h:Ext W w1) {a:Addr} {v:Value} (hc:W.cell? a=some v):w1.cell? a=some v:=by
 rw [h.below.cell (World.block_lt_of_cell? _ _ hc)]; exact hc
theorem Ext.Mc {a w:World} (h:Below a.heap.size a w):Ext a w:=⟨h.os,h.tape,h.output,h.size,h.block⟩
theorem Ext.grown {a w w':World} {row:Option Nat} (h:Ext a w) (hg:w.grownBy w' row) (hr:∀ k,row=some k→a.heap.size≤k):Ext a w' :=
 Ext.Mc (h.below.grown hg h.size hr)
end Go.Proofs.YtfmdaiojokniiaaGreatDoor
end
section
namespace Go.aw
open Go
inductive DV where
 |undef
 |bool (b:Bool)
 |int (k:IntKind) (n:Int)
 |str (s:List UInt8)
 |aH
 |sl (l:List DV)
 |agg (c:List DV)
 |aD (c:List DV)
 |dw | ar | ig | mT
 |fn (f:Fn)
 |raw (v:Value)
def DV.cells:DV→List DV
 | .agg c=>c
 |x=>[x]
inductive AV where
 |any
 |d (x:DV)
 |own (b g:Nat)
 |cut (b g k:Nat) (q:Option Nat)
 |ptr (b off:Nat)
 |cB (b g i off:Nat)
 |bE (e:DV) (off:Nat)
 |map (b:Nat)
 |agg (c:List AV)
 |aD (c:List AV)
 |fn (f:Fn) (first captured:List AV)
def AV.cells:AV→List AV
 | .agg c=>c
 | .d x=>x.cells.map .d
 |x=>[x]
inductive ae where
 |cells (c:List AV)
 |arr (g:Nat) (ts:Nat × Nat) (l:List DV)
 |map (es:List (DV × DV))
 |gone
 |hole
inductive VD (bad:Nat→Prop) (w:World):DV→Value→Prop
 |undef:VD bad w .undef Go.undef
 |bool (b:Bool):VD bad w (.bool b) (.bool b)
 |int (k:IntKind) (n:Int):VD bad w (.int k n) (.int k n)
 |str (l:List UInt8):VD bad w (.str l) (.string ⟨l.toArray⟩)
 |aH:VD bad w .aH (.slice none 0 0)
 |slnil:VD bad w (.sl []) (.slice none 0 0)
 |jJ (a:Addr):VD bad w (.sl []) (.slice (some a) 0 0)
 |sl (l:List DV) (blk off cap sz:Nat) (f:Nat→Nat→Value) (hb:l≠[]→¬ bad blk) (bQ:0<sz) (iH:l.length≤cap)
   (hlen:∀ (i:Nat) (e:DV),l[i]? = some e→e.cells.length=sz)
   (cZ:∀ (i j:Nat) (e x:DV),l[i]? = some e→e.cells[j]? = some x→w.cell? ⟨blk,off+(i*sz+j),none⟩=some (f i j))
   (bK:∀ (i j:Nat) (e x:DV),l[i]? = some e→e.cells[j]? = some x→VD bad w x (f i j))
   (bX:∀ (i j:Nat) (e x:DV),l[i]? = some e→e.cells[j]? = some x→(f i j).oneCell'=true) :
   VD bad w (.sl l) (.slice (some ⟨blk,off,none⟩) l.length cap)
 |agg (c:List DV) (vs:Array Value) (hlen:c.length=vs.size) (bK:∀ (j:Nat) (x:DV) (v:Value),c[j]? = some x→vs[j]? = some v→VD bad w x v):VD bad w (.agg c) (.agg vs)
 |aD (c:List DV) (vs:Array Value) (hlen:c.length=vs.size) (bK:∀ (j:Nat) (x:DV) (v:Value),c[j]? = some x→vs[j]? = some v→VD bad w x v):VD bad w (.aD c) (.tuple vs)
 |dw:VD bad w .dw (.pointer none)
 |ar:VD bad w .ar .nilFunc
 |ig:VD bad w .ig (.map none)
 |mT:VD bad w .mT .nilIface
 |fn (f:Fn):VD bad w (.fn f) (.func f #[] #[])
 |raw (v:Value) (h:v.oneCell'=true):VD bad w (.raw v) v
theorem VD.mono {bad th:Nat→Prop} {w w':World} (h:∀ b,b<w.heap.size→¬ bad b→¬ th b∧w'.heap[b]? = w.heap[b]?) {x:DV} {v:Value} (hv:VD bad w x v):VD th w' x v:=by
 induction hv with
 |undef=>exact .undef
 |bool b=>exact .bool b
 |int k n=>exact .int k n
 |str l=>exact .str l
 |aH=>exact .aH
 |slnil=>exact .slnil
 |jJ a=>exact .jJ a
 |sl l blk off cap sz f hb bQ iH hlen cZ bK bX ih =>
  have key:l≠[]→blk<w.heap.size:=fun aJ=>by
   obtain ⟨e,r,rfl⟩:=List.exists_cons_of_ne_nil aJ;have h1:=hlen 0 e rfl;obtain ⟨x,hx⟩:∃ x,e.cells[0]? = some x:=⟨e.cells[0]'(by omega),by simp⟩;exact World.block_lt_of_cell? _ _ (cZ 0 0 e x rfl hx)
  refine .sl l blk off cap sz f (fun aJ=>(h blk (key aJ) (hb aJ)).1) bQ iH hlen (fun i j e x he hx=>?_) ih bX;have aJ:l≠[]:=fun h0=>by subst h0; simp at he
  rw [World.cell?_of_block (h blk (key aJ) (hb aJ)).2];exact cZ i j e x he hx
 |agg c vs hlen bK ih=>exact .agg c vs hlen ih
 |aD c vs hlen bK ih=>exact .aD c vs hlen ih
 |dw=>exact .dw
 |ar=>exact .ar
 |ig=>exact .ig
 |mT=>exact .mT
 |fn f=>exact .fn f
 |raw v h=>exact .raw v h
structure Cx where
 own:Nat→Option (Nat × Nat)
 heap:List ae
 ax:Nat→Prop
 w:World
def Cx.bad (c:Cx) (b:Nat):Prop:=c.ax b∨∃ i n,c.own i=some (b,n)
inductive VR (c:Cx):AV→Value→Prop
 |any (v:Value):VR c .any v
 |d (x:DV) (v:Value) (h:VD c.bad c.w x v):VR c (.d x) v
 |own (b g:Nat) (sz:Nat × Nat) (l:List DV) (blk cap:Nat) (hb:c.heap[b]? = some (.arr g sz l)) (ho:c.own b=some (blk,cap)):VR c (.own b g) (.slice (some ⟨blk,0,none⟩) l.length cap)
 |gy (b g:Nat) (sz:Nat × Nat) (hb:c.heap[b]? = some (.arr g sz [])) (ho:c.own b=none):VR c (.own b g) (.slice none 0 0)
 |jn (b g g':Nat) (sz:Nat × Nat) (l:List DV) (v:Value) (hb:c.heap[b]? = some (.arr g' sz l)) (hg:g<g') (hv:v.oneCell'=true):VR c (.own b g) v
 |iI (b g:Nat) (v:Value) (hb:c.heap[b]? = some .gone) (hv:v.oneCell'=true):VR c (.own b g) v
 |la (b g:Nat) (cs:List AV) (blk cap n:Nat) (hb:c.heap[b]? = some (.cells cs)) (ho:c.own b=some (blk,cap)) (hn:cs.length=n):VR c (.own b g) (.slice (some ⟨blk,0,none⟩) n n)
 |cut (b g k:Nat) (q:Option Nat) (sz:Nat × Nat) (l:List DV) (blk cap o:Nat) (hb:c.heap[b]? = some (.arr g sz l)) (ho:c.own b=some (blk,cap)) (hk:k≤l.length) (yw:k<cap→o=k*sz.2) (hq:∀ n,q=some n→n=cap):VR c (.cut b g k q) (.slice (some ⟨blk,o,none⟩) (l.length - k) (cap - k))
 |l6 (b g g' k:Nat) (q:Option Nat) (sz:Nat × Nat) (l:List DV) (v:Value) (hb:c.heap[b]? = some (.arr g' sz l)) (hg:g<g') (hv:v.oneCell'=true):VR c (.cut b g k q) v
 |l7 (b g k:Nat) (q:Option Nat) (v:Value) (hb:c.heap[b]? = some .gone) (hv:v.oneCell'=true):VR c (.cut b g k q) v
 |ptr (b off:Nat) (cs:List AV) (blk cap:Nat) (hb:c.heap[b]? = some (.cells cs)) (ho:c.own b=some (blk,cap)):VR c (.ptr b off) (.pointer (some ⟨blk,off,none⟩))
 |ik (b off:Nat) (v:Value) (hb:c.heap[b]? = some .gone) (hv:v.oneCell'=true):VR c (.ptr b off) v
 |cB (b g i off:Nat) (sz:Nat × Nat) (l:List DV) (blk cap:Nat) (hb:c.heap[b]? = some (.arr g sz l)) (ho:c.own b=some (blk,cap)) (hi:i<l.length):VR c (.cB b g i off) (.pointer (some ⟨blk,i*sz.2+off,none⟩))
 |kp (b g g' i off:Nat) (sz:Nat × Nat) (l:List DV) (v:Value) (hb:c.heap[b]? = some (.arr g' sz l)) (hg:g<g') (hv:v.oneCell'=true):VR c (.cB b g i off) v
 |kq (b g i off:Nat) (v:Value) (hb:c.heap[b]? = some .gone) (hv:v.oneCell'=true):VR c (.cB b g i off) v
 |bE (e:DV) (off blk o:Nat) (f:Nat→Value) (hb:¬ c.bad blk) (aJ:e.cells≠[])
   (cZ:∀ (j:Nat) (x:DV),e.cells[j]? = some x→c.w.cell? ⟨blk,o+j,none⟩=some (f j)) (bK:∀ (j:Nat) (x:DV),e.cells[j]? = some x→VD c.bad c.w x (f j)) :
   VR c (.bE e off) (.pointer (some ⟨blk,o+off,none⟩))
 |map (b:Nat) (es:List (DV × DV)) (blk cap:Nat) (hb:c.heap[b]? = some (.map es)) (ho:c.own b=some (blk,cap)):VR c (.map b) (.map (some blk))
 |l8 (b:Nat) (v:Value) (hb:c.heap[b]? = some .gone) (hv:v.oneCell'=true):VR c (.map b) v
 |agg (a:List AV) (vs:Array Value) (hlen:a.length=vs.size) (bK:∀ (j:Nat) (x:AV) (v:Value),a[j]? = some x→vs[j]? = some v→VR c x v):VR c (.agg a) (.agg vs)
 |aD (a:List AV) (vs:Array Value) (hlen:a.length=vs.size) (bK:∀ (j:Nat) (x:AV) (v:Value),a[j]? = some x→vs[j]? = some v→VR c x v):VR c (.aD a) (.tuple vs)
 |fn (f:Fn) (a1 a2:List AV) (v1 v2:Array Value) (rl:a1.length=v1.size) (nO:a2.length=v2.size)
   (h1:∀ (j:Nat) (x:AV) (v:Value),a1[j]? = some x→v1[j]? = some v→VR c x v)
   (h2:∀ (j:Nat) (x:AV) (v:Value),a2[j]? = some x→v2[j]? = some v→VR c x v):VR c (.fn f a1 a2) (.func f v1 v2)
def tj (c c':Cx) (i:Nat):ae→Prop
 | .cells cs=>(∃ cs',c'.heap[i]? = some (.cells cs')∧c'.own i=c.own i∧cs'.length=cs.length)∨c'.heap[i]? = some .gone
 | .arr g sz l=>(∃ g' l',c'.heap[i]? = some (.arr g' sz l')∧(g<g'∨g'=g∧l'.length=l.length∧c'.own i=c.own i))∨c'.heap[i]? = some .gone
 | .map _=>(∃ db,c'.heap[i]? = some (.map db)∧c'.own i=c.own i)∨c'.heap[i]? = some .gone
 | .gone=>c'.heap[i]? = some .gone
 | .hole=>∃ b,c'.heap[i]? = some b
theorem tj.ex {c c':Cx} {i:Nat} {b:ae} (h:tj c c' i b):∃ b',c'.heap[i]? = some b':=by
 cases b with
 |cells cs=>rcases h with ⟨_,h,_⟩ | h <;> exact ⟨_,h⟩
 |arr g ts l=>rcases h with ⟨_,_,h,_⟩ | h <;> exact ⟨_,h⟩
 |map es=>rcases h with ⟨_,h,_⟩ | h <;> exact ⟨_,h⟩
 |gone=>exact ⟨_,h⟩
 |hole=>exact h
structure Step (c c':Cx):Prop where
 ax:c'.ax=c.ax
 bN:∀ b,c.ax b→b<c.w.heap.size
 os:c'.w.os=c.w.os
 tape:c'.w.tape=c.w.tape
 output:c'.w.output=c.w.output
 size:c.w.heap.size≤c'.w.heap.size
 keep:∀ b,b<c.w.heap.size→(∀ i n,c.own i≠some (b,n))→c'.w.heap[b]? = c.w.heap[b]?
 dh:∀ i b n,c'.own i=some (b,n)→b<c.w.heap.size→∃ m,c.own i=some (b,m)
 boxes:∀ i bx,c.heap[i]? = some bx→tj c c' i bx
theorem Step.refl (c:Cx) (hb:∀ b,c.ax b→b<c.w.heap.size):Step c c :=
 ⟨rfl,hb,rfl,rfl,rfl,Nat.le_refl _,fun _ _ _=>rfl,fun i b n h _=>⟨n,h⟩,fun i bx h=>by
  cases bx with
  |cells cs=>exact .inl ⟨cs,h,rfl,rfl⟩
  |arr g sz l=>exact .inl ⟨g,l,h,.inr ⟨rfl,rfl,rfl⟩⟩
  |map es=>exact .inl ⟨es,h,rfl⟩
  |gone=>exact h
  |hole=>exact ⟨_,h⟩⟩
theorem Step.trans {a b c:Cx} (h:Step a b) (k:Step b c):Step a c where
 ax:=k.ax.trans h.ax
 bN:=h.bN
 os:=k.os.trans h.os
 tape:=k.tape.trans h.tape
 output:=k.output.trans h.output
 size:=Nat.le_trans h.size k.size
 keep:=fun x hx hn=>by
  rw [k.keep x (Nat.lt_of_lt_of_le hx h.size) (fun i n hi=>by obtain ⟨m,hj⟩:=h.dh i x n hi hx; exact hn i m hj)];exact h.keep x hx hn
 dh:=fun i x n hi hx=>by
  obtain ⟨m,hj⟩:=k.dh i x n hi (Nat.lt_of_lt_of_le hx h.size);exact h.dh i x m hj hx
 boxes:=fun i bx hi=>by
  have h1:=h.boxes i bx hi;cases bx with
  |cells cs =>
   rcases h1 with ⟨cs',h1,h2,h3⟩ | h1
   ·rcases k.boxes i _ h1 with ⟨Bb,k1,k2,k3⟩ | k1
    ·exact .inl ⟨Bb,k1,k2.trans h2,k3.trans h3⟩
    ·exact .inr k1
   ·exact .inr (k.boxes i _ h1)
  |arr g sz l =>
   rcases h1 with ⟨g',l',h1,h2⟩ | h1
   ·rcases k.boxes i _ h1 with ⟨Bc,Bd,k1,k2⟩ | k1
    ·refine .inl ⟨Bc,Bd,k1,?_⟩;rcases h2 with h2 | ⟨h2,h3,h4⟩ <;> rcases k2 with k2 | ⟨k2,k3,k4⟩
     ·left; omega
     ·left; omega
     ·left; omega
     ·exact .inr ⟨k2.trans h2,k3.trans h3,k4.trans h4⟩
    ·exact .inr k1
   ·exact .inr (k.boxes i _ h1)
  |map es =>
   rcases h1 with ⟨db,h1,h2⟩ | h1
   ·rcases k.boxes i _ h1 with ⟨Be,k1,k2⟩ | k1
    ·exact .inl ⟨Be,k1,k2.trans h2⟩
    ·exact .inr k1
   ·exact .inr (k.boxes i _ h1)
  |gone=>exact k.boxes i _ h1
  |hole=>obtain ⟨b,h1⟩:=h1; exact (k.boxes i b h1).ex
theorem Step.vC {c c':Cx} (h:Step c c') (b:Nat) (hb:b<c.w.heap.size) (hn:¬ c.bad b):¬ c'.bad b∧c'.w.heap[b]? = c.w.heap[b]? := by
 have h0:∀ i n,c.own i≠some (b,n):=fun i n hi=>hn (.inr ⟨i,n,hi⟩);refine ⟨?_,h.keep b hb h0⟩;rintro (h1 | ⟨i,n,h1⟩)
 ·exact hn (.inl (by rw [← h.ax]; exact h1))
 ·obtain ⟨m,hj⟩:=h.dh i b n h1 hb;exact h0 i m hj
theorem Step.vd {c c':Cx} (h:Step c c') {x:DV} {v:Value} (hv:VD c.bad c.w x v):VD c'.bad c'.w x v:=hv.mono h.vC
theorem rm {c c':Cx} (oJ:∀ b,b<c.w.heap.size→¬ c.bad b→¬ c'.bad b∧c'.w.heap[b]? = c.w.heap[b]?) (cQ:∀ i bx,c.heap[i]? = some bx→tj c c' i bx) {x:AV} {v:Value} (hv:VR c x v):VR c' x v:=by
 induction hv with
 |any v=>exact .any v
 |d x v hx=>exact .d x v (hx.mono oJ)
 |own b g sz l blk cap hb ho =>
  rcases cQ b _ hb with ⟨g',l',h1,h2 | ⟨rfl,h3,h4⟩⟩ | h1
  ·exact .jn b g g' sz l' _ h1 h2 rfl
  ·rw [← h3]; exact .own b g' sz l' blk cap h1 (h4.trans ho)
  ·exact .iI b g _ h1 rfl
 |gy b g sz hb ho =>
  rcases cQ b _ hb with ⟨g',l',h1,h2 | ⟨rfl,h3,h4⟩⟩ | h1
  ·exact .jn b g g' sz l' _ h1 h2 rfl
  ·obtain rfl:l'=[]:=List.eq_nil_of_length_eq_zero (by simpa using h3);exact .gy b g' sz h1 (h4.trans ho)
  ·exact .iI b g _ h1 rfl
 |jn b g g1 sz l v hb hg hv =>
  rcases cQ b _ hb with ⟨g',l',h1,h2 | ⟨rfl,h3,h4⟩⟩ | h1
  ·exact .jn b g g' sz l' _ h1 (by omega) hv
  ·exact .jn b g g' sz l' _ h1 hg hv
  ·exact .iI b g _ h1 hv
 |iI b g v hb hv=>exact .iI b g v (cQ b _ hb) hv
 |la b g cs blk cap n hb ho hn =>
  rcases cQ b _ hb with ⟨cs',h1,h2,h3⟩ | h1
  ·exact .la b g cs' blk cap n h1 (h2.trans ho) (h3.trans hn)
  ·exact .iI b g _ h1 rfl
 |cut b g k q sz l blk cap o hb ho hk yw hq =>
  rcases cQ b _ hb with ⟨g',l',h1,h2 | ⟨rfl,h3,h4⟩⟩ | h1
  ·exact .l6 b g g' k q sz l' _ h1 h2 rfl
  ·rw [← h3]; exact .cut b g' k q sz l' blk cap o h1 (h4.trans ho) (by omega) yw hq
  ·exact .l7 b g k q _ h1 rfl
 |l6 b g g1 k q sz l v hb hg hv =>
  rcases cQ b _ hb with ⟨g',l',h1,h2 | ⟨rfl,h3,h4⟩⟩ | h1
  ·exact .l6 b g g' k q sz l' _ h1 (by omega) hv
  ·exact .l6 b g g' k q sz l' _ h1 hg hv
  ·exact .l7 b g k q _ h1 hv
 |l7 b g k q v hb hv=>exact .l7 b g k q v (cQ b _ hb) hv
 |ptr b off cs blk cap hb ho =>
  rcases cQ b _ hb with ⟨cs',h1,h2,h3⟩ | h1
  ·exact .ptr b off cs' blk cap h1 (h2.trans ho)
  ·exact .ik b off _ h1 rfl
 |ik b off v hb hv=>exact .ik b off v (cQ b _ hb) hv
 |cB b g i off sz l blk cap hb ho hi =>
  rcases cQ b _ hb with ⟨g',l',h1,h2 | ⟨rfl,h3,h4⟩⟩ | h1
  ·exact .kp b g g' i off sz l' _ h1 h2 rfl
  ·exact .cB b g' i off sz l' blk cap h1 (h4.trans ho) (by omega)
  ·exact .kq b g i off _ h1 rfl
 |kp b g g1 i off sz l v hb hg hv =>
  rcases cQ b _ hb with ⟨g',l',h1,h2 | ⟨rfl,h3,h4⟩⟩ | h1
  ·exact .kp b g g' i off sz l' _ h1 (by omega) hv
  ·exact .kp b g g' i off sz l' _ h1 hg hv
  ·exact .kq b g i off _ h1 hv
 |kq b g i off v hb hv=>exact .kq b g i off v (cQ b _ hb) hv
 |bE e off blk o f hb aJ cZ bK =>
  have aj:blk<c.w.heap.size:=by
   obtain ⟨x,r,hx⟩:=List.exists_cons_of_ne_nil aJ;exact World.block_lt_of_cell? _ _ (cZ 0 x (by rw [hx]; rfl))
  have hk:=oJ blk aj hb;exact .bE e off blk o f hk.1 aJ (fun j x hx=>by rw [World.cell?_of_block hk.2]; exact cZ j x hx) (fun j x hx=>(bK j x hx).mono oJ)
 |map b es blk cap hb ho =>
  rcases cQ b _ hb with ⟨db,h1,h2⟩ | h1
  ·exact .map b db blk cap h1 (h2.trans ho)
  ·exact .l8 b _ h1 rfl
 |l8 b v hb hv=>exact .l8 b v (cQ b _ hb) hv
 |agg a vs hlen bK ih=>exact .agg a vs hlen ih
 |aD a vs hlen bK ih=>exact .aD a vs hlen ih
 |fn f a1 a2 v1 v2 rl nO h1 h2 Md Me=>exact .fn f a1 a2 v1 v2 rl nO Md Me
theorem Step.vr {c c':Cx} (h:Step c c') {x:AV} {v:Value} (hv:VR c x v):VR c' x v:=rm h.vC h.boxes hv
end Go.aw
end
section
namespace Go.aw
open Go
universe u
inductive TK where
 |bool | int (k:IntKind) | string | pointer (e:Nat) | slice (e:Nat) | array (n e:Nat) | map (k e:Nat) | struct (fs:List (Nat × Nat)) | func | iface | other
def tk:TypeDesc→TK
 | .bool => .bool
 | .int k => .int k
 | .string => .string
 | .pointer e => .pointer e
 | .slice e => .slice e
 | .array n e => .array n e
 | .map k e => .map k e
 | .struct fs => .struct (fs.toList.map fun f=>(f.offset,f.type))
 | .func _ _ _ => .func
 | .interface _ => .iface
 |_ => .other
def rn:Value→Option DV
 | .bool b=>some (.bool b)
 | .int k n=>some (.int k n)
 | .string s=>some (.str s.data.toList)
 | .slice none 0 0=>some .aH
 | .pointer none=>some .dw
 | .nilFunc=>some .ar
 | .map none=>some .ig
 | .nilIface=>some .mT
 |_=>none
theorem Fw {bad:Nat→Prop} {w:World} {v:Value} {x:DV} (h:rn v=some x):VD bad w x v:=by
 unfold rn at h;split at h <;> first | (cases h; constructor) | cases h
def TK.agg:TK→Bool
 | .struct _=>true
 | .array _ _=>true
 |_=>false
structure bp where
 k:TK
 size:Nat
 bytes:Nat
 zero:List DV
def vD:List (Option DV)→Option (List DV)
 | []=>some []
 |none::_=>none
 |some x::l=>(vD l).map (x :: ·)
def tn (z:Option Value):List DV:=(z.bind fun v=>vD (v.cells.toList.map rn)).getD []
def eb (P:Program) (t:Nat):Option bp :=
 match P.info? t,P.underlying t with
 |some i,some d=>some ⟨tk d,i.size,i.bytes,tn i.zero⟩
 |_,_=>none
structure Env where
 P:Program
 T:List bp
 G:List (Nat × DV)
 Q:List Nat
def yx (P:Program) (t:Nat):Bool := !P.stoodInHeld t && !P.eqGuardType P.depth t&&(match P.underlying t with
 |some (.struct fs) => fs.toList.all fun f => f.name != "_"
 |_=>false)
structure Env.OK (E:Env):Prop where
 types:∀ (t:Nat) (i:bp),E.T[t]? = some i→eb E.P t=some i
 eqs:∀ t∈E.Q,yx E.P t=true
section Bf
variable {α:Sort u} {β:Type}
def fy:List β→Nat→β→(List β→α)→α
 | [],_,_,k=>k []
 |_::l,0,v,k=>k (v::l)
 |a::l,i+1,v,k=>fy l i v fun l'=>k (a::l')
theorem fY (l:List β) (i:Nat) (v:β) (k:List β→α):fy l i v k=k (l.set i v):=by
 induction l generalizing i k with
 |nil=>rfl
 |cons a l ih=>cases i with
  |zero=>rfl
  |succ i=>simp only [fy,ih,List.set_cons_succ]
def aM:List β→Nat→(no:α)→(β→α)→α
 | [],_,no,_=>no
 |a::_,0,_,k=>k a
 |_::l,i+1,no,k=>aM l i no k
theorem yy {l:List β} {i:Nat} {x:β} (h:l[i]? = some x) (no:α) (k:β→α):aM l i no k=k x:=by
 induction l generalizing i with
 |nil=>simp at h
 |cons a l ih=>cases i with
  |zero=>simp at h; subst h; rfl
  |succ i=>exact ih (by simpa using h)
theorem Fx {l:List β} {i:Nat} (h:l[i]? = none) (no:α) (k:β→α):aM l i no k=no:=by
 induction l generalizing i with
 |nil=>rfl
 |cons a l ih=>cases i with
  |zero=>simp at h
  |succ i=>exact ih (by simpa using h)
def tp:Nat→List β→(List β→α)→α
 | 0,_,k=>k []
 |_+1,[],k=>k []
 |n+1,a::l,k=>tp n l fun l'=>k (a::l')
theorem Fy (n:Nat) (l:List β) (k:List β→α):tp n l k=k (l.take n):=by
 induction n generalizing l k with
 |zero=>simp [tp]
 |succ n ih=>cases l with
  |nil=>simp [tp]
  |cons a l=>simp [tp,ih]
def rp:Nat→List β→(List β→α)→α
 | 0,l,k=>k l
 |_+1,[],k=>k []
 |n+1,_::l,k=>rp n l k
theorem Bg (n:Nat) (l:List β) (k:List β→α):rp n l k=k (l.drop n):=by
 induction n generalizing l with
 |zero=>simp [rp]
 |succ n ih=>cases l with
  |nil=>simp [rp]
  |cons a l=>simp [rp,ih]
def l9:List β→β→Nat→(List β→Nat→α)→α
 | [],v,n,k=>k [v] n
 |a::l,v,n,k=>l9 l v (n+1) fun l' m=>k (a::l') m
theorem pU (l:List β) (v:β) (n:Nat) (k:List β→Nat→α):l9 l v n k=k (l++[v]) (n+l.length):=by
 induction l generalizing n k with
 |nil=>rfl
 |cons a l ih=>simp only [l9,ih,List.cons_append,List.length_cons,Nat.add_assoc,Nat.add_comm 1]
def tq:List β→Nat→List β→(List β→α)→α
 |c,_,[],k=>k c
 |c,off,v::l,k=>fy c off v fun c'=>tq c' (off+1) l k
def cV:List β→Nat→List β→List β
 |c,_,[]=>c
 |c,off,v::l=>cV (c.set off v) (off+1) l
theorem Bh (c:List β) (off:Nat) (l:List β) (k:List β→α):tq c off l k=k (cV c off l):=by
 induction l generalizing c off with
 |nil=>rfl
 |cons v l ih=>simp only [tq,fY,ih,cV]
def mU {γ:Type} (f:β→γ):List β→(List γ→α)→α
 | [],k=>k []
 |a::l,k=>mU f l fun l'=>k (f a::l')
theorem rq {γ:Type} (f:β→γ) (l:List β) (k:List γ→α):mU f l k=k (l.map f):=by
 induction l generalizing k with
 |nil=>rfl
 |cons a l ih=>simp only [mU,ih,List.map_cons]
end Bf
section ops
variable {α:Sort u}
def oK:List AV→(no:α)→(List DV→α)→α
 | [],_,k=>k []
 | .d x::l,no,k=>oK l no fun l'=>k (x::l')
 |_::_,no,_=>no
theorem vE (l:List AV) (no:α) (k:List DV→α):(∃ l',l=l'.map .d∧oK l no k=k l')∨oK l no k=no:=by
 induction l generalizing k with
 |nil=>exact .inl ⟨[],rfl,rfl⟩
 |cons a l ih =>
  cases a
  case d x =>
   rcases ih (fun l'=>k (x::l')) with ⟨l',h1,h2⟩ | h
   ·exact .inl ⟨x::l',by rw [h1]; rfl,h2⟩
   ·exact .inr h
  all_goals exact .inr rfl
def tr (l:List AV) (k:AV→α):α:=oK l (k (.agg l)) fun l'=>k (.d (.agg l'))
def Fz (v:Value) (stop:α) (k:AV→α):α :=
 match v with
 | .bool b=>k (.d (.bool b))
 | .int j n=>k (.d (.int j n))
 | .string s=>k (.d (.str s.data.toList))
 | .slice none 0 0=>k (.d .aH)
 | .pointer none=>k (.d .dw)
 | .nilFunc=>k (.d .ar)
 | .map none=>k (.d .ig)
 | .nilIface=>k (.d .mT)
 |_=>stop
def yz:List (Nat × DV)→Nat→(stop:α)→(AV→α)→α
 | [],_,stop,_=>stop
 |(g,e)::l,i,stop,k=>match Nat.beq g i with
  |true=>k (.bE e 0)
  |false=>yz l i stop k
def bW (G:List (Nat × DV)) (s:List AV) (x:Operand) (stop:α) (k:AV→α):α :=
 match x with
 | .tmp t=>aM s t stop k
 | .const v=>Fz v stop k
 | .global g=>yz G g stop k
 | .func f=>k (.fn (.func f) [] [])
def ru (G:List (Nat × DV)) (s:List AV):List Operand→(stop:α)→(List AV→α)→α
 | [],_,k=>k []
 |x::l,stop,k=>bW G s x stop fun v=>ru G s l stop fun l'=>k (v::l')
def DV.er:DV→Bool
 | .agg _=>false
 | .aD _=>false
 | .undef=>false
 |_=>true
def AV.er:AV→Bool
 | .agg _=>false
 | .aD _=>false
 | .any=>false
 | .d x=>x.er
 |_=>true
def tu (v:AV) (stop:α) (k:List AV→α):α :=
 match v with
 | .agg c=>k c
 | .d (.agg c)=>mU .d c k
 |v=>match v.er with
  |true=>k [v]
  |false=>stop
def jK (i:bp) (c:List AV) (off:Nat) (stop:α) (k:AV→α):α :=
 match i.k.agg with
 |true=>rp off c fun c1=>tp i.size c1 fun c2=>match Nat.beq c2.length i.size with
  |true=>tr c2 k
  |false=>stop
 |false=>aM c off stop k
def Bi (i:bp) (h:List ae) (a:AV) (stop:α) (k:AV→α):α :=
 match a with
 | .ptr b off=>aM h b stop fun
  | .cells c=>jK i c off stop k
  |_=>stop
 | .bE e off=>match e with
  | .agg c=>mU .d c fun c'=>jK i c' off stop k
  |x=>jK i [.d x] off stop k
 |_=>stop
def Bj (i:bp) (h:List ae) (a v:AV) (stop:α) (k:List ae→α):α :=
 match a with
 | .ptr b off=>aM h b stop fun
  | .cells c=>tu v stop fun vs=>match Nat.beq vs.length i.size,Nat.ble (off+vs.length) c.length,vs.all AV.er with
   |true,true,true=>tq c off vs fun c'=>fy h b (.cells c') k
   |_,_,_=>stop
  |_=>stop
 |_=>stop
def Bk (op:BinOp) (j:IntKind) (a b:Int) (stop:α) (k:AV→α):α :=
 match op with
 | .add=>k (.d (.int j (j.wrap (a+b))))
 | .sub=>k (.d (.int j (j.wrap (a - b))))
 | .mul=>k (.d (.int j (j.wrap (a*b))))
 | .eql=>k (.d (.bool (a==b)))
 | .neq=>k (.d (.bool (a != b)))
 | .lss=>k (.d (.bool (decide (a<b))))
 | .leq=>k (.d (.bool (decide (a≤b))))
 | .gtr=>k (.d (.bool (decide (a>b))))
 | .geq=>k (.d (.bool (decide (a≥b))))
 |_=>stop
def Bl (op:BinOp) (a b:List UInt8) (stop:α) (k:AV→α):α :=
 match op with
 | .eql=>k (.d (.bool (a==b)))
 | .neq=>k (.d (.bool (!(a==b))))
 | .lss=>k (.d (.bool (Op.bytesLess a b)))
 | .leq=>k (.d (.bool (Op.bytesLess a b||a==b)))
 | .gtr=>k (.d (.bool (!(Op.bytesLess a b||a==b))))
 | .geq=>k (.d (.bool (!(Op.bytesLess a b))))
 |_=>stop
def IntKind.same:IntKind→IntKind→Bool
 | .i8,.i8 | .i16,.i16 | .i32,.i32 | .i64,.i64 | .u8,.u8 | .u16,.u16 | .u32,.u32 | .u64,.u64=>true
 |_,_=>false
def Bm (i:bp) (op:BinOp) (x y:AV) (stop:α) (k:AV→α):α :=
 match x,y with
 | .d (.int j a),.d (.int j' b)=>match IntKind.same j j' with
  |true=>Bk op j a b stop k
  |false=>stop
 | .d (.str a),.d (.str b)=>Bl op a b stop k
 | .d (.bool a),.d (.bool b)=>match i.k,op with
  | .bool,.eql=>k (.d (.bool (a==b)))
  | .bool,.neq=>k (.d (.bool (!(a==b))))
  |_,_=>stop
 |_,_=>stop
def yA (op:BinOp) (j:IntKind) (a:Int) (y:Operand) (stop:α) (k:AV→α):α :=
 match y with
 | .const (.int j' (.ofNat (m+1)))=>match op with
  | .quo=>match IntKind.same j j' with
   |true=>k (.d (.int j (j.wrap (a.tdiv (.ofNat (m+1))))))
   |false=>stop
  | .rem=>match IntKind.same j j' with
   |true=>k (.d (.int j (a.tmod (.ofNat (m+1)))))
   |false=>stop
  |_=>stop
 |_=>stop
def yB (i:bp) (f:Nat) (stop:α) (k:Nat→Nat→α):α :=
 match i.k with
 | .struct fs=>aM fs f stop fun p=>k p.1 p.2
 |_=>stop
def tv (pl:Nat→Option (Nat × Nat)):List (Nat × AV)→List AV→(stop:α)→(List AV→α)→α
 | [],c,_,k=>k c
 |(f,v)::r,c,stop,k =>
  match pl f with
  |none=>stop
  |some p=>tu v stop fun vs=>match Nat.beq vs.length p.2,Nat.ble (p.1+vs.length) c.length with
   |true,true=>tq c p.1 vs fun c'=>tv pl r c' stop k
   |_,_=>stop
def yC (T:List bp):List (Nat × Nat)→(stop:α)→(List (Nat × Nat)→α)→α
 | [],_,k=>k []
 |(o,t)::l,stop,k=>aM T t stop fun i=>yC T l stop fun l'=>k ((o,i.size)::l')
def di {β:Type}:List β→Nat→Option β
 | [],_=>none
 |a::_,0=>some a
 |_::l,i+1=>di l i
def mV (sz:Nat):List (Nat × AV)→List DV→(stop:α)→(List DV→α)→α
 | [],c,_,k=>k c
 |(f,.d x)::r,c,stop,k=>match x with
  | .agg l=>match Nat.beq l.length sz,l.all DV.er,Nat.blt f c.length with
   |true,true,true=>fy c f (.agg l) fun c'=>mV sz r c' stop k
   |_,_,_=>stop
  |x=>match Nat.beq 1 sz,x.er,Nat.blt f c.length with
   |true,true,true=>fy c f x fun c'=>mV sz r c' stop k
   |_,_,_=>stop
 |_::_,_,stop,_=>stop
def rv:Nat→DV→(List DV→α)→α
 | 0,_,k=>k []
 |n+1,x,k=>rv n x fun l=>k (x::l)
def ry (G:List (Nat × DV)) (s:List AV):List (Nat × Operand)→(stop:α)→(List (Nat × AV)→α)→α
 | [],_,k=>k []
 |(i,x)::l,stop,k=>bW G s x stop fun v=>ry G s l stop fun l'=>k ((i,v)::l')
def kr (T:List bp) (G:List (Nat × DV)) (o:Op) (s:List AV) (h:List ae) (stop:α) (k:AV→List ae→α):α :=
 match o with
 | .move x=>bW G s x stop fun v=>k v h
 | .assign x=>bW G s x stop fun v=>k v h
 | .box _ x=>bW G s x stop fun v=>tu v stop fun c=>l9 h (.cells c) 0 fun h' n=>k (.ptr n 0) h'
 | .alloc t=>aM T t stop fun i=>match Nat.beq i.zero.length i.size,Nat.blt 0 i.size with
  |true,true=>mU .d i.zero fun c=>l9 h (.cells c) 0 fun h' n=>k (.ptr n 0) h'
  |_,_=>stop
 | .load t x=>aM T t stop fun i=>bW G s x stop fun a=>Bi i h a stop fun v=>k v h
 | .store t x y=>aM T t stop fun i=>bW G s x stop fun a=>bW G s y stop fun v=>Bj i h a v stop fun h'=>k (.d .undef) h'
 | .fieldAddr t x f=>aM T t stop fun i=>yB i f stop fun o ft=>aM T ft stop fun fi=>match Nat.blt 0 fi.size with
  |false=>stop
  |true=>bW G s x stop fun
   | .ptr b off=>aM h b stop fun
    | .cells _=>k (.ptr b (off+o)) h
    |_=>stop
   | .bE e off=>k (.bE e (off+o)) h
   | .cB b g i off=>aM h b stop fun
    | .arr g' _ _=>match Nat.beq g g' with
     |true=>k (.cB b g i (off+o)) h
     |false=>stop
    |_=>stop
   |_=>stop
 | .field t x f=>aM T t stop fun i=>yB i f stop fun o ft=>aM T ft stop fun fi=>bW G s x stop fun
  | .agg c=>jK fi c o stop fun v=>k v h
  | .d (.agg c)=>mU .d c fun c'=>jK fi c' o stop fun v=>k v h
  |_=>stop
 | .nilCheck x=>bW G s x stop fun
  | .ptr b off=>aM h b stop fun
   | .cells _=>k (.ptr b off) h
   |_=>stop
  | .bE e off=>k (.bE e off) h
  | .cB b g i off=>aM h b stop fun
   | .arr g' _ _=>match Nat.beq g g' with
    |true=>k (.cB b g i off) h
    |false=>stop
   |_=>stop
  |_=>stop
 | .binOp op t x y _=>aM T t stop fun i=>bW G s x stop fun a=>bW G s y stop fun b =>
  match op with
  | .quo=>match a with
   | .d (.int j n)=>yA .quo j n y stop fun v=>k v h
   |_=>stop
  | .rem=>match a with
   | .d (.int j n)=>yA .rem j n y stop fun v=>k v h
   |_=>stop
  |op=>Bm i op a b stop fun v=>k v h
 | .unOp .not _ x=>bW G s x stop fun
  | .d (.bool b)=>k (.d (.bool !b)) h
  |_=>stop
 | .unOp .neg _ x=>bW G s x stop fun
  | .d (.int j n)=>k (.d (.int j (j.wrap (0 - n)))) h
  |_=>stop
 | .pick c a b=>bW G s c stop fun
  | .d (.bool true)=>bW G s a stop fun v=>k v h
  | .d (.bool false)=>bW G s b stop fun v=>k v h
  |_=>stop
 | .extract x i=>bW G s x stop fun
  | .aD l=>aM l i stop fun v=>k v h
  | .d (.aD l)=>aM l i stop fun v=>k (.d v) h
  |_=>stop
 | .convert t0 t x=>aM T t0 stop fun _=>aM T t stop fun i=>bW G s x stop fun v=>match i.k,v with
  | .int j,.d (.int _ n)=>k (.d (.int j (j.wrap n))) h
  | .string,.d (.str l)=>k (.d (.str l)) h
  |_,_=>stop
 | .build t parts=>aM T t stop fun i=>ry G s parts.toList stop fun ps=>match Nat.beq i.zero.length i.size,Nat.blt 0 i.size with
  |true,true=>mU .d i.zero fun z=>match i.k with
   | .struct fs=>yC T fs stop fun pl=>tv (di pl) ps z stop fun c=>tr c fun v=>k v h
   | .array _ e=>aM T e stop fun ei=>tv (fun i=>some (i*ei.size,ei.size)) ps z stop fun c=>tr c fun v=>k v h
   |_=>stop
  |_,_=>stop
 | .buildSlice t len parts=>aM T t stop fun i=>match i.k with
  | .slice e=>aM T e stop fun ei=>match Nat.beq ei.zero.length ei.size,Nat.blt 0 ei.size,Nat.blt 0 len,Nat.ble (len*ei.size) 16777216,ei.zero.all DV.er with
   |true,true,true,true,true=>ry G s parts.toList stop fun ps =>
    match ei.zero with
    | [z]=>rv len z fun zs=>mV ei.size ps zs stop fun l=>k (.d (.sl l)) h
    |zl=>rv len (.agg zl) fun zs=>mV ei.size ps zs stop fun l=>k (.d (.sl l)) h
   |_,_,_,_,_=>stop
  |_=>stop
 | .makeFunc f first captured=>ru G s first.toList stop fun a=>ru G s captured.toList stop fun b=>k (.fn f a b) h
 | .call { callee := .builtin .len,args:=args,argTypes:=ts }=>aM args.toList 0 stop fun x=>aM ts.toList 0 stop fun t=>aM T t stop fun i=>bW G s x stop fun v=>match i.k,v with
  | .slice _,.d (.sl l)=>k (.d (.int .i64 l.length)) h
  | .string,.d (.str l)=>k (.d (.int .i64 l.length)) h
  | .slice _,.d .aH=>k (.d (.int .i64 0)) h
  | .slice _,.own b g=>aM h b stop fun
   | .arr g' _ l=>match Nat.beq g g' with
    |true=>k (.d (.int .i64 l.length)) h
    |false=>stop
   |_=>stop
  |_,_=>stop
 |_=>stop
def cb (s:List AV) (d:Option Nat) (v:AV) (k:List AV→α):α :=
 match d with
 |some d=>fy s d v k
 |none=>k s
end ops
end Go.aw
end
section
namespace Go.aw
open Go
structure ma (en:Array MapEntry) (ck n:Nat):Prop where
 size:en.size=n
 born:∀ x∈en.toList,x.born<ck
 nodup:(en.toList.map (·.born)).Nodup
 idx:∀ (j:Nat) (x:MapEntry),en[j]? = some x→x.born=j
 tick:ck=n
theorem ma.push {en:Array MapEntry} {ck n:Nat} (h:ma en ck n) (u w:Value):ma (en.push { key:=u,val:=w,born:=ck }) (ck+1) (n+1):=by
 refine ⟨by simp [h.size],fun x hx=>?_,?_,fun j x hj=>?_,by rw [h.tick]⟩
 ·rw [Array.toList_push,List.mem_append] at hx;rcases hx with hx | hx
  ·have:=h.born x hx; omega
  ·simp at hx; subst hx; simp
 ·rw [Array.toList_push,List.map_append,List.nodup_append];refine ⟨h.nodup,by simp,fun a ha b hb=>?_⟩;obtain ⟨x,hx,rfl⟩:=List.mem_map.1 ha;have:=h.born x hx;simp at hb;omega
 ·rw [Array.getElem?_push] at hj;split at hj
  ·rename_i e; cases hj; rw [e,h.size]; exact h.tick
  ·exact h.idx j x hj
theorem ma.modify {en:Array MapEntry} {ck n:Nat} (h:ma en ck n) (i:Nat) (u w:Value):ma (en.modify i fun e=>{ e with key:=u,val:=w }) ck n:=by
 have hm:(en.modify i fun e=>{ e with key:=u,val:=w }).toList.map (·.born)=en.toList.map (·.born):=by
  apply List.ext_getElem?;intro j;simp only [List.getElem?_map,Array.getElem?_toList,Array.getElem?_modify];by_cases hj:i=j
  ·rw [if_pos hj];cases en[j]? <;> rfl
  ·rw [if_neg hj]
 refine ⟨by simp [h.size],fun x hx=>?_,by rw [hm]; exact h.nodup,fun j x hj=>?_,h.tick⟩
 case refine_2 =>
  have e:(en.toList.map (·.born))[j]? = some x.born:=by rw [← hm,List.getElem?_map,Array.getElem?_toList,hj]; rfl
  simp only [List.getElem?_map,Array.getElem?_toList,Option.map_eq_some_iff] at e;obtain ⟨y,hy,e⟩:=e;rw [← e];exact h.idx j y hy
 have:x.born∈en.toList.map (·.born):=by rw [← hm]; exact List.mem_map_of_mem hx
 obtain ⟨y,hy,e⟩:=List.mem_map.1 this;rw [← e];exact h.born y hy
def iJ (c:Cx) (i:Nat):ae→Prop
 | .cells cs=>∃ (blk cap:Nat) (vs:Array Value) (ty:TypeId),c.own i=some (blk,cap)∧c.w.heap[blk]? = some (.cells vs ty (0,0))∧vs.size=cs.length ∧
   ∀ (j:Nat) (x:AV) (v:Value),cs[j]? = some x→vs[j]? = some v→VR c x v
 | .arr _ ts l=>0<ts.2∧(∀ (i:Nat) (e:DV),l[i]? = some e→e.cells.length=ts.2) ∧
   ((c.own i=none∧l=[])∨∃ (blk cap:Nat) (vs:Array Value),c.own i=some (blk,cap)∧c.w.heap[blk]? = some (.cells vs ts.1 (0,0))∧vs.size=cap*ts.2∧l.length≤cap∧cap≤maxLen ∧
    ∀ (i j:Nat) (e x:DV),l[i]? = some e→e.cells[j]? = some x→∃ v,vs[i*ts.2+j]? = some v∧v.oneCell'=true∧VD c.bad c.w x v)
 | .map es=>∃ (blk cap:Nat) (en:Array MapEntry) (ck:Nat),c.own i=some (blk,cap)∧c.w.heap[blk]? = some (.map en ck)∧ma en ck es.length ∧
   ∀ (j:Nat) (k x:DV) (m:MapEntry),es[j]? = some (k,x)→en[j]? = some m→VD c.bad c.w k m.key∧VD c.bad c.w x m.val
 | .gone=>c.own i=none
 | .hole=>c.own i=none
structure aK (G:List (Nat × DV)) (c:Cx):Prop where
 bN:∀ b,c.ax b→b<c.w.heap.size
 br:∀ i b n,c.own i=some (b,n)→b<c.w.heap.size∧i<c.heap.length
 inj:∀ i j b n m,c.own i=some (b,n)→c.own j=some (b,m)→i=j
 sep:∀ i b n,c.own i=some (b,n)→¬ c.ax b
 box:∀ i bx,c.heap[i]? = some bx→iJ c i bx
 eZ:∀ g e,(g,e)∈G→VR c (.bE e 0) (.pointer (some ⟨g,0,none⟩))
def VS (c:Cx) (s:List AV) (t:Array Value):Prop:=s.length=t.size∧∀ (i:Nat) (x:AV) (v:Value),s[i]? = some x→t[i]? = some v→VR c x v
theorem Step.vs {c c':Cx} (h:Step c c') {s:List AV} {t:Array Value} (hv:VS c s t):VS c' s t:=⟨hv.1,fun i x v hx ht=>h.vr (hv.2 i x v hx ht)⟩
theorem VS.put {c:Cx} {s:List AV} {t:Array Value} (hv:VS c s t) (d:Nat) {x:AV} {v:Value} (hx:VR c x v):VS c (s.set d x) (t.setIfInBounds d v):=by
 refine ⟨by simpa using hv.1,fun i y u hy hu=>?_⟩;by_cases hd:d=i
 ·subst hd;have h1:d<s.length:=by
   rcases Nat.lt_or_ge d s.length with h | h
   ·exact h
   ·rw [List.getElem?_eq_none (by simpa using h)] at hy; cases hy
  have h2:d<t.size:=by rw [← hv.1]; exact h1
  rw [List.getElem?_set_self h1] at hy;rw [Array.getElem?_setIfInBounds_self_of_lt h2] at hu;cases hy; cases hu; exact hx
 ·rw [List.getElem?_set_ne hd] at hy;rw [Array.getElem?_setIfInBounds_ne hd] at hu;exact hv.2 i y u hy hu
theorem iJ.keep {c c':Cx} (h:Step c c') {i:Nat} {bx:ae} (hb:iJ c i bx) (ho:c'.own i=c.own i) (hw:∀ b n,c.own i=some (b,n)→c'.w.heap[b]? = c.w.heap[b]?):iJ c' i bx:=by
 cases bx with
 |cells cs =>
  obtain ⟨blk,cap,vs,ty,h1,h2,h3,h4⟩:=hb;exact ⟨blk,cap,vs,ty,ho.trans h1,(hw blk cap h1).trans h2,h3,fun j x v hx hv=>h.vr (h4 j x v hx hv)⟩
 |arr g ts l =>
  obtain ⟨h0,h1,h2⟩:=hb;refine ⟨h0,h1,?_⟩;rcases h2 with ⟨h2,h3⟩ | ⟨blk,cap,vs,h2,h3,h4,h5,h6,h7⟩
  ·exact .inl ⟨ho.trans h2,h3⟩
  ·refine .inr ⟨blk,cap,vs,ho.trans h2,(hw blk cap h2).trans h3,h4,h5,h6,fun i j e x he hx=>?_⟩;obtain ⟨v,h8,vF,h9⟩:=h7 i j e x he hx;exact ⟨v,h8,vF,h.vd h9⟩
 |map es =>
  obtain ⟨blk,cap,en,ck,h1,h2,h3,h4⟩:=hb;exact ⟨blk,cap,en,ck,ho.trans h1,(hw blk cap h1).trans h2,h3,fun j k x m hx hm=>⟨h.vd (h4 j k x m hx hm).1,h.vd (h4 j k x m hx hm).2⟩⟩
 |gone=>exact ho.trans hb
 |hole=>exact ho.trans hb
theorem aK.next {G:List (Nat × DV)} {c c':Cx} (h:aK G c) (hs:Step c c') (hl:∀ i b n,c'.own i=some (b,n)→b<c'.w.heap.size∧i<c'.heap.length)
  (hi:∀ i j b n m,c'.own i=some (b,n)→c'.own j=some (b,m)→i=j)
  (hb:∀ i bx,c'.heap[i]? = some bx→(c.heap[i]? = some bx∧c'.own i=c.own i∧∀ b n,c.own i=some (b,n)→c'.w.heap[b]? = c.w.heap[b]?)∨iJ c' i bx):aK G c' where
 bN:=fun b hb=>Nat.lt_of_lt_of_le (h.bN b (by rw [← hs.ax]; exact hb)) hs.size
 br:=hl
 inj:=hi
 sep:=fun i b n bY hb=>by
  rw [hs.ax] at hb;obtain ⟨m,hj⟩:=hs.dh i b n bY (h.bN b hb);exact h.sep i b m hj hb
 box:=fun i bx hx=>(hb i bx hx).elim (fun ⟨h1,h2,h3⟩=>(h.box i bx h1).keep hs h2 h3) id
 eZ:=fun g e hg=>hs.vr (h.eZ g e hg)
def Cx.dP (c:Cx) (w:World):Cx:={ c with w:=w }
theorem aK.grow {G:List (Nat × DV)} {c:Cx} (h:aK G c) {w:World} (hx:Proofs.YtfmdaiojokniiaaGreatDoor.Ext c.w w):aK G (c.dP w)∧Step c (c.dP w):=by
 have hs:Step c (c.dP w):=⟨rfl,h.bN,hx.os,hx.tape,hx.output,hx.size,fun b hb _=>hx.block b hb,fun i b n hi _=>⟨n,hi⟩,(Step.refl c h.bN).boxes⟩;exact ⟨h.next hs (fun i b n hi=>⟨Nat.lt_of_lt_of_le (h.br i b n hi).1 hx.size,(h.br i b n hi).2⟩) h.inj (fun i bx hb => .inl ⟨hb,rfl,fun b n hn=>hx.block b (h.br i b n hn).1⟩),hs⟩
def FA (P:Program) (o:Oper) (a:Act) (w:World) (v:Value) (w':World):Prop :=
 (execOp a.eval o).run P w = .ok (.value v) w'∨(execOp a.eval o).run P w = .ok .skip w'∧v=undef
def bC (E:Env) (op:Op) (s:List AV) (h:List ae) (x:AV) (h':List ae):Prop :=
 ∀ (o:Oper) (c:Cx) (a:Act),o.op=op→c.heap=h→aK E.G c→VS c s a.tmps →
  ∃ (c':Cx) (v:Value),FA E.P o a c.w v c'.w∧c'.heap=h'∧aK E.G c'∧VR c' x v∧Step c c'
def aY (G:List (Nat × DV)) (s:List AV) (x:Operand) (v:AV):Prop :=
 ∀ (c:Cx) (a:Act),aK G c→VS c s a.tmps→VR c v (a.eval x)
theorem a7 {β:Type} {l:List β} {i:Nat} {stop:Prop} {k:β→Prop} (H:aM l i stop k):stop∨∃ x,l[i]? = some x∧k x:=by
 cases h:l[i]? with
 |none=>rw [Fx h] at H; exact .inl H
 |some x=>rw [yy h] at H; exact .inr ⟨x,rfl,H⟩
theorem b8 {G:List (Nat × DV)} {s:List AV} {x:Operand} {stop:Prop} {k:AV→Prop} (H:bW G s x stop k):stop∨∃ v,aY G s x v∧k v:=by
 cases x with
 |tmp t =>
  rcases a7 H with h | ⟨v,hv,h⟩
  ·exact .inl h
  refine .inr ⟨v,fun c a _ hs=>?_,h⟩;have hl:t<a.tmps.size:=by
   rw [← hs.1];rcases Nat.lt_or_ge t s.length with h | h
   ·exact h
   ·rw [List.getElem?_eq_none h] at hv; cases hv
  have:=hs.2 t v a.tmps[t] hv (by simp [hl])
  simpa [Act.eval,hl] using this
 |const v =>
  simp only [bW,Fz] at H;split at H <;> first
   |exact .inl H
   |exact .inr ⟨_,fun c a _ _ => .d _ _ (Fw rfl),H⟩
 |global g =>
  simp only [bW] at H;have:∀ l:List (Nat × DV),(∀ p∈l,p∈G)→yz l g stop k→stop∨∃ v,aY G s (.global g) v∧k v:=by
   intro l
   induction l with
   |nil=>exact fun _ h => .inl h
   |cons p l ih =>
    intro hm h;obtain ⟨g',e⟩:=p;simp only [yz] at h;split at h
    ·rename_i hg;obtain rfl:g'=g:=Nat.eq_of_beq_eq_true hg;exact .inr ⟨_,fun c a ho _=>ho.eZ g' e (hm _ (List.mem_cons_self ..)),h⟩
    ·exact ih (fun p hp=>hm p (List.mem_cons_of_mem _ hp)) h
  exact this G (fun _ h=>h) H
 |func f=>exact .inr ⟨_,fun c a _ _ => .fn _ _ _ _ _ rfl rfl (fun j x v h=>by simp at h) (fun j x v h=>by simp at h),H⟩
theorem bC.quiet {E:Env} {op:Op} {s:List AV} {h:List ae} {x:AV}
  (H:∀ (o:Oper) (c:Cx) (a:Act),o.op=op→c.heap=h→aK E.G c→VS c s a.tmps→∃ v,(execOp a.eval o).run E.P c.w = .ok (.value v) c.w∧VR c x v):bC E op s h x h :=
 fun o c a h1 h2 h3 h4=>let ⟨v,h5,h6⟩:=H o c a h1 h2 h3 h4; ⟨c,v,.inl h5,h2,h3,h6,Step.refl c h3.bN⟩
theorem Mf {E:Env} {s:List AV} {h:List ae} {x:Operand} {v:AV} (hx:aY E.G s x v):bC E (.move x) s h v h :=
 .quiet fun o c a h1 _ h3 h4=>⟨_,by simp only [execOp,h1]; rfl,hx c a h3 h4⟩
theorem Mg {E:Env} {s:List AV} {h:List ae} {x:Operand} {v:AV} (hx:aY E.G s x v):bC E (.assign x) s h v h :=
 .quiet fun o c a h1 _ h3 h4=>⟨_,by simp only [execOp,h1]; rfl,hx c a h3 h4⟩
end Go.aw
end
section
namespace Go.aw
open Go
section
variable {E:Env} {s:List AV} {h:List ae} {c:Cx}
theorem rz {b:Bool} {v:Value} (h:VR c (.d (.bool b)) v):v = .bool b:=by cases h with | d _ _ h=>cases h; rfl
theorem dQ {k:IntKind} {n:Int} {v:Value} (h:VR c (.d (.int k n)) v):v = .int k n:=by cases h with | d _ _ h=>cases h; rfl
theorem nP {l:List UInt8} {v:Value} (h:VR c (.d (.str l)) v):v = .string ⟨l.toArray⟩:=by cases h with | d _ _ h=>cases h; rfl
def VL (c:Cx) (l:List AV) (vs:List Value):Prop:=l.length=vs.length∧∀ (j:Nat) (x:AV) (v:Value),l[j]? = some x→vs[j]? = some v→VR c x v
theorem VL.nil:VL c [] []:=⟨rfl,fun j x v h=>by simp at h⟩
theorem VL.cons {x:AV} {v:Value} {l:List AV} {vs:List Value} (h:VR c x v) (hl:VL c l vs):VL c (x::l) (v::vs) :=
 ⟨by simp [hl.1],fun j y u hy hu=>by
  cases j with
  |zero=>simp at hy hu; subst hy; subst hu; exact h
  |succ j=>exact hl.2 j y u (by simpa using hy) (by simpa using hu)⟩
theorem VL.head {x:AV} {v:Value} {l:List AV} {vs:List Value} (h:VL c (x::l) (v::vs)):VR c x v∧VL c l vs :=
 ⟨h.2 0 x v rfl rfl,by simpa using h.1,fun j y u hy hu=>h.2 (j+1) y u (by simpa using hy) (by simpa using hu)⟩
theorem VL.set {x:AV} {v:Value} {l:List AV} {vs:List Value} (h:VL c l vs) (i:Nat) (hx:VR c x v):VL c (l.set i x) (vs.set i v):=by
 have:=VS.put (t:=vs.toArray) (s:=l) ⟨by simpa using h.1,fun j y u hy hu=>h.2 j y u hy (by simpa using hu)⟩ i hx;exact ⟨by simpa using h.1,fun j y u hy hu=>this.2 j y u hy (by simpa using hu)⟩
theorem VL.cV:∀ {xs:List AV} {us:List Value} {cs:List AV} {os:List Value} (_:VL c cs os) (off:Nat) (_:VL c xs us),VL c (cV cs off xs) (aw.cV os off us):=by
 intro xs
 induction xs with
 |nil=>intro us cs os hc off hx; obtain rfl:us=[]:=List.eq_nil_of_length_eq_zero hx.1.symm; exact hc
 |cons x xs ih =>
  intro us cs os hc off hx;cases us with
  |nil=>simp [VL] at hx
  |cons u us=>exact ih (hc.set off hx.head.1) (off+1) hx.head.2
theorem VL.drop {l:List AV} {vs:List Value} (h:VL c l vs) (n:Nat):VL c (l.drop n) (vs.drop n) :=
 ⟨by simp [h.1],fun j y u hy hu=>h.2 (n+j) y u (by simpa using hy) (by simpa using hu)⟩
theorem VL.take {l:List AV} {vs:List Value} (h:VL c l vs) (n:Nat):VL c (l.take n) (vs.take n) :=
 ⟨by simp [h.1],fun j y u hy hu=>by
  rw [List.getElem?_take] at hy hu;split at hy
  ·rename_i hj; rw [if_pos hj] at hu; exact h.2 j y u hy hu
  ·cases hy⟩
theorem VL.rA {l:List DV} {vs:List Value} (hl:l.length=vs.length) (h:∀ (j:Nat) (x:DV) (v:Value),l[j]? = some x→vs[j]? = some v→VD c.bad c.w x v):VL c (l.map .d) vs :=
 ⟨by simpa using hl,fun j y u hy hu=>by
  rw [List.getElem?_map] at hy;cases hx:l[j]? with
  |none=>rw [hx] at hy; cases hy
  |some x=>rw [hx] at hy; cases hy; exact .d _ _ (h j x u hx hu)⟩
theorem VL.nQ {l:List DV} {vs:List Value} (h:VL c (l.map .d) vs):∀ (j:Nat) (x:DV) (v:Value),l[j]? = some x→vs[j]? = some v→VD c.bad c.w x v:=fun j x v hx hv=>by
 have:=h.2 j (.d x) v (by rw [List.getElem?_map,hx]; rfl) hv;cases this with | d _ _ h=>exact h
theorem Step.vl {c c':Cx} (h:Step c c') {l:List AV} {vs:List Value} (hv:VL c l vs):VL c' l vs:=⟨hv.1,fun j x v hx hu=>h.vr (hv.2 j x v hx hu)⟩
theorem tx {l:List AV} {vs:List Value} (h:VL c l vs):VR c (.agg l) (.agg vs.toArray) :=
 .agg l vs.toArray (by simpa using h.1) (fun j x v hx hv=>h.2 j x v hx (by simpa using hv))
theorem vG {l:List AV} {k:AV→Prop} (H:tr l k):∃ v,k v∧∀ (c:Cx) (vs:List Value),VL c l vs→VR c v (.agg vs.toArray):=by
 unfold tr at H;rcases vE l (k (.agg l)) (fun l'=>k (.d (.agg l'))) with ⟨l',h1,h2⟩ | h2
 ·rw [h2] at H;refine ⟨_,H,fun c vs hv => .d _ _ (.agg _ _ (by have:=hv.1; rw [h1] at this; simpa using this) ?_)⟩;rw [h1] at hv;exact fun j x v hx eL=>hv.nQ j x v hx (by simpa using eL)
 ·rw [h2] at H;exact ⟨_,H,fun c vs hv=>tx hv⟩
theorem Bn {l:List DV} {v:Value} (h:VR c (.d (.agg l)) v):∃ vs:List Value,v = .agg vs.toArray∧VL c (l.map .d) vs:=by
 cases h with
 |d _ _ h=>cases h with
  |agg _ vs hl hv=>exact ⟨vs.toList,by simp,.rA (by simpa using hl) (fun j x v hx hu=>hv j x v hx (by simpa using hu))⟩
theorem nR {l:List AV} {v:Value} (h:VR c (.agg l) v):∃ vs:List Value,v = .agg vs.toArray∧VL c l vs:=by
 cases h with
 |agg _ vs hl hv=>exact ⟨vs.toList,by simp,by simpa using hl,fun j x v hx hu=>hv j x v hx (by simpa using hu)⟩
theorem vH {bad:Nat→Prop} {w:World} {x:DV} {v:Value} (h:VD bad w x v) (h1:x.er=true):v.oneCell'=true:=by
 cases h <;> first | rfl | assumption | cases h1
theorem Bo {x:AV} {v:Value} (h:VR c x v) (h1:x.er=true):v.oneCell'=true:=by
 cases h with
 |d y v hy=>exact vH hy h1
 |_=>first | rfl | assumption | cases h1
theorem cells_one {v:Value} (h:v.oneCell'=true):v.cells = #[v]:=by
 cases v <;> first | rfl | cases h
def Bp (x:AV) (l:List AV):Prop:=∀ (c:Cx) (v:Value),VR c x v→∃ vs:List Value,v.cells=vs.toArray∧VL c l vs
theorem yD {x:AV} {stop:Prop} {k:List AV→Prop} (H:tu x stop k):stop∨∃ l,Bp x l∧k l:=by
 unfold tu at H;split at H
 ·rename_i l;exact .inr ⟨l,fun c v hv=>(by obtain ⟨vs,rfl,h⟩:=nR hv; exact ⟨vs,rfl,h⟩),H⟩
 ·rename_i l;rw [rq] at H;exact .inr ⟨_,fun c v hv=>(by obtain ⟨vs,rfl,h⟩:=Bn hv; exact ⟨vs,rfl,h⟩),H⟩
 ·split at H
  ·rename_i hs;exact .inr ⟨[x],fun c v hv=>⟨[v],cells_one (Bo hv hs),.cons hv .nil⟩,H⟩
  ·exact .inl H
theorem cj {P:Program} {t:Nat} {i:bp} (h:eb P t=some i):∃ ti d,P.info? t=some ti∧P.underlying t=some d∧i.k=tk d∧i.size=ti.size∧i.bytes=ti.bytes∧i.zero=tn ti.zero:=by
 unfold eb at h;split at h
 ·rename_i ti d h1 h2;cases h;exact ⟨ti,d,h1,h2,rfl,rfl,rfl,rfl⟩
 ·cases h
theorem yE {P:Program} {t:Nat} {i:bp} (h:eb P t=some i) (w:World):(isAgg t).run P w = .ok i.k.agg w:=by
 obtain ⟨ti,d,h1,h2,h3,-⟩:=cj h;rw [h3];simp only [isAgg,underlying,bind,Sem.bind,program,h2,pure,Sem.run];cases d <;> rfl
theorem run_sizeOf {P:Program} {t:Nat} {i:bp} (h:eb P t=some i) (w:World):(Go.sizeOf t).run P w = .ok i.size w:=by
 obtain ⟨ti,d,h1,h2,h3,h4,-⟩:=cj h;simp only [Go.sizeOf,typeInfo,bind,Sem.bind,program,h1,pure,Sem.run,h4]
def yF (w:World) (b o:Nat) (vs:List Value):Prop:=∀ j v,vs[j]? = some v→w.cell? ⟨b,o+j,none⟩=some v
theorem mb (b o j:Nat):(⟨b,o,none⟩:Addr).add j=⟨b,o+j,none⟩:=by unfold Addr.add; split <;> simp_all
theorem Mh {P:Program} {t:Nat} {i:bp} (h:eb P t=some i) {w:World} {b o:Nat} {vs:List Value} (hr:yF w b o vs) (hs:vs.length=i.size) (eV:i.k.agg=true) :
  (Instr.loadAt t (.pointer (some ⟨b,o,none⟩))).run P w = .ok (.agg vs.toArray) w:=by
 have h1:=run_loadCells_list (P:=P) w ⟨b,o,none⟩ vs (fun j v hv=>by rw [mb]; exact hr j v hv);rw [hs] at h1;simp only [Instr.loadAt,Instr.sureAddr,loadVar,Sem.run_bind,Sem.run_pure,Result.andThen_ok,yE h,eV,run_sizeOf h,h1,if_true]
theorem Mi {P:Program} {t:Nat} {i:bp} (h:eb P t=some i) {w:World} {a:Addr} {v:Value} (hr:w.cell? a=some v) (eV:i.k.agg=false) :
  (Instr.loadAt t (.pointer (some a))).run P w = .ok v w:=by
 simp only [Instr.loadAt,Instr.sureAddr,loadVar,Sem.run_bind,Sem.run_pure,Result.andThen_ok,yE h,eV,Bool.false_eq_true,if_false,load,Sem.run,hr]
theorem yG {i:bp} {l:List AV} {off:Nat} {stop:Prop} {k:AV→Prop} (H:jK i l off stop k):stop∨∃ x,k x∧∀ (P:Program) (t:Nat) (c:Cx) (b o:Nat) (vs:List Value),eb P t=some i→VL c l vs→yF c.w b o vs →
  ∃ v,(Instr.loadAt t (.pointer (some ⟨b,o+off,none⟩))).run P c.w = .ok v c.w∧VR c x v:=by
 unfold jK at H;split at H
 ·rename_i eV;rw [Bg,Fy] at H;split at H
  ·rename_i hl;obtain ⟨x,hx,h⟩:=vG H;refine .inr ⟨x,hx,fun P t c b o vs ht hv hr=>⟨_,Mh ht (b:=b) (o:=o+off) (vs:=(vs.drop off).take i.size) (fun j v hj=>?_) ?_ eV,h c _ ((hv.drop off).take _)⟩⟩
   ·rw [List.getElem?_take] at hj;split at hj
    ·have:=hr (off+j) v (by simpa using hj); rwa [← Nat.add_assoc] at this
    ·cases hj
   ·have:=Nat.eq_of_beq_eq_true hl;simp only [List.length_take,List.length_drop] at this ⊢;rw [← hv.1]; exact this
  ·exact .inl H
 ·rename_i eV;rcases a7 H with h | ⟨x,hx,h⟩
  ·exact .inl h
  refine .inr ⟨x,h,fun P t c b o vs ht hv hr=>?_⟩;have aj:off<vs.length:=by
   rw [← hv.1];rcases Nat.lt_or_ge off l.length with h | h
   ·exact h
   ·rw [List.getElem?_eq_none h] at hx; cases hx
  exact ⟨vs[off],Mi ht (hr off _ (by simp [aj])) eV,hv.2 off x _ hx (by simp [aj])⟩
end
end Go.aw
end
section
namespace Go.aw
open Go Go.RowKit
section
variable {E:Env} {s:List AV} {h:List ae} {c:Cx} {G:List (Nat × DV)}
theorem yH (b:Nat):∀ (vs:List Value) (o:Nat) (w:World),(w.setCells b o vs).os=w.os∧(w.setCells b o vs).tape=w.tape∧(w.setCells b o vs).output=w.output∧(w.setCells b o vs).heap.size=w.heap.size
 | [],_,_=>⟨rfl,rfl,rfl,rfl⟩
 |v::r,o,w=>by
  obtain ⟨h1,h2,h3,h4⟩:=yH b r (o+1) (w.setCell ⟨b,o,none⟩ v);exact ⟨h1,h2,h3,h4.trans (by simp)⟩
theorem tz (b:Nat):∀ (vs:List Value) (o:Nat) (w:World) (k:Nat),k≠b→(w.setCells b o vs).heap[k]? = w.heap[k]?
 | [],_,_,_,_=>rfl
 |v::r,o,w,k,hk=>by
  have:=tz b r (o+1) (w.setCell ⟨b,o,none⟩ v) k hk;exact this.trans (Below.heap_setCell w _ v k hk)
theorem yI (b:Nat) (ty:TypeId) (fr:Nat × Nat):∀ (vs:List Value) (o:Nat) (w:World) (cur:Array Value),w.heap[b]? = some (.cells cur ty fr) →
  (w.setCells b o vs).heap[b]? = some (.cells (cV cur.toList o vs).toArray ty fr)
 | [],_,_,cur,hb=>by simpa [cV,World.setCells] using hb
 |v::r,o,w,cur,hb=>by
  have h1:(w.setCell ⟨b,o,none⟩ v).heap[b]? = some (.cells (cur.setIfInBounds o v) ty fr):=by
   simp only [World.setCell,Array.getElem?_modify,if_true,hb,Option.map_some];rfl
  have:=yI b ty fr r (o+1) (w.setCell ⟨b,o,none⟩ v) _ h1
  simpa [cV,World.setCells] using this
theorem vI {β:Type}:∀ (vs:List β) (o:Nat) (l:List β),(cV l o vs).length=l.length
 | [],_,_=>rfl
 |v::r,o,l=>by simp [cV,vI r]
theorem ku {w:World} {b:Nat} {vs:Array Value} {ty:TypeId} {fr:Nat × Nat} (h:w.heap[b]? = some (.cells vs ty fr)):yF w b 0 vs.toList:=fun j v hv=>by
 simp only [World.cell?,h,Nat.zero_add]
 simpa using hv
theorem aK.cells (ho:aK G c) {b:Nat} {cs:List AV} (hb:c.heap[b]? = some (.cells cs)):∃ (blk cap:Nat) (vs:Array Value) (ty:TypeId),c.own b=some (blk,cap)∧c.w.heap[blk]? = some (.cells vs ty (0,0))∧VL c cs vs.toList:=by
 obtain ⟨blk,cap,vs,ty,h1,h2,h3,h4⟩:=ho.box b _ hb;exact ⟨blk,cap,vs,ty,h1,h2,by simpa using h3.symm,fun j x v hx hv=>h4 j x v hx (by simpa using hv)⟩
theorem Mj (hE:E.OK) {t:Nat} {x:Operand} {i:bp} (hi:E.T[t]? = some i) {a:AV} (ha:aY E.G s x a) {stop:Prop} {k:AV→Prop} (H:Bi i h a stop k):stop∨∃ v,k v∧bC E (.load t x) s h v h:=by
 have ht:=hE.types t i hi;have run:∀ (o:Oper) (ac:Act) (w:World) (v:Value),o.op = .load t x→(Instr.loadAt t (ac.eval x)).run E.P w = .ok v w→(execOp ac.eval o).run E.P w = .ok (.value v) w:=fun o ac w v h1 h2=>by
  simp only [execOp,h1,Sem.run_bind,h2,Result.andThen_ok,Sem.run_pure]
 unfold Bi at H;split at H
 ·rename_i b off;rcases a7 H with h1 | ⟨bx,hb,H⟩
  ·exact .inl h1
  split at H
  ·rename_i cs;rcases yG H with h1 | ⟨v,hk,hp⟩
   ·exact .inl h1
   refine .inr ⟨v,hk,.quiet fun o c ac h1 h2 h3 h4=>?_⟩;subst h2;obtain ⟨blk,cap,vs,ty,g1,g2,g3⟩:=h3.cells hb;have hv:=ha c ac h3 h4;obtain ⟨u,hu,oL⟩:=hp E.P t c blk 0 vs.toList ht g3 (ku g2);refine ⟨u,run o ac c.w u h1 ?_,oL⟩;generalize ac.eval x=p at hv;cases hv with
   |ptr b off cs' iK il bZ cG =>
    rw [g1] at cG; cases cG
    rwa [Nat.zero_add] at hu
   |ik b off v' bZ _=>rw [hb] at bZ; cases bZ
  ·exact .inl H
 ·rename_i e off;have key:∀ l:List AV,l=e.cells.map .d→jK i l off stop k→stop∨∃ v,k v∧bC E (.load t x) s h v h:=fun l hl H=>by
   rcases yG H with h1 | ⟨v,hk,hp⟩
   ·exact .inl h1
   refine .inr ⟨v,hk,.quiet fun o c ac h1 h2 h3 h4=>?_⟩;have hv:=ha c ac h3 h4;generalize pV:ac.eval x=p at hv;cases hv with
   |bE _ _ blk o' f oJ aJ cZ bK =>
    obtain ⟨u,hu,oL⟩:=hp E.P t c blk o' ((List.range e.cells.length).map f) ht (by
      rw [hl];refine .rA (by simp) (fun j y v hy hv=>?_);have hj:j<e.cells.length:=by
       rcases Nat.lt_or_ge j e.cells.length with h | h
       ·exact h
       ·rw [List.getElem?_eq_none h] at hy; cases hy
      simp [hj] at hv;subst hv;exact bK j y hy) (fun j v hv=>by
      rcases Nat.lt_or_ge j e.cells.length with hj | hj
      ·simp [hj] at hv;subst hv;exact cZ j e.cells[j] (by simp [hj])
      ·rw [List.getElem?_eq_none (by simpa using hj)] at hv; cases hv)
    exact ⟨u,run o ac c.w u h1 (by rw [pV]; exact hu),oL⟩
  split at H
  ·rename_i l;rw [rq] at H;exact key _ rfl H
  ·rename_i mW;exact key _ (by cases e <;> first | rfl | exact absurd rfl (mW _)) H
 ·exact .inl H
theorem FB {P:Program} {t:Nat} {i:bp} (ht:eb P t=some i) {w:World} {b o:Nat} {v:Value} {vs:List Value} (hv:v.cells=vs.toArray) (hs:vs.length=i.size) {cur:Array Value} {ty:TypeId} (hb:w.heap[b]? = some (.cells cur ty (0,0)))
  (gz:o+vs.length≤cur.size) (h1:∀ u∈vs,u.oneCell'=true):(Instr.storeAt t (.pointer (some ⟨b,o,none⟩)) v).run P w = .ok () (w.setCells b o vs):=by
 have bc:=run_storeCells_cells (P:=P) b o vs 0 w (fun j hj=>by
   simp only [World.cell?,hb]
   simp; omega) (fun j hj=>by simp [World.frozen?,hb]) h1
 simp only [Instr.storeAt,Instr.sureAddr,storeVar,Sem.run_bind,Sem.run_pure,Result.andThen_ok,run_sizeOf ht,hv];simp only [List.size_toArray,hs,ne_eq,not_true_eq_false,if_false]
 simpa using bc
theorem aK.write (ho:aK G c) {b blk cap:Nat} {cs cs':List AV} {vs:Array Value} {ty:TypeId} (hb:c.heap[b]? = some (.cells cs)) (bA:c.own b=some (blk,cap)) (hblk:c.w.heap[blk]? = some (.cells vs ty (0,0)))
  {us:List Value} {off:Nat} (hl:cs'.length=cs.length) (hv:VL c cs' (cV vs.toList off us)) :
  let c':Cx:={ c with heap:=c.heap.set b (.cells cs'),w:=c.w.setCells blk off us }
  aK G c'∧Step c c':=by
 intro c';obtain ⟨e1,e2,e3,e4⟩:=yH blk us off c.w;have eu:b<c.heap.length:=(ho.br b blk cap bA).2
 have hs:Step c c':={
  ax:=rfl
  bN:=ho.bN
  os:=e1
  tape:=e2
  output:=e3
  size:=Nat.le_of_eq e4.symm
  keep:=fun x _ hn=>tz blk us off c.w x (fun e=>hn b cap (by rw [e]; exact bA))
  dh:=fun i x n hi _=>⟨n,hi⟩
  boxes:=fun i bx hi=>by
   by_cases bz:i=b
   ·subst bz;rw [hb] at hi;cases hi;exact .inl ⟨cs',by show (c.heap.set i _)[i]? = _; rw [List.getElem?_set_self eu],rfl,hl⟩
   ·have h':c'.heap[i]? = some bx:=by show (c.heap.set b _)[i]? = _; rw [List.getElem?_set_ne (Ne.symm bz)]; exact hi
    cases bx with
    |cells cs=>exact .inl ⟨cs,h',rfl,rfl⟩
    |arr g sz l=>exact .inl ⟨g,l,h',.inr ⟨rfl,rfl,rfl⟩⟩
    |map es=>exact .inl ⟨es,h',rfl⟩
    |gone=>exact h'
    |hole=>exact ⟨_,h'⟩ }
 refine ⟨ho.next hs (fun i x n hi=>⟨by show x<(c.w.setCells blk off us).heap.size; rw [e4]; exact (ho.br i x n hi).1,by show i<(c.heap.set b _).length; rw [List.length_set]; exact (ho.br i x n hi).2⟩) ho.inj (fun i bx hi=>?_),hs⟩;by_cases bz:i=b
 ·subst bz;have bY:(c.heap.set i (.cells cs'))[i]? = some bx:=hi;rw [List.getElem?_set_self eu] at bY;cases bY;right;have eL:=hs.vl hv;exact ⟨blk,cap,(cV vs.toList off us).toArray,ty,bA,yI blk ty (0,0) us off c.w vs hblk,by simpa using eL.1.symm,fun j x v hx hu=>eL.2 j x v hx (by simpa using hu)⟩
 ·left;have bY:(c.heap.set b (.cells cs'))[i]? = some bx:=hi;rw [List.getElem?_set_ne (Ne.symm bz)] at bY;exact ⟨bY,rfl,fun x n hn=>tz blk us off c.w x (fun e=>bz (ho.inj i b blk n cap (by rw [← e]; exact hn) bA))⟩
theorem Mk (hE:E.OK) {t:Nat} {x y:Operand} {i:bp} (hi:E.T[t]? = some i) {a v:AV} (ha:aY E.G s x a) (hv:aY E.G s y v) {stop:Prop} {k:List ae→Prop} (H:Bj i h a v stop k):stop∨∃ h',k h'∧bC E (.store t x y) s h (.d .undef) h':=by
 have ht:=hE.types t i hi;unfold Bj at H;split at H
 ·rename_i b off;rcases a7 H with h1 | ⟨bx,hb,H⟩
  ·exact .inl h1
  split at H
  ·rename_i cs;rcases yD H with h1 | ⟨l,hl,H⟩
   ·exact .inl h1
   split at H
   ·rename_i q1 q2 q3;rw [Bh,fY] at H;refine .inr ⟨_,H,fun o c ac h1 h2 h3 h4=>?_⟩;subst h2;have hp:=ha c ac h3 h4;have hu:=hv c ac h3 h4;obtain ⟨blk,cap,vs,ty,g1,g2,g3⟩:=h3.cells hb;obtain ⟨us,rB,jo⟩:=hl c _ hu;have q1:=Nat.eq_of_beq_eq_true q1;have q2:=Nat.le_of_ble_eq_true q2;have gz:off+us.length≤vs.size:=by
     rw [← jo.1]; have:=g3.1; simp at this; omega
    have bX:∀ u∈us,u.oneCell'=true:=fun u hu=>by
     obtain ⟨j,hj,rfl⟩:=List.getElem_of_mem hu;have mX:j<l.length:=by rw [jo.1]; exact hj
     exact Bo (jo.2 j l[j] us[j] (by simp [mX]) (by simp [hj])) (List.all_eq_true.1 q3 _ (List.getElem_mem mX))
    have cn:(Instr.storeAt t (ac.eval x) (ac.eval y)).run E.P c.w = .ok () (c.w.setCells blk off us):=by
     generalize ac.eval x=p at hp;cases hp with
     |ptr b off cs' iK il bZ cG =>
      rw [g1] at cG; cases cG;exact FB ht rB (by rw [← jo.1]; exact q1) g2 gz bX
     |ik b off v' bZ _=>rw [hb] at bZ; cases bZ
    obtain ⟨w1,w2⟩:=h3.write (cs':=cV cs off l) (us:=us) (off:=off) hb g1 g2 (vI _ _ _) (VL.cV g3 off jo);refine ⟨_,Go.undef,.inr ⟨?_,rfl⟩,rfl,w1,.d _ _ .undef,w2⟩;simp only [execOp,h1,Sem.run_bind,cn,Result.andThen_ok,Sem.run_pure]
   ·exact .inl H
  ·exact .inl H
 ·exact .inl H
def Cx.add (c:Cx) (bx:ae) (cap:Nat) (o:Obj):Cx:={ c with own:=fun i=>if i=c.heap.length then some (c.w.heap.size,cap) else c.own i,heap:=c.heap++[bx],w:=c.w.alloc o }
theorem aK.add (ho:aK G c) (bx:ae) (cap:Nat) (o:Obj):Step c (c.add bx cap o)∧(iJ (c.add bx cap o) c.heap.length bx→aK G (c.add bx cap o)):=by
 have bL:∀ i b n,c.own i=some (b,n)→i≠c.heap.length:=fun i b n hi e=>by have:=(ho.br i b n hi).2; omega
 have hs:Step c (c.add bx cap o):={
  ax:=rfl
  bN:=ho.bN
  os:=rfl
  tape:=rfl
  output:=rfl
  size:=by simp [Cx.add]
  keep:=fun x hx _=>Below.heap_alloc c.w o x hx
  dh:=fun i x n hi hx=>by
   simp only [Cx.add] at hi;split at hi
   ·cases hi; omega
   ·exact ⟨n,hi⟩
  boxes:=fun i b hi=>by
   have aj:i<c.heap.length:=by
    rcases Nat.lt_or_ge i c.heap.length with h | h
    ·exact h
    ·rw [List.getElem?_eq_none h] at hi; cases hi
   have h':(c.add bx cap o).heap[i]? = some b:=by simp only [Cx.add]; rw [List.getElem?_append_left aj]; exact hi
   have oM:(c.add bx cap o).own i=c.own i:=by simp only [Cx.add]; rw [if_neg (by omega)]
   cases b with
   |cells cs=>exact .inl ⟨cs,h',oM,rfl⟩
   |arr g sz l=>exact .inl ⟨g,l,h',.inr ⟨rfl,rfl,oM⟩⟩
   |map es=>exact .inl ⟨es,h',oM⟩
   |gone=>exact h'
   |hole=>exact ⟨_,h'⟩ }
 refine ⟨hs,fun gN=>ho.next hs ?_ ?_ ?_⟩
 ·intro i b n hi;simp only [Cx.add] at hi ⊢;split at hi
  ·cases hi; simp; omega
  ·have:=ho.br i b n hi; simp; omega
 ·intro i j b n m hi hj;simp only [Cx.add] at hi hj;split at hi <;> split at hj
  ·omega
  ·cases hi; have:=(ho.br j _ _ hj).1; omega
  ·cases hj; have:=(ho.br i _ _ hi).1; omega
  ·exact ho.inj i j b n m hi hj
 ·intro i b hi;by_cases fL:i=c.heap.length
  ·subst fL;right;have:b=bx:=by simp [Cx.add] at hi; exact hi.symm
   subst this;exact gN
  ·left;have aj:i<c.heap.length:=by
    rcases Nat.lt_or_ge i c.heap.length with h | h
    ·exact h
    ·rw [List.getElem?_eq_none (by simp [Cx.add]; omega)] at hi; cases hi
   refine ⟨?_,by simp only [Cx.add]; rw [if_neg fL],fun x n hn=>Below.heap_alloc c.w o x (ho.br i x n hn).1⟩;simp only [Cx.add] at hi
   rwa [List.getElem?_append_left aj] at hi
theorem aK.Bq (ho:aK G c) {cs:List AV} {vs:List Value} (hv:VL c cs vs) (ty:TypeId) :
  let c':=c.add (.cells cs) 0 (.cells vs.toArray ty)
  aK G c'∧Step c c'∧VR c' (.ptr c.heap.length 0) (.pointer (some ⟨c.w.heap.size,0,none⟩)):=by
 intro c';obtain ⟨h1,h2⟩:=ho.add (.cells cs) 0 (.cells vs.toArray ty);have e1:c'.own c.heap.length=some (c.w.heap.size,0):=by simp [c',Cx.add]
 have eL:=h1.vl hv;refine ⟨h2 ⟨c.w.heap.size,0,vs.toArray,ty,e1,heap_alloc_new _ _,by simpa using hv.1.symm,fun j x v hx hu=>eL.2 j x v hx (by simpa using hu)⟩,h1,.ptr _ _ cs _ 0 ?_ e1⟩;simp [c',Cx.add]
theorem Ml {t:Nat} {x:Operand} {v:AV} (hv:aY E.G s x v) {l:List AV} (hl:Bp v l):bC E (.box t x) s h (.ptr h.length 0) (h++[.cells l]):=fun o c a h1 h2 h3 h4=>by
 subst h2;obtain ⟨us,rB,jo⟩:=hl c _ (hv c a h3 h4);obtain ⟨w1,w2,w3⟩:=h3.Bq jo t;refine ⟨_,_,.inl ?_,rfl,w1,w3,w2⟩;simp only [execOp,h1,Instr.box,newVar,newRow,newObj,Sem.run_bind,Sem.run,Result.andThen_ok,Sem.run_pure,rB];rfl
theorem FC:∀ {vs:List Value} {l:List DV},vD (vs.map rn)=some l→l.length=vs.length∧∀ (j:Nat) (x:DV) (v:Value),l[j]? = some x→vs[j]? = some v→rn v=some x
 | [],l,h=>by cases h; exact ⟨rfl,fun j x v h=>by simp at h⟩
 |v::vs,l,h=>by
  simp only [List.map_cons] at h;cases hv:rn v with
  |none=>rw [hv] at h; cases h
  |some x =>
   rw [hv] at h;simp only [vD,Option.map_eq_some_iff] at h;obtain ⟨l',h1,rfl⟩:=h;obtain ⟨h2,h3⟩:=FC h1;refine ⟨by simp [h2],fun j y u hy hu=>?_⟩;cases j with
   |zero=>simp at hy hu; subst hy; subst hu; exact hv
   |succ j=>exact h3 j y u (by simpa using hy) (by simpa using hu)
theorem FD {P:Program} {t:Nat} {i:bp} (ht:eb P t=some i) (hz:i.zero.length=i.size) (cC:0<i.size):∃ z:Value,(∀ w,(zeroValue t).run P w = .ok z w)∧∀ c:Cx,∃ vs:List Value,z.cells=vs.toArray∧VL c (i.zero.map .d) vs:=by
 obtain ⟨ti,d,h1,h2,h3,h4,h5,h6⟩:=cj ht;cases mc:ti.zero with
 |none=>rw [h6,mc] at hz; simp [tn] at hz; omega
 |some z =>
  rw [h6,mc] at hz;simp only [tn,Option.bind_some] at hz;cases ha:vD (z.cells.toList.map rn) with
  |none=>rw [ha] at hz; simp at hz; omega
  |some l =>
   refine ⟨z,fun w=>by simp only [zeroValue,typeInfo,bind,Sem.bind,program,h1,pure,Sem.run,mc],fun c=>⟨z.cells.toList,by simp,?_⟩⟩;have:i.zero=l:=by rw [h6,mc]; simp [tn,ha]
   rw [this];obtain ⟨g1,g2⟩:=FC ha;exact .rA g1 (fun j x v hx hu=>Fw (g2 j x v hx hu))
theorem Mm (hE:E.OK) {t:Nat} {i:bp} (hi:E.T[t]? = some i) (hz:i.zero.length=i.size) (cC:0<i.size):bC E (.alloc t) s h (.ptr h.length 0) (h++[.cells (i.zero.map .d)]):=fun o c a h1 h2 h3 h4=>by
 subst h2;obtain ⟨z,jL,jq⟩:=FD (hE.types t i hi) hz cC;obtain ⟨us,rB,jo⟩:=jq c;obtain ⟨w1,w2,w3⟩:=h3.Bq jo t;refine ⟨_,_,.inl ?_,rfl,w1,w3,w2⟩;simp only [execOp,h1,Instr.alloc,newVar,newRow,newObj,Sem.run_bind,Sem.run,Result.andThen_ok,Sem.run_pure,jL,rB];rfl
end
end Go.aw
end
section
namespace Go.aw
open Go Go.RowKit
section
variable {E:Env} {s:List AV} {h:List ae} {c:Cx} {G:List (Nat × DV)}
theorem Mn {x a b:Operand} {v:AV} (hx:aY E.G s x (.d (.bool true))) (ha:aY E.G s a v):bC E (.pick x a b) s h v h :=
 .quiet fun o c ac h1 _ h3 h4=>⟨_,by simp only [execOp,h1,rz (hx c ac h3 h4),asBool,Sem.run_bind,Sem.run_pure,Result.andThen_ok,if_true],ha c ac h3 h4⟩
theorem Mo {x a b:Operand} {v:AV} (hx:aY E.G s x (.d (.bool false))) (hb:aY E.G s b v):bC E (.pick x a b) s h v h :=
 .quiet fun o c ac h1 _ h3 h4=>⟨_,by simp only [execOp,h1,rz (hx c ac h3 h4),asBool,Sem.run_bind,Sem.run_pure,Result.andThen_ok]; rfl,hb c ac h3 h4⟩
theorem tA (op:BinOp) (t:TypeId) (x y:Operand) (j j':IntKind) (a b:Int):eqGuard op t x y (.int j a) (.int j' b)=pure ():=by
 unfold eqGuard; cases op <;> rfl
theorem Mp (op:BinOp) (t:TypeId) (x y:Operand) (a b:ByteArray):eqGuard op t x y (.string a) (.string b)=pure ():=by
 unfold eqGuard; cases op <;> rfl
theorem Mq (op:BinOp) (t:TypeId) (x y:Operand) (a b:Bool):eqGuard op t x y (.bool a) (.bool b)=pure ():=by
 unfold eqGuard; cases op <;> rfl
theorem pW {j j':IntKind} (h:IntKind.same j j'=true):j=j':=by
 cases j <;> cases j' <;> first | rfl | cases h
theorem oN {P:Program} {o:Oper} {ac:Act} {w:World} {op:BinOp} {t t':TypeId} {x y:Operand} {u:Value} (h1:o.op = .binOp op t x y t') (hg:eqGuard op t x y (ac.eval x) (ac.eval y)=pure ())
  (h:(binOp op t (ac.eval x) (ac.eval y)).run P w = .ok u w):(execOp ac.eval o).run P w = .ok (.value u) w:=by
 simp only [execOp,h1,hg,Sem.run_bind,Sem.run_pure,Result.andThen_ok,h]
theorem ok_int {op:BinOp} {t t':TypeId} {x y:Operand} {j:IntKind} {a b:Int} (hx:aY E.G s x (.d (.int j a))) (hy:aY E.G s y (.d (.int j b))) {stop:Prop} {k:AV→Prop} (H:Bk op j a b stop k) :
  stop∨∃ v,k v∧bC E (.binOp op t x y t') s h v h:=by
 unfold Bk at H;split at H;all_goals first
  |exact .inl H
  |refine .inr ⟨_,H,.quiet fun o c ac h1 _ h3 h4=>?_⟩
   have e1:=dQ (hx c ac h3 h4);have e2:=dQ (hy c ac h3 h4)
   refine ⟨_,oN h1 (by rw [e1,e2]; exact tA ..) (u:=?_) (by
    rw [e1,e2];simp only [binOp,ne_eq,not_true_eq_false,if_false,Op.intArith,Op.intCmp]
    rfl),.d _ _ (by constructor)⟩
theorem Mr {op:BinOp} {t t':TypeId} {x y:Operand} {a b:List UInt8} (hx:aY E.G s x (.d (.str a))) (hy:aY E.G s y (.d (.str b))) {stop:Prop} {k:AV→Prop} (H:Bl op a b stop k) :
  stop∨∃ v,k v∧bC E (.binOp op t x y t') s h v h:=by
 have tl:∀ l:List UInt8,(ByteArray.mk l.toArray).toList=l:=fun l=>by simp
 unfold Bl at H;split at H;all_goals first
  |exact .inl H
  |refine .inr ⟨_,H,.quiet fun o c ac h1 _ h3 h4=>?_⟩
   have e1:=nP (hx c ac h3 h4);have e2:=nP (hy c ac h3 h4)
   refine ⟨_,oN h1 (by rw [e1,e2]; exact Mp ..) (u:=?_) (by
    rw [e1,e2];simp only [binOp,Op.stringOp,tl]
    rfl),.d _ _ (by constructor)⟩
theorem FE {op:BinOp} {t t':TypeId} {x y:Operand} {i:bp} (ht:eb E.P t=some i) {a b:Bool} (hx:aY E.G s x (.d (.bool a))) (hy:aY E.G s y (.d (.bool b))) (hk:i.k = .bool) (v:Bool)
  (ca:op = .eql∧v=(a==b)∨op = .neq∧v = !(a==b)):bC E (.binOp op t x y t') s h (.d (.bool v)) h :=
 .quiet fun o c ac h1 _ h3 h4=>by
  have e1:=rz (hx c ac h3 h4);have e2:=rz (hy c ac h3 h4);obtain ⟨ti,d,g1,g2,g3,-⟩:=cj ht;have hd:d = .bool:=by rw [hk] at g3; cases d <;> first | rfl | cases g3
  subst hd;have heq:∀ w,(Op.equal t (.bool a) (.bool b)).run E.P w = .ok (a==b) w:=fun w=>by
   have:∀ n,(Op.equalIn (n+1) t (.bool a) (.bool b)).run E.P w = .ok (a==b) w:=fun n=>by
    rw [Op.equalIn];simp only [Sem.run_bind,run_underlying g2,Result.andThen_ok,Sem.run_pure]
   exact this 9999
  refine ⟨_,oN h1 (by rw [e1,e2]; exact Mq ..) (u := .bool v) ?_,.d _ _ (.bool v)⟩;rw [e1,e2];rcases ca with ⟨rfl,rfl⟩ | ⟨rfl,rfl⟩ <;> simp only [binOp,Sem.run_bind,heq,Result.andThen_ok,Sem.run_pure]
theorem FF {op:BinOp} {t t':TypeId} {x y:Operand} {j:IntKind} {a:Int} (ca:op = .quo∨op = .rem) (hx:aY E.G s x (.d (.int j a))) {stop:Prop} {k:AV→Prop} (H:yA op j a y stop k) :
  stop∨∃ v,k v∧bC E (.binOp op t x y t') s h v h:=by
 unfold yA at H;split at H
 ·rename_i j' m;have aJ:¬ (Int.ofNat (m+1)=0):=by intro h; cases h
  rcases ca with rfl | rfl
  ·dsimp only at H;split at H
   ·rename_i hs;obtain rfl:=pW hs;refine .inr ⟨_,H,.quiet fun o c ac h1 _ h3 h4=>⟨_,oN h1 (by rw [dQ (hx c ac h3 h4)]; exact tA ..) (u := .int j (j.wrap (a.tdiv (.ofNat (m+1))))) ?_,.d _ _ (.int _ _)⟩⟩;rw [dQ (hx c ac h3 h4)];simp only [Act.eval,binOp,ne_eq,not_true_eq_false,if_false,Op.intDiv,aJ,Sem.run_pure]
   ·exact .inl H
  ·dsimp only at H;split at H
   ·rename_i hs;obtain rfl:=pW hs;refine .inr ⟨_,H,.quiet fun o c ac h1 _ h3 h4=>⟨_,oN h1 (by rw [dQ (hx c ac h3 h4)]; exact tA ..) (u := .int j (a.tmod (.ofNat (m+1)))) ?_,.d _ _ (.int _ _)⟩⟩;rw [dQ (hx c ac h3 h4)];simp only [Act.eval,binOp,ne_eq,not_true_eq_false,if_false,Op.intDiv,aJ,Sem.run_pure]
   ·exact .inl H
 ·exact .inl H
theorem Ms {op:BinOp} (ca:op ≠ .quo∧op ≠ .rem) {t t':TypeId} {x y:Operand} {i:bp} (ht:eb E.P t=some i) {a b:AV} (hx:aY E.G s x a) (hy:aY E.G s y b) {stop:Prop} {k:AV→Prop} (H:Bm i op a b stop k) :
  stop∨∃ v,k v∧bC E (.binOp op t x y t') s h v h:=by
 unfold Bm at H;split at H
 ·split at H
  ·rename_i hs;obtain rfl:=pW hs;exact ok_int hx hy H
  ·exact .inl H
 ·exact Mr hx hy H
 ·split at H
  ·rename_i hk;exact .inr ⟨_,H,FE ht hx hy hk _ (.inl ⟨rfl,rfl⟩)⟩
  ·rename_i hk;exact .inr ⟨_,H,FE ht hx hy hk _ (.inr ⟨rfl,rfl⟩)⟩
  ·exact .inl H
 ·exact .inl H
theorem Mt {t:TypeId} {x:Operand} {b:Bool} (hx:aY E.G s x (.d (.bool b))):bC E (.unOp .not t x) s h (.d (.bool !b)) h :=
 .quiet fun o c ac h1 _ h3 h4=>⟨.bool !b,by simp only [execOp,h1,rz (hx c ac h3 h4),Op.unary,Sem.run_bind,Sem.run_pure,Result.andThen_ok],.d _ _ (.bool _)⟩
theorem Mu {t:TypeId} {x:Operand} {j:IntKind} {n:Int} (hx:aY E.G s x (.d (.int j n))):bC E (.unOp .neg t x) s h (.d (.int j (j.wrap (0 - n)))) h :=
 .quiet fun o c ac h1 _ h3 h4=>⟨.int j (j.wrap (0 - n)),by simp only [execOp,h1,dQ (hx c ac h3 h4),Op.unary,Op.intArith,Sem.run_bind,Sem.run_pure,Result.andThen_ok],.d _ _ (.int _ _)⟩
theorem Mv {x:Operand} {n:Nat} {l:List AV} (hx:aY E.G s x (.aD l)) {v:AV} (hv:l[n]? = some v):bC E (.extract x n) s h v h :=
 .quiet fun o c ac h1 _ h3 h4=>by
  have:=hx c ac h3 h4;generalize he:ac.eval x=u at this;cases this with
  |aD _ vs hl bK =>
   have hn:n<vs.size:=by
    rw [← hl];rcases Nat.lt_or_ge n l.length with h | h
    ·exact h
    ·rw [List.getElem?_eq_none h] at hv; cases hv
   exact ⟨vs[n],by simp only [execOp,h1,he,Instr.extract,Sem.run_bind,Sem.run_pure,Result.andThen_ok,Array.getElem?_eq_getElem hn],bK n v vs[n] hv (by simp [hn])⟩
theorem Mw {x:Operand} {n:Nat} {l:List DV} (hx:aY E.G s x (.d (.aD l))) {v:DV} (hv:l[n]? = some v):bC E (.extract x n) s h (.d v) h :=
 .quiet fun o c ac h1 _ h3 h4=>by
  have:=hx c ac h3 h4;generalize he:ac.eval x=u at this;cases this with
  |d _ _ hd=>cases hd with
   |aD _ vs hl bK =>
    have hn:n<vs.size:=by
     rw [← hl];rcases Nat.lt_or_ge n l.length with h | h
     ·exact h
     ·rw [List.getElem?_eq_none h] at hv; cases hv
    exact ⟨vs[n],by simp only [execOp,h1,he,Instr.extract,Sem.run_bind,Sem.run_pure,Result.andThen_ok,Array.getElem?_eq_getElem hn],.d _ _ (bK n v vs[n] hv (by simp [hn]))⟩
theorem tB {d:TypeDesc} {j:IntKind} (h:TK.int j=tk d):d = .int j:=by cases d <;> first | cases h <;> rfl | cases h
theorem pX {d:TypeDesc} (h:TK.string=tk d):d = .string:=by cases d <;> first | rfl | cases h
theorem kv {d:TypeDesc} {e:Nat} (h:TK.slice e=tk d):d = .slice e:=by cases d <;> first | cases h <;> rfl | cases h
theorem vJ {d:TypeDesc} {n e:Nat} (h:TK.array n e=tk d):d = .array n e:=by cases d <;> first | cases h <;> rfl | cases h
theorem oO {d:TypeDesc} {fs:List (Nat × Nat)} (h:TK.struct fs=tk d):∃ fl,d = .struct fl∧fs=fl.toList.map fun f=>(f.offset,f.type):=by
 cases d with
 |struct fl=>exact ⟨fl,rfl,by injection h⟩
 |_=>cases h
theorem Mx {t0 t:TypeId} {x:Operand} {i i0:bp} (ht:eb E.P t=some i) (Br:eb E.P t0=some i0) {j j':IntKind} {n:Int} (hk:i.k = .int j) (hx:aY E.G s x (.d (.int j' n))):bC E (.convert t0 t x) s h (.d (.int j (j.wrap n))) h :=
 .quiet fun o c ac h1 _ h3 h4=>by
  obtain ⟨ti,d,g1,g2,g3,-⟩:=cj ht;obtain ⟨yJ,d0,k1,k2,-⟩:=cj Br;obtain rfl:=tB (hk.symm.trans g3);refine ⟨.int j (j.wrap n),?_,.d _ _ (.int _ _)⟩;simp only [execOp,h1,dQ (hx c ac h3 h4),convert,Sem.run_bind,run_underlying k2,run_underlying g2,Result.andThen_ok,Conv.intToInt,Sem.run_pure]
theorem My {t0 t:TypeId} {x:Operand} {i i0:bp} (ht:eb E.P t=some i) (Br:eb E.P t0=some i0) {l:List UInt8} (hk:i.k = .string) (hx:aY E.G s x (.d (.str l))):bC E (.convert t0 t x) s h (.d (.str l)) h :=
 .quiet fun o c ac h1 _ h3 h4=>by
  obtain ⟨ti,d,g1,g2,g3,-⟩:=cj ht;obtain ⟨yJ,d0,k1,k2,-⟩:=cj Br;obtain rfl:=pX (hk.symm.trans g3);refine ⟨.string ⟨l.toArray⟩,?_,.d _ _ (.str _)⟩;simp only [execOp,h1,nP (hx c ac h3 h4),convert,Sem.run_bind,run_underlying k2,run_underlying g2,Result.andThen_ok,Sem.run_pure]
end
end Go.aw
end
section
namespace Go.aw
open Go Go.RowKit
section
variable {E:Env} {s:List AV} {h:List ae} {c:Cx} {G:List (Nat × DV)}
theorem Mz {P:Program} {t f off ft:Nat} {i fi:bp} (ht:eb P t=some i) (MA:eb P ft=some fi) (cC:0<fi.size) {fs:List (Nat × Nat)} (hk:i.k = .struct fs) (hf:fs[f]? = some (off,ft)) (w:World) (b o:Nat) :
  (Instr.fieldAt t (.pointer (some ⟨b,o,none⟩)) f).run P w = .ok (.pointer (some ⟨b,o+off,none⟩)) w:=by
 obtain ⟨ti,d,g1,g2,g3,-⟩:=cj ht;obtain ⟨fl,rfl,rfl⟩:=oO (hk.symm.trans g3);simp only [List.getElem?_map,Option.map_eq_some_iff] at hf;obtain ⟨fd,hf,pY⟩:=hf;simp only [Prod.mk.injEq] at pY;obtain ⟨rfl,rfl⟩:=pY;have Bs:fl[f]? = some fd:=by simpa using hf
 have hz:¬ (fi.size=0):=by omega
 simp only [Instr.fieldAt,Sem.run_bind,run_underlying g2,Result.andThen_ok,Bs,Instr.sureAddr,Sem.run_pure,fieldPlace,run_sizeOf MA,hz,if_false,mb]
theorem FG {i:bp} {f:Nat} {stop:Prop} {k:Nat→Nat→Prop} (H:yB i f stop k):stop∨∃ fs off ft,i.k = .struct fs∧fs[f]? = some (off,ft)∧k off ft:=by
 unfold yB at H;split at H
 ·rename_i fs hk;rcases a7 H with h | ⟨p,hp,h⟩
  ·exact .inl h
  ·exact .inr ⟨fs,p.1,p.2,hk,hp,h⟩
 ·exact .inl H
theorem Bt (hE:E.OK) {t f off ft:Nat} {x:Operand} {i fi:bp} (hi:E.T[t]? = some i) (iL:E.T[ft]? = some fi) (cC:0<fi.size) {fs:List (Nat × Nat)} (hk:i.k = .struct fs) (hf:fs[f]? = some (off,ft)) {a a':AV} (ha:aY E.G s x a)
  (Bu:(∃ b o,a = .ptr b o∧a' = .ptr b (o+off)∧∃ cs,h[b]? = some (.cells cs))∨(∃ e o,a = .bE e o∧a' = .bE e (o+off))∨(∃ b g i o ts l,a = .cB b g i o∧a' = .cB b g i (o+off)∧h[b]? = some (.arr g ts l))) :
  bC E (.fieldAddr t x f) s h a' h := .quiet fun o c ac h1 h2 h3 h4=>by
 subst h2;have hv:=ha c ac h3 h4;have run:=Mz (hE.types t i hi) (hE.types ft fi iL) cC hk hf;generalize hp:ac.eval x=p at hv;have fin:∀ blk o',p = .pointer (some ⟨blk,o',none⟩)→(execOp ac.eval o).run E.P c.w = .ok (.value (.pointer (some ⟨blk,o'+off,none⟩))) c.w:=fun blk o' e=>by
  simp only [execOp,h1,hp,e,Sem.run_bind,run,Result.andThen_ok,Sem.run_pure]
 rcases Bu with ⟨b,o1,rfl,rfl,cs,hb⟩ | ⟨e,o1,rfl,rfl⟩ | ⟨b,g,j,o1,ts,l,rfl,rfl,hb⟩
 ·cases hv with
  |ptr _ _ cs blk cap k1 k2=>exact ⟨_,fin blk o1 rfl,.ptr _ _ cs blk cap k1 k2⟩
  |ik _ _ _ k1 _=>rw [hb] at k1; cases k1
 ·cases hv with
  |bE _ _ blk o' fv k1 k2 k3 k4=>exact ⟨_,fin blk (o'+o1) rfl,by rw [Nat.add_assoc]; exact .bE _ _ blk o' fv k1 k2 k3 k4⟩
 ·cases hv with
  |cB _ _ _ _ ts l blk cap k1 k2 k3=>exact ⟨_,fin blk (j*ts.2+o1) rfl,by rw [Nat.add_assoc]; exact .cB _ _ _ _ ts l blk cap k1 k2 k3⟩
  |kp _ _ g' _ _ _ _ _ k1 k2 _=>rw [hb] at k1; cases k1; omega
  |kq _ _ _ _ _ k1 _=>rw [hb] at k1; cases k1
theorem MB {P:Program} {t:Nat} {i:bp} (ht:eb P t=some i) (w:World) (vs:List Value) (off:Nat) (eV:i.k.agg=true) :
  (part t vs.toArray off).run P w = .ok (.agg ((vs.drop off).take i.size).toArray) w:=by
 have:vs.toArray.extract off (off+i.size)=((vs.drop off).take i.size).toArray:=by
  simp [List.extract_eq_take_drop]
 simp only [part,Sem.run_bind,yE ht,eV,Result.andThen_ok,if_true,run_sizeOf ht,Sem.run_pure,this]
theorem yK {P:Program} {t:Nat} {i:bp} (ht:eb P t=some i) (w:World) (vs:List Value) (off:Nat) (v:Value) (hv:vs[off]? = some v) (eV:i.k.agg=false) :
  (part t vs.toArray off).run P w = .ok v w:=by
 have:vs.toArray[off]? = some v:=by simpa using hv
 simp only [part,Sem.run_bind,yE ht,eV,Result.andThen_ok,Bool.false_eq_true,if_false,this,Sem.run_pure]
theorem MC {i:bp} {l:List AV} {off:Nat} {stop:Prop} {k:AV→Prop} (H:jK i l off stop k):stop∨∃ x,k x∧∀ (P:Program) (t:Nat) (c:Cx) (vs:List Value),eb P t=some i→VL c l vs →
  ∃ v,(part t vs.toArray off).run P c.w = .ok v c.w∧VR c x v:=by
 unfold jK at H;split at H
 ·rename_i eV;rw [Bg,Fy] at H;split at H
  ·obtain ⟨x,hx,h⟩:=vG H;refine .inr ⟨x,hx,fun P t c vs ht hv=>⟨_,?_,h c _ ((hv.drop off).take _)⟩⟩;exact MB ht c.w vs off eV
  ·exact .inl H
 ·rename_i eV;rcases a7 H with h | ⟨x,hx,h⟩
  ·exact .inl h
  refine .inr ⟨x,h,fun P t c vs ht hv=>?_⟩;have aj:off<vs.length:=by
   rw [← hv.1];rcases Nat.lt_or_ge off l.length with h | h
   ·exact h
   ·rw [List.getElem?_eq_none h] at hx; cases hx
  exact ⟨vs[off],yK ht c.w vs off _ (by simp [aj]) eV,hv.2 off x _ hx (by simp [aj])⟩
theorem FH (hE:E.OK) {t f off ft:Nat} {x:Operand} {i fi:bp} (hi:E.T[t]? = some i) (iL:E.T[ft]? = some fi) {fs:List (Nat × Nat)} (hk:i.k = .struct fs) (hf:fs[f]? = some (off,ft)) {a:AV} (ha:aY E.G s x a) {l:List AV}
  (hl:∀ (c:Cx) (v:Value),VR c a v→∃ vs:List Value,v = .agg vs.toArray∧VL c l vs) {stop:Prop} {k:AV→Prop} (H:jK fi l off stop k):stop∨∃ v,k v∧bC E (.field t x f) s h v h:=by
 rcases MC H with h | ⟨v,hv,hp⟩
 ·exact .inl h
 refine .inr ⟨v,hv,.quiet fun o c ac h1 _ h3 h4=>?_⟩;obtain ⟨vs,he,gC⟩:=hl c _ (ha c ac h3 h4);obtain ⟨u,hu,oL⟩:=hp E.P ft c vs (hE.types ft fi iL) gC;obtain ⟨ti,d,g1,g2,g3,-⟩:=cj (hE.types t i hi);obtain ⟨fl,rfl,rfl⟩:=oO (hk.symm.trans g3);simp only [List.getElem?_map,Option.map_eq_some_iff] at hf;obtain ⟨fd,hf,pY⟩:=hf;simp only [Prod.mk.injEq] at pY;obtain ⟨rfl,rfl⟩:=pY;have Bs:fl[f]? = some fd:=by simpa using hf
 refine ⟨u,?_,oL⟩;simp only [execOp,h1,he,Instr.field,Sem.run_bind,run_underlying g2,Result.andThen_ok,Bs,asAgg,Sem.run_pure,hu]
theorem Bv {x:Operand} {a:AV} (ha:aY E.G s x a)
  (Bu:(∃ b o,a = .ptr b o∧∃ cs,h[b]? = some (.cells cs))∨(∃ e o,a = .bE e o)∨(∃ b g i o ts l,a = .cB b g i o∧h[b]? = some (.arr g ts l))):bC E (.nilCheck x) s h a h := .quiet fun o c ac h1 h2 h3 h4=>by
 subst h2;have hv:=ha c ac h3 h4;refine ⟨ac.eval x,?_,hv⟩;generalize hp:ac.eval x=p at hv;have fin:∀ a',p = .pointer (some a')→(execOp ac.eval o).run E.P c.w = .ok (.value p) c.w:=fun a' e=>by
  simp only [execOp,h1,hp,e]; rfl
 rcases Bu with ⟨b,o1,rfl,cs,hb⟩ | ⟨e,o1,rfl⟩ | ⟨b,g,j,o1,ts,l,rfl,hb⟩
 ·cases hv with
  |ptr _ _ cs blk cap k1 k2=>exact fin _ rfl
  |ik _ _ _ k1 _=>rw [hb] at k1; cases k1
 ·cases hv with
  |bE _ _ blk o' fv k1 k2 k3 k4=>exact fin _ rfl
 ·cases hv with
  |cB _ _ _ _ ts l blk cap k1 k2 k3=>exact fin _ rfl
  |kp _ _ g' _ _ _ _ _ k1 k2 _=>rw [hb] at k1; cases k1; omega
  |kq _ _ _ _ _ k1 _=>rw [hb] at k1; cases k1
def im (G:List (Nat × DV)) (s:List AV) (xs:List Operand) (vs:List AV):Prop:=∀ (c:Cx) (a:Act),aK G c→VS c s a.tmps→VL c vs (xs.map a.eval)
theorem vK {stop:Prop}:∀ {xs:List Operand} {k:List AV→Prop},ru G s xs stop k→stop∨∃ vs,im G s xs vs∧k vs
 | [],k,H => .inr ⟨[],fun _ _ _ _ => .nil,H⟩
 |x::xs,k,H=>by
  simp only [ru] at H;rcases b8 H with h | ⟨v,hv,H⟩
  ·exact .inl h
  rcases vK H with h | ⟨vs,eF,H⟩
  ·exact .inl h
  exact .inr ⟨v::vs,fun c a h1 h2 => .cons (hv c a h1 h2) (eF c a h1 h2),H⟩
theorem MD {f:Fn} {a1 a2:Array Operand} {l1 l2:List AV} (h1:im E.G s a1.toList l1) (h2:im E.G s a2.toList l2):bC E (.makeFunc f a1 a2) s h (.fn f l1 l2) h :=
 .quiet fun o c ac e1 _ h3 h4=>by
  have g1:=h1 c ac h3 h4;have g2:=h2 c ac h3 h4;refine ⟨.func f (a1.map ac.eval) (a2.map ac.eval),by simp only [execOp,e1,Instr.makeFunc,Sem.run_bind,Sem.run_pure,Result.andThen_ok],.fn _ _ _ _ _ (by simpa using g1.1) (by simpa using g2.1) ?_ ?_⟩
  ·exact fun j x v hx hv=>g1.2 j x v hx (by simpa using hv)
  ·exact fun j x v hx hv=>g2.2 j x v hx (by simpa using hv)
theorem vL {P:Program} {o:Oper} {ac:Act} {w:World} {args:Array Operand} {ts:Array TypeId} {x:Operand} {t:Nat} {i:bp} {n:Nat} {v:Value} (h1:o.op = .call { callee := .builtin .len,args:=args,argTypes:=ts }) (hx:args.toList[0]? = some x) (ht:ts.toList[0]? = some t) (bP:eb P t=some i) (he:ac.eval x=v)
  (hv:(∃ e a cap,i.k = .slice e∧v = .slice a n cap)∨(∃ b,i.k = .string∧v = .string b∧b.size=n)):(execOp ac.eval o).run P w = .ok (.value (.int .i64 n)) w:=by
 have fa:args[0]? = some x:=by simpa using hx
 have me:ts[0]? = some t:=by simpa using ht
 have tC:(args.map ac.eval)[0]? = some v:=by rw [Array.getElem?_map,fa]; simp [he]
 obtain ⟨ti,d,g1,g2,g3,-⟩:=cj bP;rcases hv with ⟨e,a,cap,hk,rfl⟩ | ⟨b,hk,rfl,hb⟩
 ·obtain rfl:=kv (hk.symm.trans g3);simp only [execOp,h1,resolve,invoke,builtin,Builtin.len_,me,tC,Sem.run_bind,Sem.run_pure,Result.andThen_ok,run_underlying g2,goInt]
 ·obtain rfl:=pX (hk.symm.trans g3);simp only [execOp,h1,resolve,invoke,builtin,Builtin.len_,me,tC,Sem.run_bind,Sem.run_pure,Result.andThen_ok,run_underlying g2,goInt,hb]
def vM (G:List (Nat × DV)) (s:List AV) (xs:List (Nat × Operand)) (vs:List (Nat × AV)):Prop:=∀ (c:Cx) (a:Act),aK G c→VS c s a.tmps→vs.map (·.1)=xs.map (·.1)∧VL c (vs.map (·.2)) (xs.map fun p=>a.eval p.2)
theorem vN {stop:Prop}:∀ {xs:List (Nat × Operand)} {k:List (Nat × AV)→Prop},ry G s xs stop k→stop∨∃ vs,vM G s xs vs∧k vs
 | [],k,H => .inr ⟨[],fun _ _ _ _=>⟨rfl,.nil⟩,H⟩
 |(n,x)::xs,k,H=>by
  simp only [ry] at H;rcases b8 H with h | ⟨v,hv,H⟩
  ·exact .inl h
  rcases vN H with h | ⟨vs,eF,H⟩
  ·exact .inl h
  exact .inr ⟨(n,v)::vs,fun c a h1 h2=>⟨by simp [(eF c a h1 h2).1],.cons (hv c a h1 h2) (eF c a h1 h2).2⟩,H⟩
theorem Bw (off:Nat):∀ (vs:List Value) (n:Nat) (cs:Array Value),((vs.zipIdx n).foldl (fun cs (x:Value × Nat)=>cs.setIfInBounds (off+x.2) x.1) cs)=(cV cs.toList (off+n) vs).toArray
 | [],_,cs=>by simp [cV]
 |v::r,n,cs=>by
  simp only [List.zipIdx_cons,List.foldl_cons];rw [Bw off r (n+1)];simp [cV,Nat.add_assoc]
theorem yL {pl:Nat→Option (Nat × Nat)} {stop:Prop}:∀ {ps:List (Nat × AV)} {l:List AV} {k:List AV→Prop},tv pl ps l stop k→stop∨∃ l',k l' ∧
  ∀ (c:Cx) (vs us:List Value),VL c l vs→VL c (ps.map (·.2)) us→∃ vs':List Value,Instr.fill pl vs.toArray ((ps.map (·.1)).zip us)=some vs'.toArray∧VL c l' vs'
 | [],l,k,H => .inr ⟨l,H,fun c vs us hv hu=>⟨vs,by simp [Instr.fill],hv⟩⟩
 |(f,x)::ps,l,k,H=>by
  simp only [tv] at H;split at H
  ·exact .inl H
  rename_i p hp;rcases yD H with h | ⟨xs,ME,H⟩
  ·exact .inl h
  split at H
  ·rename_i q1 q2;rw [Bh] at H;rcases yL H with h | ⟨l',hk,hf⟩
   ·exact .inl h
   refine .inr ⟨l',hk,fun c vs us hv hu=>?_⟩;cases us with
   |nil=>have:=hu.1; simp at this
   |cons u us =>
    simp only [List.map_cons] at hu ⊢;obtain ⟨h1,h2⟩:=hu.head;obtain ⟨cv,pZ,gC⟩:=ME c u h1;obtain ⟨vs',h3,h4⟩:=hf c (cV vs p.1 cv) us (VL.cV hv p.1 gC) h2;refine ⟨vs',?_,h4⟩;have q1:=Nat.eq_of_beq_eq_true q1;have q2:=Nat.le_of_ble_eq_true q2;rw [gC.1] at q1 q2;rw [hv.1] at q2;simp only [List.zip_cons_cons,Instr.fill,hp];rw [if_neg (by simp [pZ,q1]; omega)];rw [← h3]
    congr 1
    rw [pZ];have:=Bw p.1 cv 0 vs.toArray;simp only [Nat.add_zero] at this;rw [← this];simp
  ·exact .inl H
theorem FI {P:Program} {T:List bp} (hT:∀ (t:Nat) (i:bp),T[t]? = some i→eb P t=some i) {stop:Prop}:∀ {fs:List Field} {k:List (Nat × Nat)→Prop},yC T (fs.map fun f=>(f.offset,f.type)) stop k →
  stop∨∃ pl,k pl∧fs.mapM (fun f=>(P.info? f.type).map fun i=>(f.offset,i.size))=some pl
 | [],k,H => .inr ⟨[],H,rfl⟩
 |f::fs,k,H=>by
  simp only [List.map_cons,yC] at H;rcases a7 H with h | ⟨i,hi,H⟩
  ·exact .inl h
  rcases FI hT H with h | ⟨pl,hk,hp⟩
  ·exact .inl h
  obtain ⟨ti,d,g1,g2,g3,g4,-⟩:=cj (hT _ _ hi);refine .inr ⟨_,hk,?_⟩;simp [List.mapM_cons,g1,hp,g4]
theorem dH {β:Type} (l:List β) (i:Nat):di l i=l[i]? := by
 induction l generalizing i with
 |nil=>rfl
 |cons a l ih=>cases i with
  |zero=>rfl
  |succ i=>simpa [di] using ih i
theorem zeroOf {P:Program} {t:Nat} {i:bp} (ht:eb P t=some i) (hz:i.zero.length=i.size) (cC:0<i.size):∃ (ti:TypeInfo) (z:Value),P.info? t=some ti∧ti.zero=some z∧i.size=ti.size∧∀ c:Cx,∃ vs:List Value,z.cells=vs.toArray∧VL c (i.zero.map .d) vs:=by
 obtain ⟨ti,d,h1,h2,h3,h4,h5,h6⟩:=cj ht;obtain ⟨z,jL,jq⟩:=FD ht hz cC;cases mc:ti.zero with
 |none=>rw [h6,mc] at hz; simp [tn] at hz; omega
 |some z' =>
  have:=jL default;simp only [zeroValue,typeInfo,bind,Sem.bind,program,h1,pure,Sem.run,mc,Result.ok.injEq,and_true] at this;subst this;exact ⟨ti,z',h1,mc,h4,jq⟩
theorem FJ (hE:E.OK) {t:Nat} {i:bp} (hi:E.T[t]? = some i) {parts:Array (Nat × Operand)} {ps:List (Nat × AV)} (fM:vM E.G s parts.toList ps) (hz:i.zero.length=i.size) (cC:0<i.size) {pl:Nat→Option (Nat × Nat)} {l:List AV} {v:AV}
  (hb:∀ (ti:TypeInfo) (z:Value),E.P.info? t=some ti→ti.zero=some z→∀ us,E.P.built t us=Instr.fill pl z.cells us)
  (hf:∀ (c:Cx) (vs us:List Value),VL c (i.zero.map .d) vs→VL c (ps.map (·.2)) us→∃ vs':List Value,Instr.fill pl vs.toArray ((ps.map (·.1)).zip us)=some vs'.toArray∧VL c l vs')
  (hv:∀ (c:Cx) (vs:List Value),VL c l vs→VR c v (.agg vs.toArray)):bC E (.build t parts) s h v h :=
 .quiet fun o c ac h1 _ h3 h4=>by
  obtain ⟨ti,z,g1,g2,g3,g4⟩:=zeroOf (hE.types t i hi) hz cC;obtain ⟨zs,iq,gP⟩:=g4 c;obtain ⟨p1,p2⟩:=fM c ac h3 h4;obtain ⟨vs',f1,f2⟩:=hf c zs _ gP p2;refine ⟨.agg vs'.toArray,?_,hv c vs' f2⟩;have bZ:=hb ti z g1 g2 (parts.map fun (i,x)=>(i,ac.eval x)).toList;have e:(parts.map fun (i,x)=>(i,ac.eval x)).toList=(ps.map (·.1)).zip (parts.toList.map fun p=>ac.eval p.2):=by
   rw [p1,Array.toList_map];generalize parts.toList=q
   induction q with
   |nil=>rfl
   |cons a q ih=>simp only [List.map_cons,List.zip_cons_cons,ih]
  rw [e,iq,f1] at bZ;rw [← e] at bZ;simp only [execOp,h1,Sem.run_bind,run_build c.w t _ _ bZ,Result.andThen_ok,Sem.run_pure]
theorem MF {P:Program} {t:Nat} {ti:TypeInfo} {z:Value} {fl:Array Field} {pl:List (Nat × Nat)} (h1:P.info? t=some ti) (h2:P.underlying t=some (.struct fl)) (h3:ti.zero=some z) (h4:fl.toList.mapM (fun f=>(P.info? f.type).map fun i=>(f.offset,i.size))=some pl) (us:List (Nat × Value)) :
  P.built t us=Instr.fill (di pl) z.cells us:=by
 have:(di pl)=(pl.toArray[·]?):=funext fun i=>by rw [dH]; simp
 simp only [Program.built,h1,h2,h3,h4,this]
theorem MG {P:Program} {t n e:Nat} {ti ei:TypeInfo} {z:Value} (h1:P.info? t=some ti) (h2:P.underlying t=some (.array n e)) (h3:ti.zero=some z) (h4:P.info? e=some ei) (us:List (Nat × Value)) :
  P.built t us=Instr.fill (fun i=>some (i*ei.size,ei.size)) z.cells us:=by
 simp only [Program.built,h1,h2,h3,h4]
end
end Go.aw
end
section
namespace Go.aw
open Go Go.RowKit
def flat (l:List DV):List DV:=l.flatMap DV.cells
theorem Bx {β:Type}:∀ (v p a r:List β),a.length=v.length→cV (p++a++r) p.length v=p++v++r
 | [],p,a,r,h=>by obtain rfl:a=[]:=List.eq_nil_of_length_eq_zero h; simp [cV]
 |x::v,p,a,r,h=>by
  cases a with
  |nil=>simp at h
  |cons y a =>
   have h1:(p++y::a++r).set p.length x=(p++[x])++a++r:=by simp
   have:=Bx v (p++[x]) a r (by simpa using h);simp only [List.length_append,List.length_cons,List.length_nil,Nat.zero_add] at this;rw [cV,h1,this];simp
theorem By (a b:List DV):flat (a++b)=flat a++flat b:=by simp [flat]
theorem mf {sz:Nat}:∀ {l:List DV},(∀ (i:Nat) (e:DV),l[i]? = some e→e.cells.length=sz)→(flat l).length=l.length*sz
 | [],_=>by simp [flat]
 |e::l,h=>by
  have h1:=h 0 e rfl;have h2:=mf (l:=l) (fun i e he=>h (i+1) e (by simpa using he));simp only [flat,List.flatMap_cons,List.length_append,List.length_cons] at h2 ⊢;rw [h1,h2,Nat.add_mul,Nat.one_mul,Nat.add_comm]
theorem flat_get {sz:Nat} {l:List DV} (h:∀ (i:Nat) (e:DV),l[i]? = some e→e.cells.length=sz) {i j:Nat} {e:DV} (he:l[i]? = some e) (hj:j<sz):(flat l)[i*sz+j]? = e.cells[j]? := by
 induction l generalizing i with
 |nil=>simp at he
 |cons a l ih =>
  have h0:=h 0 a rfl;cases i with
  |zero =>
   simp at he; subst he;simp only [flat,List.flatMap_cons,Nat.zero_mul,Nat.zero_add];rw [List.getElem?_append_left (by omega)]
  |succ i =>
   have:=ih (fun i e he=>h (i+1) e (by simpa using he)) (i:=i) (by simpa using he);simp only [flat,List.flatMap_cons] at this ⊢;rw [List.getElem?_append_right (by rw [h0,Nat.add_mul]; omega),h0,← this]
   congr 1
   rw [Nat.add_mul]; omega
theorem MI {sz:Nat} {l:List DV} (h:∀ (i:Nat) (e:DV),l[i]? = some e→e.cells.length=sz) {f:Nat} (hf:f<l.length) {e:DV} (he:e.cells.length=sz):flat (l.set f e)=cV (flat l) (f*sz) e.cells:=by
 have h1:l=l.take f++l[f]::l.drop (f+1):=by simp
 have h2:l.set f e=l.take f++e::l.drop (f+1):=by rw [List.set_eq_take_append_cons_drop,if_pos hf]
 have h3:(flat (l.take f)).length=f*sz:=by
  rw [mf (sz:=sz) (fun i e he=>h i e (by rw [List.getElem?_take] at he; split at he; exact he; cases he)),List.length_take,Nat.min_eq_left (by omega)]
 have h4:=Bx e.cells (flat (l.take f)) l[f].cells (flat (l.drop (f+1))) (by rw [he]; exact h f _ (by simp [hf]));have e1:flat l=flat (l.take f)++l[f].cells++flat (l.drop (f+1)):=by
  have:=congrArg flat h1;rw [By] at this;rw [this];simp only [flat,List.flatMap_cons,List.append_assoc]
 have e2:flat (l.set f e)=flat (l.take f)++e.cells++flat (l.drop (f+1)):=by rw [h2,By]; simp [flat]
 rw [e2,e1,← h3];exact h4.symm
section
variable {E:Env} {s:List AV} {h:List ae} {c:Cx} {G:List (Nat × DV)}
theorem yM {k:List DV→Prop} {x:DV}:∀ {n:Nat},rv n x k=k (List.replicate n x):=by
 intro n
 induction n generalizing k with
 |zero=>rfl
 |succ n ih=>simp only [rv,ih,List.replicate_succ]
def gE (sz:Nat) (l:List DV):Prop:=∀ (i:Nat) (e:DV),l[i]? = some e→e.cells.length=sz
theorem gE.set {sz:Nat} {l:List DV} (hl:gE sz l) (f:Nat) {e:DV} (he:e.cells.length=sz):gE sz (l.set f e):=fun i e' h'=>by
 rw [List.getElem?_set] at h';split at h'
 ·split at h'
  ·cases h'; exact he
  ·cases h'
 ·exact hl i e' h'
def nS (l:List DV):Prop:=∀ (i:Nat) (e:DV),l[i]? = some e→∀ y∈e.cells,y.er=true
theorem nS.set {l:List DV} (hl:nS l) (f:Nat) {e:DV} (he:∀ y∈e.cells,y.er=true):nS (l.set f e):=fun i e' h'=>by
 rw [List.getElem?_set] at h';split at h'
 ·split at h'
  ·cases h'; exact he
  ·cases h'
 ·exact hl i e' h'
theorem nS.flat {l:List DV} (hl:nS l):∀ x∈flat l,x.er=true:=fun x hx=>by
 simp only [aw.flat,List.mem_flatMap] at hx;obtain ⟨e,he,hx⟩:=hx;obtain ⟨i,hi⟩:=List.getElem?_of_mem he;exact hl i e hi x hx
theorem Bz {sz:Nat} {stop:Prop}:∀ {ps:List (Nat × AV)} {l:List DV} {k:List DV→Prop},gE sz l→nS l→mV sz ps l stop k→stop∨∃ l',k l'∧gE sz l'∧nS l'∧l'.length=l.length ∧
  ∀ (c:Cx) (vs us:List Value),VL c ((flat l).map .d) vs→VL c (ps.map (·.2)) us→∃ vs':List Value,Instr.fill (fun i=>some (i*sz,sz)) vs.toArray ((ps.map (·.1)).zip us)=some vs'.toArray∧VL c ((flat l').map .d) vs'
 | [],l,k,hl,eM,H => .inr ⟨l,H,hl,eM,rfl,fun c vs us hv hu=>⟨vs,by simp [Instr.fill],hv⟩⟩
 |(f,x)::ps,l,k,hl,eM,H=>by
  have key:∀ (e:DV),x = .d e→e.cells.length=sz→(∀ y∈e.cells,y.er=true)→f<l.length→mV sz ps (l.set f e) stop k→stop∨∃ l',k l'∧gE sz l'∧nS l'∧l'.length=l.length ∧
    ∀ (c:Cx) (vs us:List Value),VL c ((flat l).map .d) vs→VL c (((f,x)::ps).map (·.2)) us→∃ vs':List Value,Instr.fill (fun i=>some (i*sz,sz)) vs.toArray ((((f,x)::ps).map (·.1)).zip us)=some vs'.toArray∧VL c ((flat l').map .d) vs':=by
   intro e hx he kx hf H';subst hx;rcases Bz (hl.set f he) (eM.set f kx) H' with h | ⟨l',h1,h2,ir,h3,h4⟩
   ·exact .inl h
   refine .inr ⟨l',h1,h2,ir,by simpa using h3,fun c vs us hv hu=>?_⟩;cases us with
   |nil=>have:=hu.1; simp at this
   |cons u us =>
    simp only [List.map_cons] at hu ⊢;obtain ⟨g1,g2⟩:=hu.head;have tD:∃ cv:List Value,u.cells=cv.toArray∧VL c (e.cells.map .d) cv:=by
     by_cases eV:∃ el,e = .agg el
     ·obtain ⟨el,rfl⟩:=eV;obtain ⟨cv,rfl,hc⟩:=Bn g1;exact ⟨cv,rfl,hc⟩
     ·have jM:e.cells=[e]:=by cases e <;> first | rfl | exact absurd ⟨_,rfl⟩ eV
      rw [jM];refine ⟨[u],?_,.cons g1 .nil⟩;cases g1 with
      |d _ _ g=>cases g <;> first | rfl | (rename_i h1; revert h1; cases u <;> intro h1 <;> first | rfl | cases h1) | exact absurd ⟨_,rfl⟩ eV
    obtain ⟨cv,pZ,gC⟩:=tD;have tE:VL c ((flat (l.set f e)).map .d) (cV vs (f*sz) cv):=by
     rw [MI hl hf he];have:=VL.cV hv (f*sz) gC;have hm:∀ (q:List DV) (o:Nat) (p:List DV),(cV p o q).map AV.d=cV (p.map .d) o (q.map .d):=by
      intro q
      induction q with
      |nil=>intro o p; rfl
      |cons a q ih=>intro o p; simp [cV,ih]
     rw [hm]; exact this
    obtain ⟨vs',f1,f2⟩:=h4 c _ us tE g2;refine ⟨vs',?_,f2⟩;have rl:cv.length=sz:=by rw [← gC.1]; simpa using he
    have nO:f*sz+sz≤vs.length:=by
     have:=hv.1;rw [List.length_map,mf hl] at this;rw [← this]
     calc f*sz+sz=(f+1)*sz:=by rw [Nat.add_mul,Nat.one_mul]
      _≤l.length*sz:=Nat.mul_le_mul_right _ hf
    simp only [List.zip_cons_cons,Instr.fill];rw [if_neg (by simp [pZ,rl]; omega)];rw [← f1]
    congr 1
    rw [pZ];have:=Bw (f*sz) cv 0 vs.toArray;simp only [Nat.add_zero] at this;rw [← this];simp
  cases x
  case d e =>
   simp only [mV] at H;split at H
   ·rename_i el;split at H
    ·rename_i q1 q2 q3;rw [fY] at H;exact key _ rfl (Nat.eq_of_beq_eq_true q1) (fun y hy=>List.all_eq_true.1 q2 y hy) (Nat.le_of_ble_eq_true q3) H
    ·exact .inl H
   ·split at H
    ·rename_i mW _ _ _ q1 q2 q3;rw [fY] at H;have jM:e.cells=[e]:=by cases e <;> first | rfl | exact absurd rfl (mW _)
     refine key _ rfl ?_ (fun y hy=>by rw [jM] at hy; simp at hy; subst hy; exact q2) (Nat.le_of_ble_eq_true q3) H;have:=Nat.eq_of_beq_eq_true q1;rw [← this,jM];rfl
    ·exact .inl H
  all_goals exact .inl H
theorem MJ {bad:Nat→Prop} {w:World} {l:List DV} {sz cap:Nat} {vs:List Value} {ty:TypeId} {fr:Nat × Nat} (bQ:0<sz) (hl:gE sz l) (hb:¬ bad w.heap.size) (iH:l.length≤cap) (hlen:(flat l).length≤vs.length) (h1:∀ (x:DV),x∈flat l→x.er=true)
  (hv:∀ (j:Nat) (x:DV) (v:Value),(flat l)[j]? = some x→vs[j]? = some v→VD bad (w.alloc (.cells vs.toArray ty fr)) x v) :
  VD bad (w.alloc (.cells vs.toArray ty fr)) (.sl l) (.slice (some ⟨w.heap.size,0,none⟩) l.length cap):=by
 have bF:=ku (heap_alloc_new w (.cells vs.toArray ty fr));have at_:∀ (i j:Nat) (e x:DV),l[i]? = some e→e.cells[j]? = some x→∃ v,vs[i*sz+j]? = some v∧(flat l)[i*sz+j]? = some x:=fun i j e x he hx=>by
  have hj:j<sz:=by
   rw [← hl i e he];rcases Nat.lt_or_ge j e.cells.length with h | h
   ·exact h
   ·rw [List.getElem?_eq_none h] at hx; cases hx
  have h1:=flat_get hl he hj;rw [hx] at h1;have h2:i*sz+j<(flat l).length:=by
   rcases Nat.lt_or_ge (i*sz+j) (flat l).length with h | h
   ·exact h
   ·rw [List.getElem?_eq_none h] at h1; cases h1
  have h3:i*sz+j<vs.length:=by omega
  exact ⟨vs[i*sz+j],by simp [h3],h1⟩
 refine .sl l w.heap.size 0 cap sz (fun i j=>vs.getD (i*sz+j) undef) (fun _=>hb) bQ iH hl (fun i j e x he hx=>?_) (fun i j e x he hx=>?_) (fun i j e x he hx=>?_)
 ·obtain ⟨v,h1,h2⟩:=at_ i j e x he hx;have:=bF (i*sz+j) v (by simpa using h1);rw [this]; simp [List.getD,h1]
 ·obtain ⟨v,h1,h2⟩:=at_ i j e x he hx;simp only [List.getD,h1,Option.getD_some];exact hv _ x v h2 h1
 ·obtain ⟨v,h3,h2⟩:=at_ i j e x he hx;simp only [List.getD,h3,Option.getD_some];exact vH (hv _ x v h2 h3) (h1 x (List.mem_of_getElem? h2))
theorem FK (hE:E.OK) {t e len:Nat} {i ei:bp} (hi:E.T[t]? = some i) (bR:E.T[e]? = some ei) (hk:i.k = .slice e) {parts:Array (Nat × Operand)} {ps:List (Nat × AV)} (fM:vM E.G s parts.toList ps)
  (hz:ei.zero.length=ei.size) (cC:0<ei.size) (hlen:0<len) (yN:len*ei.size≤16777216) {z:DV} (rC:z.cells=ei.zero) (iq:∀ y∈ei.zero,y.er=true) {stop:Prop} {k:List DV→Prop} (H:mV ei.size ps (List.replicate len z) stop k) :
  stop∨∃ l,k l∧bC E (.buildSlice t len parts) s h (.d (.sl l)) h:=by
 have dx:gE ei.size (List.replicate len z):=fun j e' h'=>by
  rw [List.getElem?_replicate] at h';split at h'
  ·cases h'; rw [rC,hz]
  ·cases h'
 have eM:nS (List.replicate len z):=fun j e' h'=>by
  rw [List.getElem?_replicate] at h';split at h'
  ·cases h'; rw [rC]; exact iq
  ·cases h'
 rcases Bz dx eM H with h' | ⟨l,h1,h2,ir,h3,h4⟩
 ·exact .inl h'
 refine .inr ⟨l,h1,fun o c ac e1 e2 e3 e4=>?_⟩;subst e2;obtain ⟨ti,zv,g1,g2,g3,g4⟩:=zeroOf (hE.types e ei bR) hz cC;obtain ⟨zs,vO,gP⟩:=g4 c;obtain ⟨p1,p2⟩:=fM c ac e3 e4;have ky:zs.length=ei.size:=by rw [← gP.1]; simpa using hz
 have vP:VL c ((flat (List.replicate len z)).map .d) ((Array.range (len*ti.size)).map (zv.cells[· % zv.cells.size]!)).toList:=by
  refine .rA (by rw [mf dx]; simp [g3]) (fun j x v hx hv=>?_);have hj:j<len*ei.size:=by
   have:=mf dx;rw [List.length_replicate] at this;rw [← this];rcases Nat.lt_or_ge j (flat (List.replicate len z)).length with h | h
   ·exact h
   ·rw [List.getElem?_eq_none h] at hx; cases hx
  have hd:j / ei.size<len:=Nat.div_lt_of_lt_mul (by rw [Nat.mul_comm]; exact hj);have hm:j % ei.size<ei.size:=Nat.mod_lt _ cC;have h5:=flat_get dx (i:=j / ei.size) (j:=j % ei.size) (e:=z) (by simp [hd]) hm;rw [Nat.mul_comm,Nat.div_add_mod,hx,rC] at h5;have eL:v=zs[j % ei.size]'(by omega):=by
   have dI:j<len*ti.size:=by rw [← g3]; exact hj
   simp [dI,vO,ky] at hv;rw [← hv];simp [ky,hm]
  rw [eL];exact gP.nQ (j % ei.size) x _ h5.symm (by simp [ky,hm])
 obtain ⟨vs',f1,f2⟩:=h4 c _ _ vP p2;obtain ⟨vQ,d,q1,q2,q3,-⟩:=cj (hE.types t i hi);obtain rfl:=kv (hk.symm.trans q3);have eq:(parts.map fun (i,x)=>(i,ac.eval x)).toList=(ps.map (·.1)).zip (parts.toList.map fun p=>ac.eval p.2):=by
  rw [p1,Array.toList_map];generalize parts.toList=q
  induction q with
  |nil=>rfl
  |cons a q ih=>simp only [List.map_cons,List.zip_cons_cons,ih]
 have rD:Instr.fill (fun i=>some (i*ti.size,ti.size)) ((Array.range (len*ti.size)).map (zv.cells[· % zv.cells.size]!)) (parts.map fun (i,x)=>(i,ac.eval x)).toList=some vs'.toArray:=by
  rw [eq,← f1,g3]
 have cn:=run_buildSlice (P:=E.P) c.w t e len (parts.map fun (i,x)=>(i,ac.eval x)) vs'.toArray ti zv q2 g1 g2 (by rw [← g3]; omega) (by rw [← g3]; have:=Nat.mul_pos hlen cC; omega) rD;obtain ⟨k1,k2⟩:=e3.grow ((Proofs.YtfmdaiojokniiaaGreatDoor.Ext.refl c.w).alloc (.cells vs'.toArray e));refine ⟨c.dP (c.w.alloc (.cells vs'.toArray e)),.slice (some ⟨c.w.heap.size,0,none⟩) len len,.inl (by simp only [execOp,e1,Sem.run_bind,cn,Result.andThen_ok,Sem.run_pure]; rfl),rfl,k1,?_,k2⟩;have tF:l.length=len:=by rw [h3]; simp
 rw [← tF];refine .d _ _ (MJ cC h2 ?_ (Nat.le_refl _) (by have:=f2.1; simp at this; omega) ir.flat (fun j x v hx hv=>?_))
 ·rintro (hb | ⟨j,n,hj⟩)
  ·have:=e3.bN _ hb; omega
  ·have:=(e3.br j _ n hj).1; omega
 ·exact k2.vd (f2.nQ j x v hx hv)
theorem gF {a b:Nat} (h:Nat.blt a b=true):a<b:=Nat.le_of_ble_eq_true h
theorem BA (hE:E.OK) {o:Op} {stop:Prop} {k:AV→List ae→Prop} (H:kr E.T E.G o s h stop k):stop∨∃ v h',k v h'∧bC E o s h v h':=by
 unfold kr at H;split at H
 ·
  rcases b8 H with h | ⟨v,hv,H⟩
  ·exact .inl h
  exact .inr ⟨v,h,H,Mf hv⟩
 ·
  rcases b8 H with h | ⟨v,hv,H⟩
  ·exact .inl h
  exact .inr ⟨v,h,H,Mg hv⟩
 ·
  rcases b8 H with h | ⟨v,hv,H⟩
  ·exact .inl h
  rcases yD H with h | ⟨l,hl,H⟩
  ·exact .inl h
  rw [pU,Nat.zero_add] at H;exact .inr ⟨_,_,H,Ml hv hl⟩
 ·
  rcases a7 H with h | ⟨i,hi,H⟩
  ·exact .inl h
  split at H
  ·rename_i q1 q2;rw [rq,pU,Nat.zero_add] at H;exact .inr ⟨_,_,H,Mm hE hi (Nat.eq_of_beq_eq_true q1) (gF q2)⟩
  ·exact .inl H
 ·
  rcases a7 H with h | ⟨i,hi,H⟩
  ·exact .inl h
  rcases b8 H with h | ⟨a,ha,H⟩
  ·exact .inl h
  rcases Mj hE hi ha H with h | ⟨v,H,hv⟩
  ·exact .inl h
  exact .inr ⟨v,h,H,hv⟩
 ·
  rcases a7 H with h | ⟨i,hi,H⟩
  ·exact .inl h
  rcases b8 H with h | ⟨a,ha,H⟩
  ·exact .inl h
  rcases b8 H with h | ⟨v,hv,H⟩
  ·exact .inl h
  rcases Mk hE hi ha hv H with h | ⟨h',H,ho⟩
  ·exact .inl h
  exact .inr ⟨_,h',H,ho⟩
 ·
  rcases a7 H with h | ⟨i,hi,H⟩
  ·exact .inl h
  rcases FG H with h | ⟨fs,off,ft,hk,hf,H⟩
  ·exact .inl h
  rcases a7 H with h | ⟨fi,iL,H⟩
  ·exact .inl h
  split at H
  ·exact .inl H
  rename_i q;rcases b8 H with h | ⟨a,ha,H⟩
  ·exact .inl h
  split at H
  ·rcases a7 H with h | ⟨bx,hb,H⟩
   ·exact .inl h
   split at H
   ·exact .inr ⟨_,_,H,Bt hE hi iL (gF q) hk hf ha (.inl ⟨_,_,rfl,rfl,_,hb⟩)⟩
   ·exact .inl H
  ·exact .inr ⟨_,_,H,Bt hE hi iL (gF q) hk hf ha (.inr (.inl ⟨_,_,rfl,rfl⟩))⟩
  ·rcases a7 H with h | ⟨bx,hb,H⟩
   ·exact .inl h
   split at H
   ·split at H
    ·rename_i g' ts l _ qg;have:=Nat.eq_of_beq_eq_true qg;subst this;exact .inr ⟨_,_,H,Bt hE hi iL (gF q) hk hf ha (.inr (.inr ⟨_,_,_,_,_,_,rfl,rfl,hb⟩))⟩
    ·exact .inl H
   ·exact .inl H
  ·exact .inl H
 ·
  rcases a7 H with h | ⟨i,hi,H⟩
  ·exact .inl h
  rcases FG H with h | ⟨fs,off,ft,hk,hf,H⟩
  ·exact .inl h
  rcases a7 H with h | ⟨fi,iL,H⟩
  ·exact .inl h
  rcases b8 H with h | ⟨a,ha,H⟩
  ·exact .inl h
  split at H
  ·rcases FH hE hi iL hk hf ha (fun c v hv=>nR hv) H with h | ⟨v,H,hv⟩
   ·exact .inl h
   exact .inr ⟨_,_,H,hv⟩
  ·rw [rq] at H;rcases FH hE hi iL hk hf ha (fun c v hv=>Bn hv) H with h | ⟨v,H,hv⟩
   ·exact .inl h
   exact .inr ⟨_,_,H,hv⟩
  ·exact .inl H
 ·
  rcases b8 H with h | ⟨a,ha,H⟩
  ·exact .inl h
  split at H
  ·rcases a7 H with h | ⟨bx,hb,H⟩
   ·exact .inl h
   split at H
   ·exact .inr ⟨_,_,H,Bv ha (.inl ⟨_,_,rfl,_,hb⟩)⟩
   ·exact .inl H
  ·exact .inr ⟨_,_,H,Bv ha (.inr (.inl ⟨_,_,rfl⟩))⟩
  ·rcases a7 H with h | ⟨bx,hb,H⟩
   ·exact .inl h
   split at H
   ·split at H
    ·rename_i g' ts l _ qg;have:=Nat.eq_of_beq_eq_true qg;subst this;exact .inr ⟨_,_,H,Bv ha (.inr (.inr ⟨_,_,_,_,_,_,rfl,hb⟩))⟩
    ·exact .inl H
   ·exact .inl H
  ·exact .inl H
 ·
  rcases a7 H with h | ⟨i,hi,H⟩
  ·exact .inl h
  rcases b8 H with h | ⟨a,ha,H⟩
  ·exact .inl h
  rcases b8 H with h | ⟨b,hb,H⟩
  ·exact .inl h
  split at H
  ·split at H
   ·rcases FF (.inl rfl) ha H with h | ⟨v,H,hv⟩
    ·exact .inl h
    exact .inr ⟨_,_,H,hv⟩
   ·exact .inl H
  ·split at H
   ·rcases FF (.inr rfl) ha H with h | ⟨v,H,hv⟩
    ·exact .inl h
    exact .inr ⟨_,_,H,hv⟩
   ·exact .inl H
  ·rename_i n1 n2;rcases Ms ⟨n1,n2⟩ (hE.types _ _ hi) ha hb H with h | ⟨v,H,hv⟩
   ·exact .inl h
   exact .inr ⟨_,_,H,hv⟩
 ·
  rcases b8 H with h | ⟨a,ha,H⟩
  ·exact .inl h
  split at H
  ·exact .inr ⟨_,_,H,Mt ha⟩
  ·exact .inl H
 ·
  rcases b8 H with h | ⟨a,ha,H⟩
  ·exact .inl h
  split at H
  ·exact .inr ⟨_,_,H,Mu ha⟩
  ·exact .inl H
 ·
  rcases b8 H with h | ⟨a,ha,H⟩
  ·exact .inl h
  split at H
  ·rcases b8 H with h | ⟨v,hv,H⟩
   ·exact .inl h
   exact .inr ⟨_,_,H,Mn ha hv⟩
  ·rcases b8 H with h | ⟨v,hv,H⟩
   ·exact .inl h
   exact .inr ⟨_,_,H,Mo ha hv⟩
  ·exact .inl H
 ·
  rcases b8 H with h | ⟨a,ha,H⟩
  ·exact .inl h
  split at H
  ·rcases a7 H with h | ⟨v,hv,H⟩
   ·exact .inl h
   exact .inr ⟨_,_,H,Mv ha hv⟩
  ·rcases a7 H with h | ⟨v,hv,H⟩
   ·exact .inl h
   exact .inr ⟨_,_,H,Mw ha hv⟩
  ·exact .inl H
 ·
  rcases a7 H with h | ⟨i0,jN,H⟩
  ·exact .inl h
  rcases a7 H with h | ⟨i,hi,H⟩
  ·exact .inl h
  rcases b8 H with h | ⟨a,ha,H⟩
  ·exact .inl h
  split at H
  ·rename_i hk;exact .inr ⟨_,_,H,Mx (hE.types _ _ hi) (hE.types _ _ jN) hk ha⟩
  ·rename_i hk;exact .inr ⟨_,_,H,My (hE.types _ _ hi) (hE.types _ _ jN) hk ha⟩
  ·exact .inl H
 ·
  rcases a7 H with h | ⟨i,hi,H⟩
  ·exact .inl h
  rcases vN H with h | ⟨ps,fM,H⟩
  ·exact .inl h
  split at H
  ·rename_i q1 q2;rw [rq] at H;have hz:=Nat.eq_of_beq_eq_true q1;have cC:=gF q2;obtain ⟨ti,d,g1,g2,g3,-⟩:=cj (hE.types _ _ hi);split at H
   ·rename_i fs hk;obtain ⟨fl,rfl,rfl⟩:=oO (hk.symm.trans g3);rcases FI hE.types H with h | ⟨pl,H,oP⟩
    ·exact .inl h
    rcases yL H with h | ⟨l,H,hf⟩
    ·exact .inl h
    obtain ⟨v,H,hv⟩:=vG H;exact .inr ⟨_,_,H,FJ hE hi fM hz cC (fun ti z k1 k2 us=>MF k1 g2 k2 oP us) hf hv⟩
   ·rename_i n e hk;obtain rfl:=vJ (hk.symm.trans g3);rcases a7 H with h | ⟨ei,bR,H⟩
    ·exact .inl h
    rcases yL H with h | ⟨l,H,hf⟩
    ·exact .inl h
    obtain ⟨v,H,hv⟩:=vG H;obtain ⟨Xl,ed,k1,k2,k3,k4,-⟩:=cj (hE.types _ _ bR);exact .inr ⟨_,_,H,FJ hE hi fM hz cC (fun ti z r1 r2 us=>by rw [MG r1 g2 r2 k1 us,k4]) hf hv⟩
   ·exact .inl H
  ·exact .inl H
 ·
  rcases a7 H with h | ⟨i,hi,H⟩
  ·exact .inl h
  split at H
  ·rename_i e hk;rcases a7 H with h | ⟨ei,bR,H⟩
   ·exact .inl h
   split at H
   ·rename_i q1 q2 q3 q4 q5;rcases vN H with h | ⟨ps,fM,H⟩
    ·exact .inl h
    split at H
    ·rename_i z jL;rw [yM] at H;have iq:z.er=true:=by rw [jL] at q5; simpa using q5
     rcases FK hE hi bR hk fM (Nat.eq_of_beq_eq_true q1) (gF q2) (gF q3) (Nat.le_of_ble_eq_true q4) (z:=z) (by rw [jL]; cases z <;> first | rfl | cases iq) (fun y hy=>List.all_eq_true.1 q5 y hy) H with h | ⟨l,H,hl⟩
     ·exact .inl h
     exact .inr ⟨_,_,H,hl⟩
    ·rw [yM] at H;rcases FK hE hi bR hk fM (Nat.eq_of_beq_eq_true q1) (gF q2) (gF q3) (Nat.le_of_ble_eq_true q4) (z := .agg ei.zero) rfl (fun y hy=>List.all_eq_true.1 q5 y hy) H with h | ⟨l,H,hl⟩
     ·exact .inl h
     exact .inr ⟨_,_,H,hl⟩
   ·exact .inl H
  ·exact .inl H
 ·
  rcases vK H with h | ⟨a,ha,H⟩
  ·exact .inl h
  rcases vK H with h | ⟨b,hb,H⟩
  ·exact .inl h
  exact .inr ⟨_,_,H,MD ha hb⟩
 ·
  rcases a7 H with h | ⟨x,hx,H⟩
  ·exact .inl h
  rcases a7 H with h | ⟨t,ht,H⟩
  ·exact .inl h
  rcases a7 H with h | ⟨i,hi,H⟩
  ·exact .inl h
  rcases b8 H with h | ⟨a,ha,H⟩
  ·exact .inl h
  have bP:=hE.types _ _ hi;split at H
  ·rename_i e l hk;refine .inr ⟨_,_,H,.quiet fun o c ac h1 _ h3 h4=>⟨_,vL h1 hx ht bP rfl (.inl ?_),.d _ _ (.int _ _)⟩⟩;have:=ha c ac h3 h4;generalize ac.eval x=u at this;cases this with
   |d _ _ hd=>cases hd with
    |slnil=>exact ⟨e,_,_,hk,rfl⟩
    |jJ=>exact ⟨e,_,_,hk,rfl⟩
    |sl _ _ _ _ _ _ _ _ _ _ _ _ _=>exact ⟨e,_,_,hk,rfl⟩
  ·rename_i l hk;exact .inr ⟨_,_,H,.quiet fun o c ac h1 _ h3 h4=>⟨_,vL h1 hx ht bP (nP (ha c ac h3 h4)) (.inr ⟨_,hk,rfl,by simp [ByteArray.size]⟩),.d _ _ (.int _ _)⟩⟩
  ·rename_i e hk;refine .inr ⟨_,_,H,.quiet fun o c ac h1 _ h3 h4=>⟨.int .i64 (0:Nat),vL h1 hx ht bP rfl (.inl ?_),.d _ _ (.int _ _)⟩⟩;have:=ha c ac h3 h4;generalize ac.eval x=u at this;cases this with
   |d _ _ hd=>cases hd with
    |aH=>exact ⟨e,_,_,hk,rfl⟩
  ·rename_i e b g hk;rcases a7 H with h | ⟨bx,hb,H⟩
   ·exact .inl h
   split at H
   ·split at H
    ·rename_i g' ts l _ qg;have:=Nat.eq_of_beq_eq_true qg;subst this;refine .inr ⟨_,_,H,.quiet fun o c ac h1 h2 h3 h4=>⟨_,vL h1 hx ht bP rfl (.inl ?_),.d _ _ (.int _ _)⟩⟩;subst h2;have:=ha c ac h3 h4;generalize ac.eval x=u at this;cases this with
     |own _ _ _ l' _ _ k1 k2=>rw [hb] at k1; cases k1; exact ⟨e,_,_,hk,rfl⟩
     |gy _ _ _ k1 k2=>rw [hb] at k1; cases k1; exact ⟨e,_,_,hk,rfl⟩
     |jn _ _ g1 _ _ _ k1 k2 _=>rw [hb] at k1; cases k1; omega
     |iI _ _ _ k1 _=>rw [hb] at k1; cases k1
     |la _ _ _ _ _ _ k1 _ _=>rw [hb] at k1; cases k1
    ·exact .inl H
   ·exact .inl H
  ·exact .inl H
 ·exact .inl H
end
end Go.aw
end
