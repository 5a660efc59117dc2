/- Several texts of mine, one behind the other. Conditions: as each says. -/
import Derived.Test.YthikfaephakahaaGreatDoorZM1
import Derived.RangeFuncNested
import Derived.RangeFuncLeaves
import Derived.Laws.AppendOwn
import Derived.Laws.MakeOwn
import Derived.Laws.StructEq
import Derived.Laws.BytesString
import Derived.Lib.ConvBytes
import Derived.WideKeyRuns
import Derived.MapKept
set_option linter.unusedVariables false
set_option linter.unusedSimpArgs false
section
namespace Go.Eng
open Go Go.RowKit
inductive AItem where
 |code (c:Code)
 |inBlock (id:Nat)
 |inLoop (c:Code)
 |reg (ops:Array Oper) (l:List Oper)
 |inRF (l:Nat)
 |begR
def AItem.conc:AItem→Item
 | .code c => .code c
 | .inBlock id => .inBlock id
 | .inLoop c => .inLoop c
 | .reg ops l => .inRegion ops ((List.range ops.size).drop (ops.size - l.length))
 | .inRF l => .inRangeFunc l
 | .begR => .beginRound
def AItem.ok:AItem→Prop
 | .reg ops l=>∃ n,n≤ops.size∧l=ops.toList.drop n
 |_=>True
structure FId where
 f:FuncId
 rnd:Option Nat
 dfs:List Nat
def marks (l:List Nat):List Deferred:=l.map fun d=>{ target := .collected d,args := #[] }
structure AFrame where
 fid:FId
 todo:List AItem
 slots:List AV
def bf (x:FId):Frame:={ (default:Frame) with fn:=x.f,kind := .normal,roundOf:=x.rnd }
def AFrame.conc (f:AFrame) (t:Array Value):Frame:=(bf f.fid).atR ⟨t,marks f.fid.dfs⟩ (f.todo.map AItem.conc)
def AFrame.ok (f:AFrame):Prop:=∀ i∈f.todo,i.ok
def concs:List AFrame→List (Array Value)→List Frame
 |f::fs,t::ts=>f.conc t::concs fs ts
 |_,_=>[]
def CR (c:Cx):List AFrame→List (Array Value)→Prop
 | [],[]=>True
 |f::fs,t::ts=>VS c f.slots t∧f.ok∧CR c fs ts
 |_,_=>False
theorem cr_gen {c c':Cx} (h:∀ x v,VR c x v→VR c' x v):∀ {fs:List AFrame} {ts:List (Array Value)},CR c fs ts→CR c' fs ts
 | [],[],_=>trivial
 |_::_,_::_,h'=>⟨⟨h'.1.1,fun i x v hx hv=>h x v (h'.1.2 i x v hx hv)⟩,h'.2.1,cr_gen h h'.2.2⟩
theorem Step.cr {c c':Cx} (h:Step c c'):∀ {fs:List AFrame} {ts:List (Array Value)},CR c fs ts→CR c' fs ts
 | [],[],_=>trivial
 |_::_,_::_,h'=>⟨h.vs h'.1,h'.2.1,h.cr h'.2.2⟩
def RelBox (c0 c:Cx) (i:Nat):Box→Prop
 | .cells cs=>(∃ cs',c.heap[i]? = some (.cells cs')∧c.own i=c0.own i∧cs'.length=cs.length)∨c.heap[i]? = some .gone
 | .arr _ ts l=>(∃ g' l',c.heap[i]? = some (.arr g' ts l')∧(0<g'∨g'=0∧l'.length=l.length∧c.own i=c0.own i))∨c.heap[i]? = some .gone
 | .map _=>(∃ es',c.heap[i]? = some (.map es')∧c.own i=c0.own i)∨c.heap[i]? = some .gone
 | .gone=>c.heap[i]? = some .gone
structure Rel (c0 c:Cx):Prop where
 bar:c.bar=c0.bar
 os:c.w.os=c0.w.os
 tape:c.w.tape=c0.w.tape
 output:c.w.output=c0.w.output
 size:c0.w.heap.size≤c.w.heap.size
 keep:∀ b,b<c0.w.heap.size→(∀ i n,c0.own i≠some (b,n))→c.w.heap[b]? = c0.w.heap[b]?
 newown:∀ i b n,c.own i=some (b,n)→b<c0.w.heap.size→∃ m,c0.own i=some (b,m)
 boxes:∀ i bx,c0.heap[i]? = some bx→RelBox c0 c i bx
def Fresh (h:List Box):Prop:=∀ (i g:Nat) (ts:Nat × Nat) (l:List DV),h[i]? = some (.arr g ts l)→g=0
theorem Rel.refl (c:Cx) (hf:Fresh c.heap):Rel c c:=⟨rfl,rfl,rfl,rfl,Nat.le_refl _,fun _ _ _=>rfl,fun i b n h _=>⟨n,h⟩,fun i bx h=>by
  cases bx with
  |cells cs=>exact .inl ⟨cs,h,rfl,rfl⟩
  |arr g sz l=>exact .inl ⟨g,l,h,.inr ⟨hf i g sz l h,rfl,rfl⟩⟩
  |map es=>exact .inl ⟨es,h,rfl⟩
  |gone=>exact h⟩
theorem Rel.step {c0 c c':Cx} (h:Rel c0 c) (k:Step c c'):Rel c0 c' where
 bar:=k.bar.trans h.bar
 os:=k.os.trans h.os
 tape:=k.tape.trans h.tape
 output:=k.output.trans h.output
 size:=Nat.le_trans h.size k.size
 keep:=fun x hx hn=>by
  rw [k.keep x (Nat.lt_of_lt_of_le hx h.size) (fun i n hi=>by obtain ⟨m,hj⟩:=h.newown i x n hi hx; exact hn i m hj)];exact h.keep x hx hn
 newown:=fun i x n hi hx=>by
  obtain ⟨m,hj⟩:=k.newown i x n hi (Nat.lt_of_lt_of_le hx h.size);exact h.newown i x m hj hx
 boxes:=fun i bx hi=>by
  have h1:=h.boxes i bx hi;cases bx with
  |cells cs =>
   rcases h1 with ⟨cs',h1,h2,h3⟩ | h1
   ·rcases k.boxes i _ h1 with ⟨cs'',k1,k2,k3⟩ | k1
    ·exact .inl ⟨cs'',k1,k2.trans h2,k3.trans h3⟩
    ·exact .inr k1
   ·exact .inr (k.boxes i _ h1)
  |arr g sz l =>
   rcases h1 with ⟨g',l',h1,h2⟩ | h1
   ·rcases k.boxes i _ h1 with ⟨g'',l'',k1,k2⟩ | k1
    ·refine .inl ⟨g'',l'',k1,?_⟩;rcases h2 with h2 | ⟨h2,h3,h4⟩ <;> rcases k2 with k2 | ⟨k2,k3,k4⟩
     ·left; omega
     ·left; omega
     ·left; omega
     ·exact .inr ⟨k2.trans h2,k3.trans h3,k4.trans h4⟩
    ·exact .inr k1
   ·exact .inr (k.boxes i _ h1)
  |map es =>
   rcases h1 with ⟨es',h1,h2⟩ | h1
   ·rcases k.boxes i _ h1 with ⟨es'',k1,k2⟩ | k1
    ·exact .inl ⟨es'',k1,k2.trans h2⟩
    ·exact .inr k1
   ·exact .inr (k.boxes i _ h1)
  |gone=>exact k.boxes i _ h1
structure RelX (c0 c:Cx):Prop where
 lim:∀ b,c0.bar b→b<c0.w.heap.size
 own0:∀ i p,c0.own i=some p→i<c0.heap.length
 bar:∀ b,c0.bar b→c.bar b
 barnew:∀ b,c.bar b→c0.bar b∨c0.w.heap.size≤b
 os:c.w.os=c0.w.os
 tape:c.w.tape=c0.w.tape
 output:c.w.output=c0.w.output
 size:c0.w.heap.size≤c.w.heap.size
 keep:∀ b,b<c0.w.heap.size→(∀ i n,c0.own i≠some (b,n))→c.w.heap[b]? = c0.w.heap[b]?
 newown:∀ i b n,c.own i=some (b,n)→b<c0.w.heap.size→∃ m,c0.own i=some (b,m)
 boxes:∀ i bx,c0.heap[i]? = some bx→RelBox c0 c i bx
theorem Rel.x {c0 c:Cx} (h:Rel c0 c) (hb:∀ b,c0.bar b→b<c0.w.heap.size) (ho:∀ i b n,c0.own i=some (b,n)→b<c0.w.heap.size∧i<c0.heap.length):RelX c0 c:=⟨hb,fun i p hp=>(ho i p.1 p.2 hp).2,fun b h'=>by rw [h.bar]; exact h',fun b h'=>by rw [h.bar] at h'; exact .inl h',h.os,h.tape,h.output,h.size,h.keep,h.newown,h.boxes⟩
theorem RelX.step {c0 c c':Cx} (h:RelX c0 c) (k:Step c c'):RelX c0 c':=by
 have h1:Rel ({ c0 with bar:=c.bar }) c:=⟨rfl,h.os,h.tape,h.output,h.size,h.keep,h.newown,fun i bx hi=>by
  have:=h.boxes i bx hi
  cases bx <;> exact this⟩
 have h2:=h1.step k
 exact ⟨h.lim,h.own0,fun b hb=>by rw [k.bar]; exact h.bar b hb,fun b hb=>by rw [k.bar] at hb; exact h.barnew b hb,h2.os,h2.tape,h2.output,h2.size,h2.keep,h2.newown,fun i bx hi=>by
  have:=h2.boxes i bx hi
  cases bx <;> exact this⟩
def Cx.unbar (c:Cx) (bar:Nat→Prop):Cx:={ c with bar:=bar }
theorem RelX.clean {c0 c:Cx} (h:RelX c0 c):Rel c0 (c.unbar c0.bar):=⟨rfl,h.os,h.tape,h.output,h.size,h.keep,h.newown,fun i bx hi=>by
 have:=h.boxes i bx hi
 cases bx <;> exact this⟩
theorem boxStep_same {c c':Cx} {i:Nat} {bx:Box} (h1:c.heap[i]? = some bx) (h2:c'.heap[i]? = c.heap[i]?) (h3:c'.own i=c.own i):BoxStep c c' i bx:=by
 rw [h1] at h2;cases bx with
 |cells cs=>exact .inl ⟨cs,h2,h3,rfl⟩
 |arr g sz l=>exact .inl ⟨g,l,h2,.inr ⟨rfl,rfl,h3⟩⟩
 |map es=>exact .inl ⟨es,h2,h3⟩
 |gone=>exact h2
theorem BoxOk.gen {c c':Cx} (hvr:∀ x v,VR c x v→VR c' x v) (hvd:∀ x v,VD c.bad c.w x v→VD c'.bad c'.w x v) {i:Nat} {bx:Box} (hb:BoxOk c i bx) (ho:c'.own i=c.own i) (hw:∀ b n,c.own i=some (b,n)→c'.w.heap[b]? = c.w.heap[b]?):BoxOk c' i bx:=by
 cases bx with
 |cells cs =>
  obtain ⟨blk,cap,vs,ty,h1,h2,h3,h4⟩:=hb;exact ⟨blk,cap,vs,ty,ho.trans h1,(hw blk cap h1).trans h2,h3,fun j x v hx hv=>hvr x v (h4 j x v hx hv)⟩
 |arr g ts l =>
  obtain ⟨h0,h1,h2⟩:=hb;refine ⟨h0,h1,?_⟩;rcases h2 with ⟨h2,h3⟩ | ⟨blk,cap,vs,h2,h3,h4,h5,h6,h7⟩
  ·exact .inl ⟨ho.trans h2,h3⟩
  ·refine .inr ⟨blk,cap,vs,ho.trans h2,(hw blk cap h2).trans h3,h4,h5,h6,fun i j e x he hx=>?_⟩;obtain ⟨v,h8,h8',h9⟩:=h7 i j e x he hx;exact ⟨v,h8,h8',hvd x v h9⟩
 |map es =>
  obtain ⟨blk,cap,en,ck,h1,h2,h3,h4⟩:=hb;exact ⟨blk,cap,en,ck,ho.trans h1,(hw blk cap h1).trans h2,h3,fun j k x m hx hm=>⟨hvd _ _ (h4 j k x m hx hm).1,hvd _ _ (h4 j k x m hx hm).2⟩⟩
 |gone=>exact ho.trans hb
theorem unbar_badOf {c:Cx} {bar:Nat→Prop} (hb:∀ b,bar b→c.bar b) (b:Nat) (_:b<c.w.heap.size) (hn:¬ c.bad b):¬ (c.unbar bar).bad b∧(c.unbar bar).w.heap[b]? = c.w.heap[b]? :=
 ⟨fun h=>hn (h.elim (fun h => .inl (hb b h)) .inr),rfl⟩
theorem unbar_vr {c:Cx} {bar:Nat→Prop} (hb:∀ b,bar b→c.bar b) {x:AV} {v:Value} (hv:VR c x v):VR (c.unbar bar) x v:=vr_gen (unbar_badOf hb) (fun _ _ hi=>boxStep_same hi rfl rfl) hv
theorem HOk.unbar {G:List (Nat × DV)} {c:Cx} {bar:Nat→Prop} (ho:HOk G c) (hb:∀ b,bar b→c.bar b):HOk G (c.unbar bar) where
 barlt:=fun b h=>ho.barlt b (hb b h)
 ownlt:=ho.ownlt
 inj:=ho.inj
 sep:=fun i b n hi h=>ho.sep i b n hi (hb b h)
 box:=fun i bx hi=>(ho.box i bx hi).gen (fun _ _=>unbar_vr hb) (fun _ _ hv=>hv.mono (unbar_badOf hb)) rfl (fun _ _ _=>rfl)
 glob:=fun g e hg=>unbar_vr hb (ho.glob g e hg)
structure Row where
 blk:Nat
 cap:Nat
 ts:Nat × Nat
 l:List DV
structure RowOK (lim:Nat) (c:Cx) (r:Row):Prop where
 bar:c.bar r.blk
 new:lim≤r.blk
 pos:0<r.ts.2
 len:∀ (i:Nat) (e:DV),r.l[i]? = some e→e.cells.length=r.ts.2
 mem:∃ vs:Array Value,c.w.heap[r.blk]? = some (.cells vs r.ts.1 (0,0))∧vs.size=r.cap*r.ts.2∧r.l.length≤r.cap∧r.cap≤maxLen ∧
  ∀ (i j:Nat) (e x:DV),r.l[i]? = some e→e.cells[j]? = some x→∃ v,vs[i*r.ts.2+j]? = some v∧v.oneCell'=true∧VD c.bad c.w x v
structure Iter where
 bm:Nat
 r:Nat
 en:Array MapEntry
 ck:Nat
 since:Nat
 seen:List Nat
 es:List (DV × DV)
structure IterOK (lim:Nat) (c:Cx) (i:Iter):Prop where
 barm:c.bar i.bm
 barr:c.bar i.r
 newr:lim≤i.r
 map:c.w.heap[i.bm]? = some (.map i.en i.ck)
 iter:∃ c0,i.since≤c0∧(i.seen≠[]→c0=i.ck)∧c.w.heap[i.r]? = some (.mapIter (some i.bm) i.since ((i.seen.map fun j=>((i.en[j]?).map (·.born)).getD 0).toArray) c0)
 old:∀ x∈i.en.toList,x.born<i.since
 ent:EnOK i.en i.ck i.es.length
 val:∀ (j:Nat) (k x:DV) (m:MapEntry),i.es[j]? = some (k,x)→i.en[j]? = some m→VD c.bad c.w k m.key∧VD c.bad c.w x m.val
 lt:∀ j∈i.seen,j<i.en.size
structure LoopG where
 l:Nat
 d:Nat
 st:LoopState
 pe:Option Code
 fn:FuncId
 tm:Array Value
 ps:Array Tmp
 assign:Code
 body:Code
 slots:List AV
def LoopG.rcd (i:LoopG):Loop:={ state:=i.st,pending:=i.pe,fn:=i.fn,tmps:=i.tm,params:=i.ps,assign:=i.assign,body:=i.body,defers:=i.d }
structure LoopOK (lim:Nat) (c:Cx) (i:LoopG):Prop where
 bar:c.bar i.l
 new:lim≤i.l
 mem:c.w.heap[i.l]? = some (.loop i.rcd)
 slots:VS c i.slots i.tm
structure MarkOK (lim:Nat) (c:Cx) (d:Nat):Prop where
 bar:c.bar d
 new:lim≤d
 mem:c.w.heap[d]? = some (.deferred (some []))
inductive Ghost where
 |row (r:Row)
 |iter (i:Iter)
 |loop (i:LoopG)
 |mark (d:Nat)
def Ghost.blks:Ghost→List Nat
 | .row r=>[r.blk]
 | .iter i=>[i.bm,i.r]
 | .loop i=>[i.l]
 | .mark d=>[d]
def GhostOK (lim:Nat) (c:Cx):Ghost→Prop
 | .row r=>RowOK lim c r
 | .iter i=>IterOK lim c i
 | .loop i=>LoopOK lim c i
 | .mark d=>MarkOK lim c d
structure RowsOK (lim:Nat) (c:Cx) (rows:List Ghost):Prop where
 each:∀ r∈rows,GhostOK lim c r
 nodup:(rows.flatMap Ghost.blks).Nodup
theorem RowsOK.nil {lim:Nat} {c:Cx}:RowsOK lim c []:=⟨fun r hr=>by simp at hr,List.nodup_nil⟩
theorem RowOK.gen {lim:Nat} {c c':Cx} {r:Row} (h:RowOK lim c r) (hb:c'.bar r.blk) (hw:c'.w.heap[r.blk]? = c.w.heap[r.blk]?) (hvd:∀ x v,VD c.bad c.w x v→VD c'.bad c'.w x v):RowOK lim c' r:=by
 obtain ⟨h1,h2,h3,h4,vs,h5,h6,h7,h8,h9⟩:=h;exact ⟨hb,h2,h3,h4,vs,hw.trans h5,h6,h7,h8,fun i j e x he hx=>by obtain ⟨v,k1,k2,k3⟩:=h9 i j e x he hx; exact ⟨v,k1,k2,hvd x v k3⟩⟩
theorem IterOK.gen {lim:Nat} {c c':Cx} {i:Iter} (h:IterOK lim c i) (hb:c'.bar i.bm) (hr:c'.bar i.r) (hw:c'.w.heap[i.bm]? = c.w.heap[i.bm]?) (hw':c'.w.heap[i.r]? = c.w.heap[i.r]?) (hvd:∀ x v,VD c.bad c.w x v→VD c'.bad c'.w x v):IterOK lim c' i:=by
 obtain ⟨h1,h2,h3,h4,h5,h6,h7,h8,h9⟩:=h;exact ⟨hb,hr,h3,hw.trans h4,(by obtain ⟨c0,k1,k0,k2⟩:=h5; exact ⟨c0,k1,k0,hw'.trans k2⟩),h6,h7,fun j k x m h1 h2=>⟨hvd _ _ (h8 j k x m h1 h2).1,hvd _ _ (h8 j k x m h1 h2).2⟩,h9⟩
theorem GhostOK.bar {lim:Nat} {c:Cx}:∀ {g:Ghost},GhostOK lim c g→∀ b∈g.blks,c.bar b
 | .row r,h,b,hb=>by simp [Ghost.blks] at hb; subst hb; exact RowOK.bar h
 | .iter i,h,b,hb=>by simp [Ghost.blks] at hb; rcases hb with rfl | rfl; exact IterOK.barm h; exact IterOK.barr h
 | .loop i,h,b,hb=>by simp [Ghost.blks] at hb; subst hb; exact LoopOK.bar h
 | .mark d,h,b,hb=>by simp [Ghost.blks] at hb; subst hb; exact MarkOK.bar h
theorem GhostOK.gen {lim:Nat} {c c':Cx} {g:Ghost} (h:GhostOK lim c g) (hb:∀ b∈g.blks,c'.bar b∧c'.w.heap[b]? = c.w.heap[b]?) (hvd:∀ x v,VD c.bad c.w x v→VD c'.bad c'.w x v) (hvr:∀ x v,VR c x v→VR c' x v):GhostOK lim c' g:=by
 cases g with
 |loop i =>
  obtain ⟨h1,h2,h3,h4⟩:=h;have:=hb i.l (by simp [Ghost.blks]);exact ⟨this.1,h2,this.2.trans h3,h4.1,fun j x v hx hv=>hvr x v (h4.2 j x v hx hv)⟩
 |mark d =>
  obtain ⟨h1,h2,h3⟩:=h;have:=hb d (by simp [Ghost.blks]);exact ⟨this.1,h2,this.2.trans h3⟩
 |row r=>exact RowOK.gen h (hb _ (by simp [Ghost.blks])).1 (hb _ (by simp [Ghost.blks])).2 hvd
 |iter i=>exact IterOK.gen h (hb i.bm (by simp [Ghost.blks])).1 (hb i.r (by simp [Ghost.blks])).1 (hb i.bm (by simp [Ghost.blks])).2 (hb i.r (by simp [Ghost.blks])).2 hvd
theorem RowsOK.step {G:List (Nat × DV)} {lim:Nat} {c c':Cx} {rows:List Ghost} (h:RowsOK lim c rows) (ho:HOk G c) (st:Step c c'):RowsOK lim c' rows :=
 ⟨fun r hr=>(h.each r hr).gen (fun b hb=>by
  have h1:=(h.each r hr).bar b hb
  exact ⟨by rw [st.bar]; exact h1,st.keep b (ho.barlt _ h1) (fun i n hi=>ho.sep i _ n hi h1)⟩) (fun _ _=>st.vd) (fun _ _=>st.vr),h.nodup⟩
def Ghost.flat:Ghost→Prop
 | .loop _=>False
 |_=>True
structure RowsX (lim:Nat) (c:Cx) (rows loops:List Ghost):Prop where
 all:RowsOK lim c (rows++loops)
 flat:∀ g∈rows,g.flat
theorem RowsX.nil {lim:Nat} {c:Cx}:RowsX lim c [] []:=⟨.nil,fun g h=>by simp at h⟩
theorem RowsX.step {G:List (Nat × DV)} {lim:Nat} {c c':Cx} {rows loops:List Ghost} (h:RowsX lim c rows loops) (ho:HOk G c) (st:Step c c'):RowsX lim c' rows loops:=⟨h.all.step ho st,h.flat⟩
structure FX where
 f0:FuncId
 rnd:Option Nat
 dfs:List Nat
 cls:List AFrame
 loops:List Ghost
 inl:List FuncId
structure Post where
 n:Nat
 Q:AV→List Box→Prop
 rows:List Ghost
 fx:FX
@[irreducible] def AW (E : Env) (f0 : FuncId) (cur : AFrame) (cls : List AFrame) (h : List Box) (R : Post) : Prop :=
 ∀ (c0 c:Cx) (t:Array Value) (ts:List (Array Value)),c0.heap.length=R.n→cur.ok→c.heap=h→HOk E.G c→RelX c0 c→RowsX c0.w.heap.size c R.rows R.fx.loops→VS c cur.slots t→CR c cls ts→∀ cs,∃ (c':Cx) (fr:Frame) (r:AV) (v:Value),
  R.Q r c'.heap∧VR c' r v∧HOk E.G c'∧RelX c0 c'∧Steps E.P (lone (cur.conc t) (concs cls ts++cs) c.w) (lone fr cs c'.w)∧fr.fn=f0∧fr.leaving E.P c'.w (.returned v)
def Leads (E:Env) (cur:AFrame) (cls:List AFrame) (h:List Box) (cur':AFrame) (cls':List AFrame) (h':List Box):Prop :=
 ∀ (c:Cx) (t:Array Value) (ts:List (Array Value)),cur.ok→c.heap=h→HOk E.G c→VS c cur.slots t→CR c cls ts→∃ (c':Cx) (t':Array Value) (ts':List (Array Value)),
  cur'.ok∧c'.heap=h'∧HOk E.G c'∧VS c' cur'.slots t'∧CR c' cls' ts'∧Step c c'∧∀ cs,Steps E.P (lone (cur.conc t) (concs cls ts++cs) c.w) (lone (cur'.conc t') (concs cls' ts'++cs) c'.w)
theorem AW.of_leads {E:Env} {f0:FuncId} {cur cur':AFrame} {cls cls':List AFrame} {h h':List Box} {R:Post} (hl:Leads E cur cls h cur' cls' h') (H:AW E f0 cur' cls' h' R):AW E f0 cur cls h R:=by
 unfold AW at H ⊢;intro c0 c t ts h0 h1 h2 h3 hr hrow h4 h5 cs;obtain ⟨c',t',ts',k1,k2,k3,k4,k5,k6,k7⟩:=hl c t ts h1 h2 h3 h4 h5;obtain ⟨c2,fr,r,v,e1,e2,e3,e4,e5,e6⟩:=H c0 c' t' ts' h0 k1 k2 k3 (hr.step k6) (hrow.step h3 k6) k4 k5 cs;exact ⟨c2,fr,r,v,e1,e2,e3,e4,(k7 cs).trans e5,e6⟩
section
variable {E:Env} {f0:FuncId} {fid:FId} {k:List AItem} {s:List AV} {cls:List AFrame} {h:List Box} {R:Post}
theorem Leads.todo {td td':List AItem} (hok:(∀ i∈td,i.ok)→∀ i∈td',i.ok) (hs:∀ (a:Act) (cs:List Frame) (w:World),step E.P (lone ((bf fid).atR a (td.map AItem.conc)) cs w) = .next (lone ((bf fid).atR a (td'.map AItem.conc)) cs w)) :
  Leads E ⟨fid,td,s⟩ cls h ⟨fid,td',s⟩ cls h:=fun c t ts h1 h2 h3 h4 h5 =>
 ⟨c,t,ts,hok h1,h2,h3,h4,h5,Step.refl c h3.barlt,fun _ => .one (hs _ _ _)⟩
theorem ok_tail {i:AItem} (h:∀ j∈i::k,j.ok):∀ j∈k,j.ok:=fun j hj=>h j (List.mem_cons_of_mem _ hj)
theorem ok_code {c:Code}:(AItem.code c).ok:=trivial
theorem ok_inBlock {n:Nat}:(AItem.inBlock n).ok:=trivial
theorem ok_inLoop {c:Code}:(AItem.inLoop c).ok:=trivial
theorem ok_cons {i:AItem} (h:i.ok) (hk:∀ j∈k,j.ok):∀ j∈i::k,j.ok:=fun j hj=>by
 rcases List.mem_cons.1 hj with rfl | hj
 ·exact h
 ·exact hk j hj
theorem AW.skip (H:AW E f0 ⟨fid,k,s⟩ cls h R):AW E f0 ⟨fid,.code .skip::k,s⟩ cls h R := .of_leads (.todo ok_tail fun _ _ _=>stepR_skip) H
theorem AW.inBlock {id:Nat} (H:AW E f0 ⟨fid,k,s⟩ cls h R):AW E f0 ⟨fid,.inBlock id::k,s⟩ cls h R := .of_leads (.todo ok_tail fun _ _ _=>stepR_inBlock) H
theorem AW.seq {a b:Code} (H:AW E f0 ⟨fid,.code a :: .code b::k,s⟩ cls h R):AW E f0 ⟨fid,.code (.seq a b)::k,s⟩ cls h R := .of_leads (.todo (fun h=>ok_cons ok_code (ok_cons ok_code (ok_tail h))) fun _ _ _=>stepR_seq) H
theorem AW.block {id:Nat} {b:Code} (H:AW E f0 ⟨fid,.code b :: .inBlock id::k,s⟩ cls h R):AW E f0 ⟨fid,.code (.block id b)::k,s⟩ cls h R := .of_leads (.todo (fun h=>ok_cons ok_code (ok_cons ok_inBlock (ok_tail h))) fun _ _ _=>stepR_block) H
theorem AW.loop {b:Code} (H:AW E f0 ⟨fid,.code b :: .inLoop b::k,s⟩ cls h R):AW E f0 ⟨fid,.code (.loop b)::k,s⟩ cls h R := .of_leads (.todo (fun h=>ok_cons ok_code (ok_cons ok_inLoop (ok_tail h))) fun _ _ _=>stepR_loop) H
theorem AW.inLoop {b:Code} (H:AW E f0 ⟨fid,.code b :: .inLoop b::k,s⟩ cls h R):AW E f0 ⟨fid,.inLoop b::k,s⟩ cls h R := .of_leads (.todo (fun h=>ok_cons ok_code (ok_cons ok_inLoop (ok_tail h))) fun _ _ _=>stepR_inLoop) H
theorem AW.region {id:Nat} {ops:Array Oper} (H:AW E f0 ⟨fid,.reg ops ops.toList::k,s⟩ cls h R):AW E f0 ⟨fid,.code (.region id ops false)::k,s⟩ cls h R :=
 .of_leads (.todo (fun h=>ok_cons (i := .reg ops ops.toList) ⟨0,by simp,by simp⟩ (ok_tail h)) fun a cs w=>by
  rw [List.map_cons,List.map_cons];simp only [AItem.conc];rw [stepR_region]
  simp) H
theorem AW.regEnd {ops:Array Oper} (H:AW E f0 ⟨fid,k,s⟩ cls h R):AW E f0 ⟨fid,.reg ops []::k,s⟩ cls h R :=
 .of_leads (.todo ok_tail fun a cs w=>by
  rw [List.map_cons];simp only [AItem.conc,List.length_nil,Nat.sub_zero]
  rw [List.drop_of_length_le (by simp),stepR_region_end]) H
def exitA (id:Nat):List AItem→Option (List AItem)
 | .inBlock i::r=>match Nat.beq i id with
  |true=>some r
  |false=>exitA id r
 |_::r=>exitA id r
 | []=>none
theorem exitA_conc {id:Nat}:∀ {l r:List AItem},exitA id l=some r→exitTo id (l.map AItem.conc)=some (r.map AItem.conc)
 | .inBlock i::l,r,hl=>by
  simp only [exitA] at hl;simp only [List.map_cons,AItem.conc,exitTo];split at hl
  ·rename_i q; cases hl; rw [if_pos (by simpa using Nat.eq_of_beq_eq_true q)]
  ·rename_i q
   rw [if_neg (by intro hh; have : i = id := by simpa using hh
                  rw [this, Nat.beq_refl] at q; cases q)]
   exact exitA_conc hl
 | .code c::l,r,hl=>exitA_conc (l:=l) hl
 | .inLoop c::l,r,hl=>exitA_conc (l:=l) hl
 | .inRF c::l,r,hl=>exitA_conc (l:=l) hl
 | .begR::l,r,hl=>exitA_conc (l:=l) hl
 | .reg ops q::l,r,hl=>exitA_conc (l:=l) hl
theorem exitA_ok {id:Nat}:∀ {l r:List AItem},exitA id l=some r→(∀ i∈l,i.ok)→∀ i∈r,i.ok
 | .inBlock i::l,r,hl,hk=>by
  simp only [exitA] at hl;split at hl
  ·cases hl; exact ok_tail hk
  ·exact exitA_ok hl (ok_tail hk)
 | .code c::l,r,hl,hk=>exitA_ok (l:=l) hl (ok_tail hk)
 | .inLoop c::l,r,hl,hk=>exitA_ok (l:=l) hl (ok_tail hk)
 | .inRF c::l,r,hl,hk=>exitA_ok (l:=l) hl (ok_tail hk)
 | .begR::l,r,hl,hk=>exitA_ok (l:=l) hl (ok_tail hk)
 | .reg ops q::l,r,hl,hk=>exitA_ok (l:=l) hl (ok_tail hk)
theorem AW.exit {id:Nat} {r:List AItem} (hr:exitA id k=some r) (H:AW E f0 ⟨fid,r,s⟩ cls h R):AW E f0 ⟨fid,.code (.exit id)::k,s⟩ cls h R :=
 .of_leads (.todo (fun h=>exitA_ok hr (ok_tail h)) fun _ _ _=>stepR_exit (exitA_conc hr)) H
theorem AW.cond {x:Operand} {a b:Code} {t:Bool} (hx:EvOK E.G s x (.d (.bool t))) (H:AW E f0 ⟨fid,.code (if t then a else b)::k,s⟩ cls h R):AW E f0 ⟨fid,.code (.cond x a b)::k,s⟩ cls h R :=
 .of_leads (cur':=⟨fid,.code (if t then a else b)::k,s⟩) (cls':=cls) (h':=h) (fun c t' ts h1 h2 h3 h4 h5=>⟨c,t',ts,ok_cons ok_code (ok_tail h1),h2,h3,h4,h5,Step.refl c h3.barlt,fun _ => .one (stepR_cond (vr_bool (hx c ⟨t',marks fid.dfs⟩ h3 h4)))⟩) H
theorem reg_at {ops:Array Oper} {o:Oper} {l:List Oper} (hk:(AItem.reg ops (o::l)).ok):∃ i,ops[i]? = some o∧(AItem.reg ops (o::l)).conc = .inRegion ops (i::(List.range ops.size).drop (ops.size - l.length))∧(AItem.reg ops l).ok:=by
 obtain ⟨n,h1,h2⟩:=hk;have h3:(ops.toList.drop n).length=l.length+1:=by rw [← h2]; rfl
 have h4:ops.size - n=l.length+1:=by simpa using h3
 have hn:n<ops.size:=by omega
 refine ⟨n,?_,?_,n+1,by omega,?_⟩
 ·have:=congrArg (·[0]?) h2;simp at this
  simpa using this.symm
 ·simp only [AItem.conc,List.length_cons]
  congr 1
  rw [show ops.size - (l.length+1)=n by omega,show ops.size - l.length=n+1 by omega];rw [List.drop_eq_getElem_cons (by simpa using hn)];simp
 ·have:=congrArg List.tail h2
  simpa using this
theorem semAt_run {P:Program} {o:Oper} {ρ : Operand→Value} {ro:Option Nat} {w w':World} {n:Next} (h:(execOp ρ o).run P w = .ok n w') (hn:∀ d,n ≠ .defer d):(o.semAt ro ρ).run P w = .ok n w':=by
 rw [Oper.semAt_eq]
 ·exact h
 ·intro c hc;simp only [execOp,hc,Sem.run_bind] at h;cases hr:(resolve ρ c o.type).run P w with
  |ok d w1 =>
   rw [hr] at h;simp only [Result.andThen_ok,Sem.run_pure] at h;cases h;exact hn d rfl
  |halt a b=>rw [hr] at h; cases h
theorem step_op {P:Program} {b:Frame} {a:Act} {k:List Item} {cs:List Frame} {w w':World} {ops:Array Oper} {i:Nat} {rest:List Nat} {o:Oper} {v:Value} (ho:ops[i]? = some o) (hw:Region.wanted o (yielded ops a.tmps)=true) (hd:Does P o a w v w') :
  step P (lone (b.atR a (.inRegion ops (i::rest)::k)) cs w) = .next (lone (b.atR (a.put o.dst v) (.inRegion ops rest::k)) cs w'):=by
 have hg:=stepGR_op (P:=P) (b:=b) (k:=k) (cs:=cs) (w:=w) (rest:=rest) ho hw;have hfin:∀ v,(b.atR a (.inRegion ops (i::rest)::k)).finish v=b.atR (a.put o.dst v) (.inRegion ops rest::k):=by
  intro v; rw [Frame.finish_atR,ho]; rfl
 rcases hd with hr | ⟨hr,rfl⟩
 ·exact step_lone_go (by rw [hg,← hfin]; simp [stepG.apply,semAt_run hr])
 ·exact step_lone_go (by rw [hg,← hfin]; simp [stepG.apply,semAt_run hr])
def putS (s:List AV) (d:Option Nat) (v:AV):List AV:=match d with
 |some d=>s.set d v
 |none=>s
theorem putK_eq {α:Sort _} (s:List AV) (d:Option Nat) (v:AV) (k:List AV→α):putK s d v k=k (putS s d v):=by
 cases d with
 |none=>rfl
 |some d=>simp only [putK,setK_eq,putS]
theorem VS.putS {c:Cx} {a:Act} (hs:VS c s a.tmps) (d:Option Nat) {x:AV} {v:Value} (hv:VR c x v):VS c (putS s d x) (a.put d v).tmps:=by
 cases d with
 |none=>exact hs
 |some d=>exact hs.put d hv
theorem put_defers (a:Act) (d:Option Nat) (v:Value):(a.put d v)=⟨(a.put d v).tmps,a.defers⟩:=by cases d <;> rfl
def Wanted (ops:Array Oper) (o:Oper) (s:List AV) (b:Bool):Prop:=∀ (c:Cx) (t:Array Value),VS c s t→Region.wanted o (yielded ops t)=b
theorem wanted_none {ops:Array Oper} {o:Oper} (h:o.guard=none):Wanted ops o s true:=fun _ _ _=>by simp [Region.wanted,h]
theorem wanted_lit {ops:Array Oper} {o oj:Oper} {j d:Nat} {g b:Bool} (h:o.guard=some (j,g)) (hj:ops.toList[j]? = some oj) (hd:oj.dst=some d) (hs:s[d]? = some (.d (.bool b))):Wanted ops o s (b==g):=fun c t hv=>by
 have hdt:d<t.size:=by
  rw [← hv.1];rcases Nat.lt_or_ge d s.length with h | h
  ·exact h
  ·rw [List.getElem?_eq_none h] at hs; cases hs
 have ht:t[d]? = some (.bool b):=by
  rw [Array.getElem?_eq_getElem hdt,vr_bool (hv.2 d _ _ hs (Array.getElem?_eq_getElem hdt))]
 have hj':ops[j]? = some oj:=by simpa using hj
 simp only [Region.wanted,h,yielded,hj',hd,Option.bind_some,ht];cases b <;> cases g <;> rfl
theorem wanted_undef {ops:Array Oper} {o oj:Oper} {j d:Nat} {g:Bool} (h:o.guard=some (j,g)) (hj:ops.toList[j]? = some oj) (hd:oj.dst=some d) (hs:s[d]? = some (.d .undef)):Wanted ops o s false:=fun c t hv=>by
 have hdt:d<t.size:=by
  rw [← hv.1];rcases Nat.lt_or_ge d s.length with h | h
  ·exact h
  ·rw [List.getElem?_eq_none h] at hs; cases hs
 have ht:t[d]? = some Go.undef:=by
  have:=hv.2 d _ _ hs (Array.getElem?_eq_getElem hdt);rw [Array.getElem?_eq_getElem hdt];generalize t[d]=u at this;cases this with
  |d _ _ hx=>cases hx; rfl
 have hj':ops[j]? = some oj:=by simpa using hj
 simp only [Region.wanted,h,yielded,hj',hd,Option.bind_some,ht];rfl
theorem AW.op {ops:Array Oper} {o:Oper} {l:List Oper} {v:AV} {h':List Box} (hw:Wanted ops o s true) (ho:OpOK E o.op s h v h') (H:AW E f0 ⟨fid,.reg ops l::k,putS s o.dst v⟩ cls h' R):AW E f0 ⟨fid,.reg ops (o::l)::k,s⟩ cls h R :=
 .of_leads (fun c t ts h1 h2 h3 h4 h5=>by
  obtain ⟨i,hi,hc,hok⟩:=reg_at (h1 _ (List.mem_cons_self ..));obtain ⟨c',u,k1,k2,k3,k4,k5⟩:=ho o c ⟨t,marks fid.dfs⟩ rfl h2 h3 h4;refine ⟨c',((⟨t,marks fid.dfs⟩:Act).put o.dst u).tmps,ts,ok_cons hok (ok_tail h1),k2,k3,VS.putS (a:=⟨t,marks fid.dfs⟩) (k5.vs h4) o.dst k4,k5.cr h5,k5,fun cs => .one ?_⟩;simp only [AFrame.conc,List.map_cons,hc];rw [step_op hi (hw c t h4) k1,put_defers]
  rfl) H
theorem AW.opSkip {ops:Array Oper} {o:Oper} {l:List Oper} (hw:Wanted ops o s false) (H:AW E f0 ⟨fid,.reg ops l::k,putS s o.dst (.d .undef)⟩ cls h R):AW E f0 ⟨fid,.reg ops (o::l)::k,s⟩ cls h R :=
 .of_leads (fun c t ts h1 h2 h3 h4 h5=>by
  obtain ⟨i,hi,hc,hok⟩:=reg_at (h1 _ (List.mem_cons_self ..));refine ⟨c,((⟨t,marks fid.dfs⟩:Act).put o.dst Go.undef).tmps,ts,ok_cons hok (ok_tail h1),h2,h3,VS.putS (a:=⟨t,marks fid.dfs⟩) h4 o.dst (.d _ _ .undef),h5,Step.refl c h3.barlt,fun cs => .one ?_⟩;simp only [AFrame.conc,List.map_cons,hc];rw [stepR_op_skip (by simp [hi]; exact hw c t h4)];simp only [hi,Option.bind_some];rw [put_defers]
  rfl) H
end
end Go.Eng
end
section
namespace Go.Eng
open Go Go.RowKit
def VLD (bad:Nat→Prop) (w:World) (l:List DV) (vs:List Value):Prop:=l.length=vs.length∧∀ (j:Nat) (x:DV) (v:Value),l[j]? = some x→vs[j]? = some v→VD bad w x v
def GlobOK (G:List (Nat × DV)) (bar:Nat→Prop) (w:World):Prop:=∀ g e,(g,e)∈G→VR ⟨fun _=>none,[],bar,w⟩ (.eptr e 0) (.pointer (some ⟨g,0,none⟩))
def HasBody (P : Program) (f : FuncId) : Prop := ∃ fn, P.funcs[f]? = some fn ∧ fn.body.isNone = false ∧ (fn.name == "runtime.NumGoroutine") = false
@[irreducible] def PCalls (E : Env) (f : FuncId) (args : List DV) (R : DV → Prop) : Prop :=
 HasBody E.P f∧∀ (bar:Nat→Prop) (w:World) (vs:List Value),(∀ b,bar b→b<w.heap.size)→GlobOK E.G bar w→VLD bar w args vs →
  Calls E.P f vs.toArray w fun e w'=>∃ v r,e = .returned v∧R r∧VD bar w' r v∧Proofs.YthikfaephakahaaGreatDoor.Ext w w'
theorem bad_none {bar:Nat→Prop} {w:World} {h:List Box} {b:Nat}:(⟨fun _=>none,h,bar,w⟩:Cx).bad b↔bar b :=
 ⟨fun hb=>hb.elim id (fun ⟨_,_,h⟩=>(by cases h)),.inl⟩
theorem vd_none {bar:Nat→Prop} {w:World} {h:List Box} {x:DV} {v:Value} (hv:VD bar w x v):VD (⟨fun _=>none,h,bar,w⟩:Cx).bad w x v :=
 hv.mono fun _ _ hn=>⟨fun hb=>hn (bad_none.1 hb),rfl⟩
theorem PCalls.mono {E:Env} {f:FuncId} {args:List DV} {R R':DV→Prop} (H:PCalls E f args R) (hr:∀ r,R r→R' r):PCalls E f args R':=by
 unfold PCalls at H ⊢;exact ⟨H.1,fun bar w vs h1 h2 h3=>(H.2 bar w vs h1 h2 h3).mono fun e w' ⟨v,r,k1,k2,k3,k4⟩=>⟨v,r,k1,hr r k2,k3,k4⟩⟩
def enterS (args:List AV) (n:Nat):List AV:=args++List.replicate (n - args.length) (.d .undef)
theorem vs_enter {c:Cx} {args:List AV} {vs:List Value} (n:Nat) (hv:VL c args vs):VS c (enterS args n) (vs.toArray++Array.replicate (n - vs.toArray.size) undef):=by
 have hl:=hv.1;refine ⟨by simp [enterS,hl],fun i x v hx hu=>?_⟩;simp only [enterS] at hx;rcases Nat.lt_or_ge i args.length with hi | hi
 ·rw [List.getElem?_append_left hi] at hx;rw [Array.getElem?_append_left (by simp; omega)] at hu;exact hv.2 i x v hx (by simpa using hu)
 ·rw [List.getElem?_append_right hi,List.getElem?_replicate] at hx;rw [Array.getElem?_append_right (by simp; omega)] at hu;split at hx
  ·cases hx;simp [Array.getElem?_replicate] at hu;obtain ⟨-,rfl⟩:=hu;exact .d _ _ .undef
  ·cases hx
section
variable {E:Env} {f0:FuncId} {fid:FId} {k:List AItem} {s:List AV} {cls:List AFrame} {h:List Box} {R:Post}
theorem Rel.ext {c0 c:Cx} (h:Rel c0 c) (hn:∀ i,c0.own i=none):Proofs.YthikfaephakahaaGreatDoor.Ext c0.w c.w:=⟨h.os,h.tape,h.output,h.size,fun b hb=>h.keep b hb (fun i n hi=>by rw [hn i] at hi; cases hi)⟩
@[irreducible] def ACalls (E : Env) (f : FuncId) (h : List Box) (args : List AV) (Q : AV → List Box → Prop) : Prop :=
 HasBody E.P f∧Fresh h∧∀ (c:Cx) (vs:List Value),c.heap=h→HOk E.G c→VL c args vs →
  Calls E.P f vs.toArray c.w fun e w'=>∃ (c':Cx) (r:AV) (v:Value),e = .returned v∧c'.w=w'∧Q r c'.heap∧VR c' r v∧HOk E.G c'∧Rel c c'
theorem ACalls.mono {E:Env} {f:FuncId} {h:List Box} {args:List AV} {Q Q':AV→List Box→Prop} (H:ACalls E f h args Q) (hq:∀ r h,Q r h→Q' r h):ACalls E f h args Q':=by
 unfold ACalls at H ⊢;exact ⟨H.1,H.2.1,fun c vs h1 h2 h3=>(H.2.2 c vs h1 h2 h3).mono fun e w' ⟨c',r,v,k1,k2,k3,k4⟩=>⟨c',r,v,k1,k2,hq _ _ k3,k4⟩⟩
theorem ACalls.of_AW {f : FuncId} {fn : Func} {body : Code} {args : List AV} {Q : AV → List Box → Prop} (hf : E.P.funcs[f]? = some fn) (hb : fn.body = some body) (hn : (fn.name == "runtime.NumGoroutine") = false) (hfr : Fresh h)
  (H:AW E f ⟨⟨f,none,[]⟩,[.code body],enterS args fn.ntmps⟩ [] h ⟨h.length,Q,[],⟨f,none,[],[],[],[]⟩⟩):ACalls E f h args Q:=by
 unfold AW at H;unfold ACalls;refine ⟨⟨fn,hf,by rw [hb]; rfl,hn⟩,hfr,fun c vs h1 h2 h3=>?_⟩;intro cs;obtain ⟨c',fr,r,v,e1,e2,e3,e4,e5,e6,e7⟩:=H c c _ [] (by rw [h1]) (fun i hi=>by simp at hi; subst hi; trivial) h1 h2 ((Rel.refl c (by rw [h1]; exact hfr)).x h2.barlt h2.ownlt) .nil (vs_enter fn.ntmps h3) trivial cs;refine ⟨.returned v,c'.w,fr,⟨c'.unbar c.bar,r,v,rfl,rfl,e1,unbar_vr e4.bar e2,e3.unbar e4.bar,e4.clean⟩,?_,e6,e7⟩;have henter:Frame.enter E.P f vs.toArray .normal=(⟨⟨f,none,[]⟩,[.code body],enterS args fn.ntmps⟩:AFrame).conc (vs.toArray++Array.replicate (fn.ntmps - vs.toArray.size) undef):=by
  simp [Frame.enter,AFrame.conc,Frame.atR,hf,hb,bf,AItem.conc,marks]
 show Steps E.P _ _;rw [henter];exact e5
theorem run_call {P:Program} {o:Oper} {a:Act} {w:World} {fx:Operand} {args:Array Operand} {ts:Array TypeId} {f:FuncId} {v1 v2:Array Value} (h1:o.op = .call { callee := .value fx,args:=args,argTypes:=ts }) (hf:a.eval fx = .func (.func f) v1 v2) (hb:HasBody P f) :
  (execOp a.eval o).run P w = .ok (.enter f (v1++args.map a.eval++v2)) w:=by
 obtain ⟨fn,g1,g2,g3⟩:=hb;simp only [execOp,h1,resolve,hf,Deferred.ofValue,invoke,callFunc,Sem.run_bind,Sem.run_pure,Result.andThen_ok,program,Sem.run,g1,g3,g2,Bool.false_eq_true,if_false]
theorem step_enter {P:Program} {b:Frame} {a:Act} {k:List Item} {cs:List Frame} {w:World} {ops:Array Oper} {i:Nat} {rest:List Nat} {o:Oper} {f:FuncId} {args:Array Value} (ho:ops[i]? = some o) (hw:Region.wanted o (yielded ops a.tmps)=true)
  (hr:(execOp a.eval o).run P w = .ok (.enter f args) w) :
  step P (lone (b.atR a (.inRegion ops (i::rest)::k)) cs w) = .next (lone (Frame.enter P f args .normal) (b.atR a (.inRegion ops (i::rest)::k)::cs) w):=by
 have hg:=stepGR_op (P:=P) (b:=b) (k:=k) (cs:=cs) (w:=w) (rest:=rest) ho hw;have hr':=semAt_run (ro:=b.roundOf) hr (by simp);exact step_lone_go (by rw [hg]; simp [stepG.apply,hr',Frame.atR])
theorem vr_fn {c:Cx} {f:Fn} {a1 a2:List AV} {v:Value} (hv:VR c (.fn f a1 a2) v):∃ v1 v2:List Value,v = .func f v1.toArray v2.toArray∧VL c a1 v1∧VL c a2 v2:=by
 cases hv with
 |fn _ _ _ v1 v2 h1 h2 h3 h4=>exact ⟨v1.toList,v2.toList,by simp,⟨by simpa using h1,fun j x v hx hu=>h3 j x v hx (by simpa using hu)⟩,⟨by simpa using h2,fun j x v hx hu=>h4 j x v hx (by simpa using hu)⟩⟩
theorem VL.append {c:Cx} {a1 a2:List AV} {v1 v2:List Value} (h1:VL c a1 v1) (h2:VL c a2 v2):VL c (a1++a2) (v1++v2):=by
 refine ⟨by simp [h1.1,h2.1],fun j x v hx hv=>?_⟩;rcases Nat.lt_or_ge j a1.length with hj | hj
 ·rw [List.getElem?_append_left hj] at hx;rw [List.getElem?_append_left (by rw [← h1.1]; exact hj)] at hv;exact h1.2 j x v hx hv
 ·rw [List.getElem?_append_right hj] at hx;rw [List.getElem?_append_right (by rw [← h1.1]; exact hj),← h1.1] at hv;exact h2.2 _ x v hx hv
theorem AW.call {ops:Array Oper} {o:Oper} {l:List Oper} {fx:Operand} {args:Array Operand} {ts:Array TypeId} {f:FuncId} {a1 a2 av:List AV} {ds:List DV} {R1:DV→Prop} (hw:Wanted ops o s true) (ho:o.op = .call { callee := .value fx,args:=args,argTypes:=ts })
  (hf:EvOK E.G s fx (.fn (.func f) a1 a2)) (ha:EvsOK E.G s args.toList av) (hd:a1++av++a2=ds.map .d) (hc:PCalls E f ds R1)
  (H:∀ r,R1 r→AW E f0 ⟨fid,.reg ops l::k,putS s o.dst (.d r)⟩ cls h R):AW E f0 ⟨fid,.reg ops (o::l)::k,s⟩ cls h R:=by
 unfold AW at H ⊢;unfold PCalls at hc;intro c0 c t ts h0 h1 h2 h3 hr hrow h4 h5 cs;obtain ⟨i,hi,hcn,hok⟩:=reg_at (h1 _ (List.mem_cons_self ..));obtain ⟨v1,v2,e1,e2,e3⟩:=vr_fn (hf c ⟨t,marks fid.dfs⟩ h3 h4);have e4:=ha c ⟨t,marks fid.dfs⟩ h3 h4;have e5:=(e2.append e4).append e3;rw [hd] at e5;have hbar:∀ b,c.bad b→b<c.w.heap.size:=fun b hb=>hb.elim (h3.barlt b) fun ⟨j,n,hj⟩=>(h3.ownlt j b n hj).1;have hglob:GlobOK E.G c.bad c.w:=fun g e hg=>by
  have hp:∀ p,VR c (.eptr e 0) p→VR ⟨fun _=>none,[],c.bad,c.w⟩ (.eptr e 0) p:=fun p hp=>by
   cases hp with
   |eptr _ _ blk o' fv k1 k2 k3 k4=>exact .eptr _ _ blk o' fv (fun hb=>k1 (bad_none.1 hb)) k2 k3 (fun j x hx=>vd_none (k4 j x hx))
  exact hp _ (h3.glob g e hg)
 obtain ⟨e,w',fr,⟨v,r,rfl,hR,hv,hx⟩,hcomes,hfn,hleave⟩:=hc.2 c.bad c.w _ hbar hglob ⟨by simpa using e5.1,e5.ofMapD⟩ ((bf fid).atR ⟨t,marks fid.dfs⟩ (.inRegion ops (i::(List.range ops.size).drop (ops.size - l.length))::k.map AItem.conc)::(concs cls ts++cs));obtain ⟨k1,k2⟩:=h3.grow hx;have hput:VS (c.inW w') (putS s o.dst (.d r)) ((⟨t,marks fid.dfs⟩:Act).put o.dst v).tmps:=VS.putS (a:=⟨t,marks fid.dfs⟩) (k2.vs h4) o.dst (.d _ _ hv);obtain ⟨c2,fr2,r2,u2,q1,q2,q3,q3',q4,q5,q6⟩:=H r hR c0 (c.inW w') _ ts h0 (ok_cons hok (ok_tail h1)) h2 k1 (hr.step k2) (hrow.step h3 k2) hput (k2.cr h5) cs;refine ⟨c2,fr2,r2,u2,q1,q2,q3,q3',?_,q5,q6⟩;have hrun:=run_call (P:=E.P) (w:=c.w) (a:=⟨t,marks fid.dfs⟩) ho e1 hc.1;have hargs:(v1.toArray++args.map (⟨t,marks fid.dfs⟩:Act).eval++v2.toArray)=(v1++args.toList.map (⟨t,marks fid.dfs⟩:Act).eval++v2).toArray:=by
  apply Array.ext';simp
 rw [hargs] at hrun;have s1:=step_enter (P:=E.P) (b:=bf fid) (k:=k.map AItem.conc) (cs:=concs cls ts++cs) (rest:=(List.range ops.size).drop (ops.size - l.length)) hi (hw c t h4) hrun;have s2:=step_leave_returned (c:=(bf fid).atR ⟨t,marks fid.dfs⟩ (.inRegion ops (i::(List.range ops.size).drop (ops.size - l.length))::k.map AItem.conc)) (cs:=concs cls ts++cs) hleave;rw [Frame.finish_atR,hi] at s2;have hcur:(⟨fid,.reg ops (o::l)::k,s⟩:AFrame).conc t=(bf fid).atR ⟨t,marks fid.dfs⟩ (.inRegion ops (i::(List.range ops.size).drop (ops.size - l.length))::k.map AItem.conc):=by
  simp only [AFrame.conc,List.map_cons,hcn]
 rw [hcur];refine .head s1 (Steps.trans hcomes (.head s2 ?_));have hnext:(bf fid).atR ((⟨t,marks fid.dfs⟩:Act).put ((some o).bind (·.dst)) v) (.inRegion ops ((List.range ops.size).drop (ops.size - l.length))::k.map AItem.conc)=(⟨fid,.reg ops l::k,putS s o.dst (.d r)⟩:AFrame).conc ((⟨t,marks fid.dfs⟩:Act).put o.dst v).tmps:=by
  simp only [AFrame.conc,List.map_cons,AItem.conc,Option.bind_some];rw [put_defers]
 rw [hnext];exact q4
end
end Go.Eng
end
section
namespace Go.Eng
open Go Go.RowKit
section
variable {E:Env} {f0 fid:FuncId} {k:List AItem} {s:List AV} {cls:List AFrame} {h:List Box} {R:Post}
def DeepOK (G:List (Nat × DV)) (h:List Box) (x:AV) (r:DV):Prop:=∀ (c:Cx) (v:Value),HOk G c→c.heap=h→VR c x v→VD c.bar c.w r v
theorem vd_bar {c:Cx} {x:DV} {v:Value} (hv:VD c.bad c.w x v):VD c.bar c.w x v:=hv.mono fun _ _ hn=>⟨fun hb=>hn (.inl hb),rfl⟩
theorem deep_d {G:List (Nat × DV)} (x:DV):DeepOK G h (.d x) x:=fun c v _ _ hv=>by cases hv with | d _ _ hv=>exact vd_bar hv
theorem deep_own {G:List (Nat × DV)} {b g:Nat} {ts:Nat × Nat} {l:List DV} (hb:h[b]? = some (.arr g ts l)):DeepOK G h (.own b g) (.sl l):=fun c v ho hh hv=>by
 subst hh;obtain ⟨q0,q1,q2⟩:=ho.box b _ hb;cases hv with
 |own _ _ _ l' blk cap k1 k2 =>
  rw [hb] at k1; cases k1;rcases q2 with ⟨q2,-⟩ | ⟨blk',cap',vs,q2,q3,q4,q5,q6,q7⟩
  ·rw [k2] at q2; cases q2
  ·rw [k2] at q2; cases q2;have hrow:=row_of_block q3;refine .sl l blk 0 cap ts.2 (fun i j=>vs.toList.getD (i*ts.2+j) undef) (fun _=>ho.sep b blk cap k2) q0 q5 q1 (fun i j e x he hx=>?_) (fun i j e x he hx=>?_) (fun i j e x he hx=>?_)
   ·obtain ⟨v,g1,-,g2⟩:=q7 i j e x he hx;rw [hrow (i*ts.2+j) v (by simpa using g1)];simp [List.getD,g1]
   ·obtain ⟨v,g1,-,g2⟩:=q7 i j e x he hx;simp only [List.getD,Array.getElem?_toList,g1,Option.getD_some];exact vd_bar g2
   ·obtain ⟨v,g1,g2,-⟩:=q7 i j e x he hx;simp only [List.getD,Array.getElem?_toList,g1,Option.getD_some];exact g2
 |ownnil _ _ _ k1 k2=>rw [hb] at k1; cases k1; exact .slnil
 |ownold _ _ g' _ _ _ k1 k2 _=>rw [hb] at k1; cases k1; omega
 |owngone _ _ _ k1 _=>rw [hb] at k1; cases k1
def deep1K {α:Sort _} (h:List Box) (x:AV) (stop:α) (k:DV→α):α :=
 match x with
 | .d x=>k x
 | .own b g=>getK h b stop fun
  | .arr g' _ l=>match Nat.beq g g' with
   |true=>k (.sl l)
   |false=>stop
  |_=>stop
 |_=>stop
theorem deep1K_sound {G:List (Nat × DV)} {x:AV} {stop:Prop} {k:DV→Prop} (H:deep1K h x stop k):stop∨∃ r,DeepOK G h x r∧k r:=by
 unfold deep1K at H;split at H
 ·exact .inr ⟨_,deep_d _,H⟩
 ·rcases getK_or H with h | ⟨bx,hb,H⟩
  ·exact .inl h
  split at H
  ·split at H
   ·rename_i q;have:=Nat.eq_of_beq_eq_true q;subst this;exact .inr ⟨_,deep_own hb,H⟩
   ·exact .inl H
  ·exact .inl H
 ·exact .inl H
def deepsK {α:Sort _} (d:AV→α→(DV→α)→α):List AV→(stop:α)→(List DV→α)→α
 | [],_,k=>k []
 |x::l,stop,k=>d x stop fun r=>deepsK d l stop fun l'=>k (r::l')
def DeepsOK (G:List (Nat × DV)) (h:List Box) (l:List AV) (r:List DV):Prop:=∀ (c:Cx) (vs:List Value),HOk G c→c.heap=h→VL c l vs→VLD c.bar c.w r vs
theorem deepsK_sound {G:List (Nat × DV)} {d:AV→Prop→(DV→Prop)→Prop} (hd:∀ {x:AV} {stop:Prop} {k:DV→Prop},d x stop k→stop∨∃ r,DeepOK G h x r∧k r) {stop:Prop}:∀ {l:List AV} {k:List DV→Prop},deepsK d l stop k→stop∨∃ r,DeepsOK G h l r∧k r
 | [],k,H => .inr ⟨[],fun c vs _ _ hv=>⟨by simpa using hv.1,fun j x v hx=>by simp at hx⟩,H⟩
 |x::l,k,H=>by
  simp only [deepsK] at H;rcases hd H with h | ⟨r,hr,H⟩
  ·exact .inl h
  rcases deepsK_sound hd H with h | ⟨rs,hrs,H⟩
  ·exact .inl h
  refine .inr ⟨r::rs,fun c vs h1 h2 hv=>?_,H⟩;cases vs with
  |nil=>have:=hv.1; simp at this
  |cons v vs =>
   obtain ⟨g1,g2⟩:=hv.head;have g3:=hrs c vs h1 h2 g2;refine ⟨by simp [g3.1],fun j y u hy hu=>?_⟩;cases j with
   |zero=>simp at hy hu; subst hy; subst hu; exact hr c v h1 h2 g1
   |succ j=>exact g3.2 j y u (by simpa using hy) (by simpa using hu)
def deep2K {α:Sort _} (h:List Box) (x:AV) (stop:α) (k:DV→α):α :=
 match x with
 | .agg l=>deepsK (deep1K h) l stop fun r=>k (.agg r)
 |x=>deep1K h x stop k
theorem deep2K_sound {G:List (Nat × DV)} {x:AV} {stop:Prop} {k:DV→Prop} (H:deep2K h x stop k):stop∨∃ r,DeepOK G h x r∧k r:=by
 unfold deep2K at H;split at H
 ·rcases deepsK_sound (G:=G) (h:=h) deep1K_sound H with h | ⟨r,hr,H⟩
  ·exact .inl h
  refine .inr ⟨_,fun c v h1 h2 hv=>?_,H⟩;obtain ⟨vs,rfl,hvl⟩:=vr_agg_inv hv;have:=hr c vs h1 h2 hvl;exact .agg _ _ (by simpa using this.1) fun j x v hx hu=>this.2 j x v hx (by simpa using hu)
 ·exact deep1K_sound H
def resK {α:Sort _} (T:List TInfo) (s:List AV) (h:List Box):List ResultVar→(stop:α)→(List AV→α)→α
 | [],_,k=>k []
 | .tmp t::l,stop,k=>getK s t stop fun v=>resK T s h l stop fun l'=>k (v::l')
 | .cell a t::l,stop,k=>getK T t stop fun i=>getK s a stop fun
  | .ptr b off=>getK h b stop fun
   | .cells c=>partK i c off stop fun v=>resK T s h l stop fun l'=>k (v::l')
   |_=>stop
  |_=>stop
def resOne (t:Array Value):ResultVar→Sem Value
 | .tmp t'=>pure (t.getD t' undef)
 | .cell a t'=>do loadVar t' (← asAddr (t.getD a undef))
theorem resK_sound (hE:E.OK) {stop:Prop}:∀ {l:List ResultVar} {k:List AV→Prop},resK E.T s h l stop k→stop∨∃ r,k r∧∀ (c:Cx) (t:Array Value),c.heap=h→HOk E.G c→VS c s t→∃ vs:List Value,VL c r vs∧(l.mapM (resOne t)).run E.P c.w = .ok vs c.w
 | [],k,H => .inr ⟨[],H,fun c t _ _ hs=>⟨[],.nil,by simp⟩⟩
 | .tmp n::l,k,H=>by
  simp only [resK] at H;rcases getK_or H with h | ⟨x,hx,H⟩
  ·exact .inl h
  rcases resK_sound hE H with h | ⟨r,hk,hr⟩
  ·exact .inl h
  refine .inr ⟨x::r,hk,fun c t hc ho hs=>?_⟩;obtain ⟨vs,h1,h2⟩:=hr c t hc ho hs;have hl:n<t.size:=by
   rw [← hs.1];rcases Nat.lt_or_ge n s.length with h | h
   ·exact h
   ·rw [List.getElem?_eq_none h] at hx; cases hx
  refine ⟨t[n]::vs,.cons (hs.2 n x _ hx (by simp [hl])) h1,?_⟩;rw [List.mapM_cons];simp only [resOne,Sem.run_bind,Sem.run_pure,Result.andThen_ok,h2];simp [hl]
 | .cell a ty::l,k,H=>by
  simp only [resK] at H;rcases getK_or H with h | ⟨i,hi,H⟩
  ·exact .inl h
  rcases getK_or H with h | ⟨x,hx,H⟩
  ·exact .inl h
  split at H
  ·rename_i b off;rcases getK_or H with h1 | ⟨bx,hb,H⟩
   ·exact .inl h1
   split at H
   ·rename_i cs;rcases partK_sound H with h1 | ⟨v,H,hp⟩
    ·exact .inl h1
    rcases resK_sound hE H with h | ⟨r,hk,hr⟩
    ·exact .inl h
    refine .inr ⟨v::r,hk,fun c t hc ho hs=>?_⟩;obtain ⟨vs,h1,h2⟩:=hr c t hc ho hs;subst hc;have hl:a<t.size:=by
     rw [← hs.1];rcases Nat.lt_or_ge a s.length with h | h
     ·exact h
     ·rw [List.getElem?_eq_none h] at hx; cases hx
    obtain ⟨blk,cap,us,ty',g1,g2,g3⟩:=ho.cells hb;obtain ⟨u,hu,hvu⟩:=hp E.P ty c blk 0 us.toList (hE.types ty i hi) g3 (row_of_block g2);have hp':=hs.2 a _ t[a] hx (by simp [hl]);have hpt:t[a] = .pointer (some ⟨blk,0+off,none⟩):=by
     generalize t[a]=p at hp';cases hp' with
     |ptr _ _ cs' blk' cap' hb' ho'=>rw [g1] at ho'; cases ho'; rw [Nat.zero_add]
     |ptrgone _ _ _ hb' _=>rw [hb] at hb'; cases hb'
    have hu':(loadVar ty ⟨blk,0+off,none⟩).run E.P c.w = .ok u c.w:=hu;refine ⟨u::vs,.cons hvu h1,?_⟩;rw [List.mapM_cons];have hg:t.getD a undef = .pointer (some ⟨blk,0+off,none⟩):=by simp [hl,hpt]
    simp only [resOne,hg,asAddr,Sem.run_bind,Sem.run_pure,Result.andThen_ok,hu',h2]
   ·exact .inl H
  ·exact .inl H
def packed:List Value→Value
 | [v]=>v
 |vs => .tuple vs.toArray
theorem run_results {P:Program} {fn:Func} {t:Array Value} {w:World} {vs:List Value} (h:(fn.results.toList.mapM (resOne t)).run P w = .ok vs w) :
  (results fn t).run P w = .ok (packed vs) w:=by
 have e1:results fn t=(do let vs ← fn.results.mapM (resOne t); pure (if h:vs.size=1 then vs[0] else .tuple vs)):=by
  rfl
 have e2:(fn.results.mapM (resOne t):Sem (Array Value))=List.toArray <$> (fn.results.toList.mapM (resOne t)):=by
  rw [Array.mapM_eq_mapM_toList]
 simp only [e1,e2,Sem.run_bind,map_eq_pure_bind,h,Result.andThen_ok,Sem.run_pure];cases vs with
 |nil=>rfl
 |cons v vs=>cases vs with
  |nil=>rfl
  |cons u vs=>simp [packed]
def retK {α:Sort _} (T:List TInfo) (s:List AV) (h:List Box) (rs:List ResultVar) (stop:α) (k:AV→List Box→α):α :=
 resK T s h rs stop fun
  | [x]=>k x h
  |l=>k (.tup l) h
theorem AW.ret_of (hE:E.OK) {td:List AItem} (htd:∀ (a:Act) (cs:List Frame) (w:World),step E.P (lone ((bf ⟨fid,none,[]⟩).atR a (td.map AItem.conc)) cs w) = .next (lone { (bf ⟨fid,none,[]⟩).atR a (td.map AItem.conc) with mode := .returning } cs w))
  {fn:Func} (hf:E.P.funcs[fid]? = some fn) (H:retK E.T s h fn.results.toList False R.Q):AW E fid ⟨⟨fid,none,[]⟩,td,s⟩ [] h R:=by
 unfold AW;intro c0 c t ts h0 h1 h2 h3 hr hrow h4 h5 cs;unfold retK at H;rcases resK_sound hE H with h' | ⟨l,H,hl⟩
 ·cases h'
 obtain ⟨vs,g1,g2⟩:=hl c t h2 h3 h4;have fin:∀ r v,packed vs=v→R.Q r h→VR c r v→∃ (c':Cx) (fr:Frame) (r:AV) (v:Value),
   R.Q r c'.heap∧VR c' r v∧HOk E.G c'∧RelX c0 c'∧Steps E.P (lone ((⟨⟨fid,none,[]⟩,td,s⟩:AFrame).conc t) (concs [] ts++cs) c.w) (lone fr cs c'.w)∧fr.fn=fid∧fr.leaving E.P c'.w (.returned v):=fun r v e1 e2 e3=>by
  refine ⟨c,_,r,v,by rw [h2]; exact e2,e3,h3,hr,.one (htd ⟨t,[]⟩ cs c.w),rfl,rfl,rfl,rfl,fn,hf,?_⟩;rw [← e1];exact run_results g2
 split at H
 ·rename_i x;cases vs with
  |nil=>have:=g1.1; simp at this
  |cons v vs=>cases vs with
   |cons u vs=>have:=g1.1; simp at this
   |nil=>exact fin x v rfl H g1.head.1
 ·rename_i hne;refine fin (.tup l) (.tuple vs.toArray) ?_ H (.tup _ _ (by simpa using g1.1) fun j x v hx hu=>g1.2 j x v hx (by simpa using hu));cases vs with
  |nil=>rfl
  |cons v vs=>cases vs with
   |nil =>
    have:=g1.1;cases l with
    |nil=>simp at this
    |cons x l=>cases l with
     |nil=>exact absurd rfl (hne x)
     |cons y l=>simp at this
   |cons u vs=>rfl
def deepQ (R:DV→Prop) (x:AV) (h:List Box):Prop :=
 match x with
 | .tup l=>deepsK (deep2K h) l False fun r=>R (.tup r)
 |x=>deep2K h x False R
theorem deepQ_sound {G:List (Nat × DV)} {R:DV→Prop} {x:AV} (H:deepQ R x h):∃ r,DeepOK G h x r∧R r:=by
 unfold deepQ at H;split at H
 ·rcases deepsK_sound (G:=G) (h:=h) deep2K_sound H with h' | ⟨r,hr,H⟩
  ·cases h'
  refine ⟨_,fun c v h1 h2 hv=>?_,H⟩;cases hv with
  |tup _ vs hl hval =>
   have:=hr c vs.toList h1 h2 ⟨by simpa using hl,fun j x v hx hv=>hval j x v hx (by simpa using hv)⟩;exact .tup _ _ (by simpa using this.1) fun j x v hx hu=>this.2 j x v hx (by simpa using hu)
 ·rcases deep2K_sound (G:=G) H with h' | h'
  ·cases h'
  ·exact h'
theorem PCalls.of_A {f:FuncId} {args:List DV} {R:DV→Prop} (H:ACalls E f [] (args.map .d) (deepQ R)):PCalls E f args R:=by
 unfold ACalls at H;unfold PCalls;refine ⟨H.1,fun bar w vs h1 h2 h3=>?_⟩
 let c:Cx:=⟨fun _=>none,[],bar,w⟩
 have hv:VL c (args.map .d) vs := .mapD h3.1 fun j x v hx hu=>vd_none (h3.2 j x v hx hu);have ho:HOk E.G c:=⟨h1,fun i b n hi=>(by cases hi),fun i j b n m hi=>(by cases hi),fun i b n hi=>(by cases hi),fun i bx hi=>(by simp [c] at hi),h2⟩;refine (H.2.2 c vs rfl ho hv).mono fun e w' ⟨c',r,v,k1,k2,k3,k4,k5,k6⟩=>?_;obtain ⟨d,hd,hR⟩:=deepQ_sound (G:=E.G) k3;subst k2;have:=hd c' v k5 rfl k4;rw [k6.bar] at this;exact ⟨v,d,k1,hR,this,k6.ext fun _=>rfl⟩
theorem AW.ret (hE:E.OK) {fn:Func} (hf:E.P.funcs[fid]? = some fn) (H:retK E.T s h fn.results.toList False R.Q):AW E fid ⟨⟨fid,none,[]⟩,.code .ret::k,s⟩ [] h R := .ret_of hE (fun _ _ _=>stepR_ret rfl) hf H
theorem AW.fall (hE:E.OK) {fn:Func} (hf:E.P.funcs[fid]? = some fn) (H:retK E.T s h fn.results.toList False R.Q):AW E fid ⟨⟨fid,none,[]⟩,[],s⟩ [] h R := .ret_of hE (fun _ _ _=>stepR_end rfl) hf H
end
end Go.Eng
end
section
namespace Go.Eng
open Go Go.RowKit
@[irreducible] def need (C K : Prop) : Prop := C ∧ K
theorem need_intro {C K:Prop} (h:C) (k:K):need C K:=by unfold need; exact ⟨h,k⟩
theorem need_elim {C K:Prop} (h:need C K):C∧K:=by unfold need at h; exact h
def byteD (b:UInt8):DV := .int .u8 b.toNat
def two {β:Type} (l:List β) (stop:Prop) (k:β→β→Prop):Prop :=
 match l with
 | [a,b]=>k a b
 |_=>stop
theorem two_or {β:Type} {l:List β} {stop:Prop} {k:β→β→Prop} (H:two l stop k):stop∨∃ a b,l=[a,b]∧k a b:=by
 unfold two at H;split at H
 ·exact .inr ⟨_,_,rfl,H⟩
 ·exact .inl H
def finK (e:Nat) (ei:TInfo) (h:List Box) (a:AV) (m:List DV) (stop:Prop) (k:AV→List Box→Prop):Prop :=
 match a with
 | .d .nilsl=>need (m.length≤2147483648∧∀ e∈m,e.cells.length=ei.size) (snocK h (.arr 1 (e,ei.size) m) 0 fun h' n=>k (.own n 1) h')
 | .own b g=>getK h b stop fun
  | .arr g' ts l=>match Nat.beq g g',Nat.beq ts.1 e,Nat.beq ts.2 ei.size with
   |true,true,true=>need (l.length+m.length≤2147483648∧∀ e∈m,e.cells.length=ei.size) (setK h b (.arr (g+1) ts (l++m)) fun h'=>k (.own b (g+1)) h')
   |_,_,_=>stop
  |_=>stop
 |_=>stop
def appK (T:List TInfo) (G:List (Nat × DV)) (o:Op) (s:List AV) (h:List Box) (stop:Prop) (k:AV→List Box→Prop):Prop :=
 match o with
 | .call { callee := .builtin .append,args:=args,argTypes:=ts }=>two args.toList stop fun x y=>two ts.toList stop fun t0 t1=>getK T t0 stop fun i0=>getK T t1 stop fun i1 =>
  match i0.k with
  | .slice e=>getK T e stop fun ei=>match Nat.beq ei.zero.length ei.size,Nat.blt 0 ei.size,Nat.ble ei.bytes 65536 with
   |true,true,true=>evalK G s x stop fun a=>evalK G s y stop fun b =>
    match i1.k,b with
    | .slice _,.d (.sl m)=>finK e ei h a m stop k
    | .string,.d (.str z)=>match ei.k with
     | .int .u8=>finK e ei h a (z.map byteD) stop k
     |_=>stop
    |_,_=>stop
   |_,_,_=>stop
  |_=>stop
 | .makeSlice t n c=>getK T t stop fun i=>match i.k with
  | .slice e=>getK T e stop fun ei=>match Nat.beq ei.zero.length ei.size,Nat.blt 0 ei.size,Nat.ble ei.bytes 65536,ei.zero.all DV.scal with
   |true,true,true,true=>evalK G s n stop fun
    | .d (.int _ a)=>evalK G s c stop fun
     | .d (.int _ b) =>
      match ei.zero with
      | [z]=>need (0≤a∧a≤b∧b≤2147483648) (snocK h (.arr 0 (e,ei.size) (List.replicate a.toNat z)) 0 fun h' n=>k (.own n 0) h')
      |zl=>need (0≤a∧a≤b∧b≤2147483648) (snocK h (.arr 0 (e,ei.size) (List.replicate a.toNat (.agg zl))) 0 fun h' n=>k (.own n 0) h')
     |_=>stop
    |_=>stop
   |_,_,_,_=>stop
  |_=>stop
 |_=>stop
theorem lt_of_getElem? {β:Type} {l:List β} {n:Nat} {e:β} (h:l[n]? = some e):n<l.length:=by
 rcases Nat.lt_or_ge n l.length with h' | h'
 ·exact h'
 ·rw [List.getElem?_eq_none h'] at h; cases h
section
variable {E:Env} {s:List AV} {h:List Box} {c:Cx} {G:List (Nat × DV)} {P:Program}
structure Src (P:Program) (size:Nat) (w:World) (x:Value) (n:Nat) (news:List Value):Prop where
 len:∀ w,(Builtin.lenOf x).run P w = .ok n w
 cells:∀ d:Nat,(Builtin.firstCells size n x).run P { w with drawn:=d } = .ok news.toArray { w with drawn:=d }
 one:∀ v∈news,v.oneCell'=true
 size:news.length=n*size
theorem run_app_room {t0 t1 e:TypeId} {i:TypeInfo} {d1:TypeDesc} (h0:P.underlying t0=some (.slice e)) (h1:P.underlying t1=some d1) (hd1:∀ k,d1 ≠ .int k) (hi:P.info? e=some i) {w:World} {g n m cap:Nat} {cur:Array Value} {x:Value} {news:List Value}
  (hg:w.heap[g]? = some (.cells cur e (0,0))) (hs:Src P i.size w x m news) (hroom:n+m≤cap) (hfit:n*i.size+news.length≤cur.size) (ty:TypeId) :
  (Builtin.append_ #[t0,t1] ty #[.slice (some ⟨g,0,none⟩) n cap,x]).run P w = .ok (.slice (some ⟨g,0,none⟩) (n+m) cap) (w.setCells g (n*i.size) news):=by
 have hst:=run_storeCells_cells (P:=P) g (n*i.size) news 0 w (fun j hj=>by
   simp only [World.cell?,hg]
   simp; omega) (fun j hj=>by simp [World.frozen?,hg]) hs.one
 simp only [Nat.add_zero] at hst;have hc:=hs.cells w.drawn;simp [Builtin.append_,run_underlying h0,run_underlying h1,Go.sizeOf,typeInfo,hi,hs.len,hroom,hc,add_at,hst]
theorem run_app_zero {t0 t1 e:TypeId} {i:TypeInfo} {d1:TypeDesc} (h0:P.underlying t0=some (.slice e)) (h1:P.underlying t1=some d1) (hd1:∀ k,d1 ≠ .int k) (hi:P.info? e=some i) {w:World} {n cap:Nat} {b:Option Addr} {x:Value}
  (hs:Src P i.size w x 0 []) (hroom:n≤cap) (ty:TypeId):(Builtin.append_ #[t0,t1] ty #[.slice b n cap,x]).run P w = .ok (.slice b n cap) w:=by
 have hc:=hs.cells w.drawn;cases b <;> simp [Builtin.append_,run_underlying h0,run_underlying h1,Go.sizeOf,typeInfo,hi,hs.len,hroom,hc,storeCells]
theorem run_app_grow {t0 t1 e:TypeId} {i:TypeInfo} {z:Value} {d1:TypeDesc} (h0:P.underlying t0=some (.slice e)) (h1:P.underlying t1=some d1) (hd1:∀ k,d1 ≠ .int k) (hi:P.info? e=some i) (hz:i.zero=some z) {w:World} {n m cap:Nat} {b:Option Addr} {x:Value} {olds news:List Value}
  (hold:∀ d:Nat,(Builtin.firstCells i.size n (.slice b n cap)).run P { w with drawn:=d } = .ok olds.toArray { w with drawn:=d }) (hs:Src P i.size w x m news) (hg:cap<n+m) (h63:n+m≤2147483648) (hby:i.bytes≤65536) (ty:TypeId) :
  (Builtin.append_ #[t0,t1] ty #[.slice b n cap,x]).run P w = .ok (.slice (some ⟨w.heap.size,0,none⟩) (n+m) (grownCap w (n+m) cap e)) (w.drew.alloc (.cells (olds.toArray++news.toArray++Builtin.zeroCells z.cells (grownCap w (n+m) cap e - (n+m))) e)):=by
 have hn:¬ (n+m≤cap):=by omega
 have h63':¬ (9223372036854775807<((n:Int)+(m:Int))):=by omega
 have hfit:(n+m)*i.bytes≤140737488355328:=by
  calc (n+m)*i.bytes≤2147483648*65536:=Nat.mul_le_mul h63 hby
   _=140737488355328:=by decide
 have h48':¬ (281474976710656<Builtin.nextslicecap (n+m) cap*i.bytes):=by
  have:=growslice_fits (old:=cap) (need:=n+m) (bytes:=i.bytes) (by omega) hfit;omega
 have hc:=hs.cells w.drew.drawn;have ho:=hold w.drew.drawn;have hc':(Builtin.firstCells i.size m x).run P w.drew = .ok news.toArray w.drew:=hc;have ho':(Builtin.firstCells i.size n (.slice b n cap)).run P w.drew = .ok olds.toArray w.drew:=ho;simp [Builtin.append_,run_underlying h0,run_underlying h1,Go.sizeOf,typeInfo,zeroValue,hi,hz,hs.len,hn,h63',h48',Question.forced,hc',ho',newRow,grownCap]
 congr 2
 apply Array.ext';simp [List.append_assoc]
theorem src_sl {c:Cx} {m:List DV} {x:Value} {sz:Nat} (hsz:0<sz) (hm:∀ e∈m,e.cells.length=sz) (hv:VD c.bad c.w (.sl m) x):∃ news:List Value,Src P sz c.w x m.length news∧(∀ (j:Nat) (y:DV) (v:Value),(flat m)[j]? = some y→news[j]? = some v→VD c.bad c.w y v):=by
 have hel:Elems sz m:=fun i e he=>hm e (List.mem_of_getElem? he);cases hv with
 |slnil=>exact ⟨[],⟨fun _=>rfl,fun _=>rfl,fun v hv=>by simp at hv,by simp⟩,fun j y v hy=>by simp [flat] at hy⟩
 |slz a=>exact ⟨[],⟨fun _=>rfl,fun _=>by simp [Builtin.firstCells,loadCells,loadCellsFrom],fun v hv=>by simp at hv,by simp⟩,fun j y v hy=>by simp [flat] at hy⟩
 |sl _ blk off cap sz' f hb hsz' hcap hlen hcell hval hone =>
  by_cases hne:m=[]
  ·subst hne;exact ⟨[],⟨fun _=>rfl,fun _=>by simp [Builtin.firstCells,loadCells,loadCellsFrom],fun v hv=>by simp at hv,by simp⟩,fun j y v hy=>by simp [flat] at hy⟩
  obtain ⟨e0,r,hr⟩:=List.exists_cons_of_ne_nil hne;have hzz:sz'=sz:=(hlen 0 e0 (by rw [hr]; rfl)).symm.trans (hm e0 (by rw [hr]; simp));subst hzz;have at_:∀ (idx:Nat),idx<m.length*sz'→∃ (i j:Nat) (e y:DV),idx=i*sz'+j∧j<sz'∧m[i]? = some e∧e.cells[j]? = some y∧idx / sz'=i∧idx % sz'=j:=fun idx hidx=>by
   have hd:idx / sz'<m.length:=Nat.div_lt_of_lt_mul (by rw [Nat.mul_comm]; exact hidx);have hmod:idx % sz'<sz':=Nat.mod_lt _ hsz;have hl:idx % sz'<m[idx / sz'].cells.length:=by rw [hlen _ _ (List.getElem?_eq_getElem hd)]; exact hmod
   exact ⟨idx / sz',idx % sz',m[idx / sz'],m[idx / sz'].cells[idx % sz'],by rw [Nat.mul_comm]; exact (Nat.div_add_mod idx sz').symm,hmod,List.getElem?_eq_getElem hd,List.getElem?_eq_getElem hl,rfl,rfl⟩
  have hget:∀ (j:Nat) (v:Value),((List.range (m.length*sz')).map fun idx=>f (idx / sz') (idx % sz'))[j]? = some v→j<m.length*sz'∧v=f (j / sz') (j % sz'):=fun j v hv=>by
   have hj:j<m.length*sz':=by have:=lt_of_getElem? hv; simpa using this
   simp [hj] at hv;exact ⟨hj,hv.symm⟩
  refine ⟨(List.range (m.length*sz')).map fun idx=>f (idx / sz') (idx % sz'),⟨fun _=>rfl,fun d=>?_,fun v hv=>?_,by simp⟩,fun j y v hy hv=>?_⟩
  ·have:=run_loadCells_list (P:=P) { c.w with drawn:=d } ⟨blk,off,none⟩ ((List.range (m.length*sz')).map fun idx=>f (idx / sz') (idx % sz')) (fun j v hv=>by
    obtain ⟨hj,rfl⟩:=hget j v hv;obtain ⟨i,jj,e,y,e1,e2,e3,e4,e5,e6⟩:=at_ j hj;rw [add_at,e5,e6,e1]
    exact hcell i jj e y e3 e4)
   simpa [Builtin.firstCells] using this
  ·obtain ⟨j,hjv⟩:=List.getElem?_of_mem hv;obtain ⟨hj,rfl⟩:=hget j v hjv;obtain ⟨i,jj,e,y,e1,e2,e3,e4,e5,e6⟩:=at_ j hj;rw [e5,e6];exact hone i jj e y e3 e4
  ·obtain ⟨hj,rfl⟩:=hget j v hv;obtain ⟨i,jj,e,y',e1,e2,e3,e4,e5,e6⟩:=at_ j hj;have:=flat_get hel e3 e2;rw [← e1,hy,e4] at this;cases this;rw [e5,e6];exact hval i jj e y e3 e4
theorem src_str {c:Cx} {z:List UInt8}:Src P 1 c.w (.string ⟨z.toArray⟩) (z.map byteD).length (z.map fun b=>Value.int .u8 b.toNat)∧(∀ (j:Nat) (y:DV) (v:Value),(flat (z.map byteD))[j]? = some y→(z.map fun b=>Value.int .u8 b.toNat)[j]? = some v→VD c.bad c.w y v):=by
 have hflat:flat (z.map byteD)=z.map byteD:=by
  induction z with
  |nil=>rfl
  |cons b z ih=>simp only [List.map_cons,flat,List.flatMap_cons] at ih ⊢; rw [ih]; rfl
 refine ⟨⟨fun _=>by simp [Builtin.lenOf,ByteArray.size],fun d=>?_,fun v hv=>?_,by simp⟩,fun j y v hy hv=>?_⟩
 ·simp [Builtin.firstCells]
 ·obtain ⟨b,-,rfl⟩:=List.mem_map.1 hv; rfl
 ·rw [hflat] at hy;rw [List.getElem?_map] at hy hv;cases hz:z[j]? with
  |none=>rw [hz] at hy; cases hy
  |some b=>rw [hz] at hy hv; cases hy; cases hv; exact .int _ _
def FlatOk (c:Cx) (l:List DV) (vs:List Value):Prop:=∀ (idx:Nat) (y:DV),(flat l)[idx]? = some y→∃ v,vs[idx]? = some v∧v.oneCell'=true∧VD c.bad c.w y v
theorem FlatOk.ij {c:Cx} {l:List DV} {vs:Array Value} {sz:Nat} (hel:Elems sz l) (h:FlatOk c l vs.toList):∀ (i j:Nat) (e x:DV),l[i]? = some e→e.cells[j]? = some x→∃ v,vs[i*sz+j]? = some v∧v.oneCell'=true∧VD c.bad c.w x v:=fun i j e x he hx=>by
 have hj:j<sz:=by rw [← hel i e he]; exact lt_of_getElem? hx
 obtain ⟨v,h1,h2⟩:=h (i*sz+j) x (by rw [flat_get hel he hj]; exact hx);exact ⟨v,by simpa using h1,h2⟩
theorem FlatOk.of_ij {c:Cx} {l:List DV} {vs:Array Value} {sz:Nat} (hsz:0<sz) (hel:Elems sz l) (h:∀ (i j:Nat) (e x:DV),l[i]? = some e→e.cells[j]? = some x→∃ v,vs[i*sz+j]? = some v∧v.oneCell'=true∧VD c.bad c.w x v):FlatOk c l vs.toList:=fun idx y hy=>by
 have hlt:=lt_of_getElem? hy;rw [flat_length hel] at hlt;have hd:idx / sz<l.length:=Nat.div_lt_of_lt_mul (by rw [Nat.mul_comm]; exact hlt);have hmod:idx % sz<sz:=Nat.mod_lt _ hsz;have h1:=flat_get hel (List.getElem?_eq_getElem hd) hmod;have e1:idx / sz*sz+idx % sz=idx:=by rw [Nat.mul_comm]; exact Nat.div_add_mod idx sz
 rw [e1,hy] at h1;obtain ⟨v,h2,h3⟩:=h (idx / sz) (idx % sz) _ y (List.getElem?_eq_getElem hd) h1.symm;rw [e1] at h2;exact ⟨v,by simpa using h2,h3⟩
theorem FlatOk.append {c:Cx} {l m:List DV} {vs news:List Value} {tail:List Value} {sz:Nat} (hel:Elems sz l) (hl:FlatOk c l vs) (hvs:l.length*sz≤vs.length) (hone:∀ v∈news,v.oneCell'=true) (hlen:news.length=(flat m).length) (hn:∀ (j:Nat) (y:DV) (v:Value),(flat m)[j]? = some y→news[j]? = some v→VD c.bad c.w y v) :
  FlatOk c (l++m) (vs.take (l.length*sz)++news++tail):=fun idx y hy=>by
 rw [flat_append] at hy;have hfl:=flat_length hel;have htk:(vs.take (l.length*sz)).length=l.length*sz:=by simp; omega
 rcases Nat.lt_or_ge idx (l.length*sz) with h | h
 ·rw [List.getElem?_append_left (by omega)] at hy;obtain ⟨v,h1,h2⟩:=hl idx y hy;refine ⟨v,?_,h2⟩;rw [List.append_assoc,List.getElem?_append_left (by omega),List.getElem?_take,if_pos h];exact h1
 ·rw [List.getElem?_append_right (by omega),hfl] at hy;have hlt:=lt_of_getElem? hy;have hidx:idx - l.length*sz<news.length:=by omega
  refine ⟨news[idx - l.length*sz],?_,hone _ (List.getElem_mem hidx),hn _ y _ hy (by simp [hidx])⟩;rw [List.append_assoc,List.getElem?_append_right (by omega),htk,List.getElem?_append_left hidx];simp [hidx]
theorem FlatOk.step {c c':Cx} (hs:Step c c') {l:List DV} {vs:List Value} (h:FlatOk c l vs):FlatOk c' l vs:=fun idx y hy=>by
 obtain ⟨v,h1,h2,h3⟩:=h idx y hy;exact ⟨v,h1,h2,hs.vd h3⟩
theorem elems_append {sz:Nat} {l m:List DV} (hl:Elems sz l) (hm:∀ e∈m,e.cells.length=sz):Elems sz (l++m):=fun i e he=>by
 rcases Nat.lt_or_ge i l.length with h | h
 ·rw [List.getElem?_append_left h] at he; exact hl i e he
 ·rw [List.getElem?_append_right h] at he; exact hm e (List.mem_of_getElem? he)
def Cx.regrow (c:Cx) (b g:Nat) (ts:Nat × Nat) (l:List DV) (own:Option (Nat × Nat)) (w:World):Cx:={ c with own:=fun i=>if i=b then own else c.own i,heap:=c.heap.set b (.arr g ts l),w:=w }
theorem HOk.regrow {G:List (Nat × DV)} (ho:HOk G c) {b g:Nat} {ts:Nat × Nat} {l l':List DV} (hb:c.heap[b]? = some (.arr g ts l)) {w:World} (own:Option (Nat × Nat)) (hos:w.os=c.w.os) (htape:w.tape=c.w.tape) (hout:w.output=c.w.output) (hsize:c.w.heap.size≤w.heap.size)
  (hkeep:∀ k,k<c.w.heap.size→(∀ n,c.own b≠some (k,n))→w.heap[k]? = c.w.heap[k]?) (hown:∀ k n,own=some (k,n)→k<w.heap.size∧(k<c.w.heap.size→∃ m,c.own b=some (k,m))) :
  let c':=c.regrow b (g+1) ts l' own w
  Step c c'∧((Elems ts.2 l'∧((own=none∧l'=[])∨∃ (blk cap:Nat) (vs:Array Value),own=some (blk,cap)∧w.heap[blk]? = some (.cells vs ts.1 (0,0))∧vs.size=cap*ts.2∧l'.length≤cap∧cap≤maxLen∧FlatOk c' l' vs.toList))→HOk G c'):=by
 intro c';have hbl:=lt_of_getElem? hb
 have hst:Step c c':={
  bar:=rfl
  barlt:=ho.barlt
  os:=hos
  tape:=htape
  output:=hout
  size:=hsize
  keep:=fun x hx hn=>hkeep x hx (fun n=>hn b n)
  newown:=fun i x n hi hx=>by
   simp only [c',Cx.regrow] at hi;split at hi
   ·rename_i hib; subst hib; exact (hown x n hi).2 hx
   ·exact ⟨n,hi⟩
  boxes:=fun i bx hi=>by
   by_cases hib:i=b
   ·subst hib;rw [hb] at hi;cases hi;exact .inl ⟨g+1,l',by show (c.heap.set i _)[i]? = _; rw [List.getElem?_set_self hbl],.inl (Nat.lt_succ_self _)⟩
   ·have h':c'.heap[i]? = some bx:=by show (c.heap.set b _)[i]? = _; rw [List.getElem?_set_ne (Ne.symm hib)]; exact hi
    have h'':c'.own i=c.own i:=by simp only [c',Cx.regrow]; rw [if_neg hib]
    cases bx with
    |cells cs=>exact .inl ⟨cs,h',h'',rfl⟩
    |arr g sz l=>exact .inl ⟨g,l,h',.inr ⟨rfl,rfl,h''⟩⟩
    |map es=>exact .inl ⟨es,h',h''⟩
    |gone=>exact h' }
 refine ⟨hst,fun hbox=>ho.next hst ?_ ?_ ?_⟩
 ·intro i x n hi;have hl:c'.heap.length=c.heap.length:=by simp [c',Cx.regrow]
  rw [hl];simp only [c',Cx.regrow] at hi;split at hi
  ·rename_i hib; subst hib; exact ⟨(hown x n hi).1,hbl⟩
  ·have:=ho.ownlt i x n hi; exact ⟨Nat.lt_of_lt_of_le this.1 hsize,this.2⟩
 ·intro i j x n m hi hj;simp only [c',Cx.regrow] at hi hj;split at hi <;> split at hj
  ·omega
  ·rename_i h1 h2;have:=(ho.ownlt j x m hj).1;obtain ⟨q,hq⟩:=(hown x n hi).2 this;exact absurd (ho.inj j b x m q hj hq) h2
  ·rename_i h1 h2;have:=(ho.ownlt i x n hi).1;obtain ⟨q,hq⟩:=(hown x m hj).2 this;exact absurd (ho.inj i b x n q hi hq) h1
  ·exact ho.inj i j x n m hi hj
 ·intro i bx hi;by_cases hib:i=b
  ·subst hib;have hi':(c.heap.set i (.arr (g+1) ts l'))[i]? = some bx:=hi;rw [List.getElem?_set_self hbl] at hi';cases hi';right;have hoi:c'.own i=own:=by simp [c',Cx.regrow]
   obtain ⟨q0,-,-⟩:=ho.box i _ hb;obtain ⟨hel,hor⟩:=hbox;refine ⟨q0,hel,?_⟩;rcases hor with ⟨h1,h2⟩ | ⟨blk,cap,vs,h1,h2,h3,h4,h5,h6⟩
   ·exact .inl ⟨hoi.trans h1,h2⟩
   ·exact .inr ⟨blk,cap,vs,hoi.trans h1,h2,h3,h4,h5,h6.ij hel⟩
  ·left;have hi':(c.heap.set b (.arr (g+1) ts l'))[i]? = some bx:=hi;rw [List.getElem?_set_ne (Ne.symm hib)] at hi';refine ⟨hi',by simp only [c',Cx.regrow]; rw [if_neg hib],fun x n hn=>hkeep x (ho.ownlt i x n hn).1 (fun m hm=>hib (ho.inj i b x n m hn hm))⟩
theorem vr_own {b g:Nat} {ts:Nat × Nat} {l:List DV} (hb:c.heap[b]? = some (.arr g ts l)) {v:Value} (hv:VR c (.own b g) v):(∃ blk cap,c.own b=some (blk,cap)∧v = .slice (some ⟨blk,0,none⟩) l.length cap)∨(l=[]∧v = .slice none 0 0∧c.own b=none):=by
 cases hv with
 |own _ _ _ l' blk cap k1 k2=>rw [hb] at k1; cases k1; exact .inl ⟨blk,cap,k2,rfl⟩
 |ownnil _ _ _ k1 k2=>rw [hb] at k1; cases k1; exact .inr ⟨rfl,rfl,k2⟩
 |ownold _ _ g' _ _ _ k1 k2 _=>rw [hb] at k1; cases k1; omega
 |owngone _ _ _ k1 _=>rw [hb] at k1; cases k1
theorem spl_eq {β:Type} {vs news:List β} {o:Nat} (h:o+news.length≤vs.length):spl vs o news=vs.take o++news++vs.drop (o+news.length):=by
 have h1:vs=vs.take o++(vs.drop o).take news.length++vs.drop (o+news.length):=by
  rw [List.append_assoc,← List.drop_drop,List.take_append_drop,List.take_append_drop]
 have h2:(vs.take o).length=o:=by simp; omega
 have:=spl_mid news (vs.take o) ((vs.drop o).take news.length) (vs.drop (o+news.length)) (by simp; omega);rw [← h1,h2] at this;exact this
theorem maxLen_big {n:Nat} (h:n≤2147483648):n≤maxLen:=by unfold maxLen; omega
theorem app_own (hok:HOk G c) {t0 t1:TypeId} {i:TypeInfo} {z:Value} {d1:TypeDesc} {ts:Nat × Nat} (h0:P.underlying t0=some (.slice ts.1)) (h1:P.underlying t1=some d1) (hd1:∀ k,d1 ≠ .int k) (hi:P.info? ts.1=some i) (hz:i.zero=some z) (hzs:z.cells.size=i.size) (hsize:i.size=ts.2) (hby:i.bytes≤65536)
  {b g:Nat} {l m:List DV} (hb:c.heap[b]? = some (.arr g ts l)) {v x:Value} (hv:VR c (.own b g) v) {news:List Value} (hs:Src P i.size c.w x m.length news) (hn:∀ (j:Nat) (y:DV) (v:Value),(flat m)[j]? = some y→news[j]? = some v→VD c.bad c.w y v) (hm:∀ e∈m,e.cells.length=ts.2) (hbig:l.length+m.length≤2147483648) (ty:TypeId) :
  ∃ (c':Cx) (v':Value),(Builtin.append_ #[t0,t1] ty #[v,x]).run P c.w = .ok v' c'.w∧c'.heap=c.heap.set b (.arr (g+1) ts (l++m))∧HOk G c'∧VR c' (.own b (g+1)) v'∧Step c c':=by
 obtain ⟨q0,q1,q2⟩:=hok.box b _ hb;have hbl:=lt_of_getElem? hb;have hel':Elems ts.2 (l++m):=elems_append q1 hm;have hfm:(flat m).length=m.length*ts.2:=flat_length (fun i e he=>hm e (List.mem_of_getElem? he));have hnl:news.length=(flat m).length:=by rw [hs.size,hfm,hsize]
 have hheap:∀ own w,(c.regrow b (g+1) ts (l++m) own w).heap[b]? = some (.arr (g+1) ts (l++m)):=fun own w=>by show (c.heap.set b _)[b]? = _; rw [List.getElem?_set_self hbl]
 have hownb:∀ own w,(c.regrow b (g+1) ts (l++m) own w).own b=own:=fun own w=>by simp [Cx.regrow]
 have grown:∀ (olds:List Value) (cap:Nat) (bs:Option Addr),(∀ (idx:Nat) (y:DV),(flat l)[idx]? = some y→∃ v,olds[idx]? = some v∧v.oneCell'=true∧VD c.bad c.w y v)→olds.length=l.length*ts.2→(∀ d:Nat,(Builtin.firstCells i.size l.length (.slice bs l.length cap)).run P { c.w with drawn:=d } = .ok olds.toArray { c.w with drawn:=d })→cap<l.length+m.length→v = .slice bs l.length cap →
   ∃ (c':Cx) (v':Value),(Builtin.append_ #[t0,t1] ty #[v,x]).run P c.w = .ok v' c'.w∧c'.heap=c.heap.set b (.arr (g+1) ts (l++m))∧HOk G c'∧VR c' (.own b (g+1)) v'∧Step c c':=by
  intro olds cap bs hold hol hfirst hcap hveq;subst hveq;have hr:=run_app_grow h0 h1 hd1 hi hz hfirst hs hcap hbig hby ty;have hge:=grownCap_ge c.w (l.length+m.length) cap ts.1;have hle:=grownCap_le_maxLen c.w (l.length+m.length) cap ts.1 (maxLen_big hbig);generalize grownCap c.w (l.length+m.length) cap ts.1=nc at hr hge hle
  let cells:Array Value:=olds.toArray++news.toArray++Builtin.zeroCells z.cells (nc - (l.length+m.length))
  have hw:(c.w.drew.alloc (.cells cells ts.1)).heap[c.w.heap.size]? = some (.cells cells ts.1 (0,0)):=heap_alloc_new c.w.drew _;obtain ⟨k1,k2⟩:=hok.regrow (l':=l++m) hb (w:=c.w.drew.alloc (.cells cells ts.1)) (some (c.w.heap.size,nc)) rfl rfl rfl (by simp) (fun k hk _=>Below.heap_alloc c.w.drew _ k hk) (fun k n e=>by cases e; exact ⟨by simp,fun h=>by omega⟩);refine ⟨_,_,hr,rfl,k2 ⟨hel',.inr ⟨c.w.heap.size,nc,cells,rfl,hw,?_,by simpa using hge,hle,?_⟩⟩,?_,k1⟩
  ·simp only [cells,Array.size_append,List.size_toArray,size_zeroCells,hzs,hol,hnl,hfm,hsize,← Nat.add_mul]
   congr 1
   omega
  ·have:=FlatOk.append (c:=c) (l:=l) (m:=m) (vs:=olds) (news:=news) (tail:=(Builtin.zeroCells z.cells (nc - (l.length+m.length))).toList) q1 hold (by omega) hs.one hnl hn;rw [List.take_of_length_le (by omega)] at this;have:=this.step k1
   simpa [cells] using this
  ·have:=VR.own (c:=c.regrow b (g+1) ts (l++m) (some (c.w.heap.size,nc)) (c.w.drew.alloc (.cells cells ts.1))) b (g+1) ts (l++m) c.w.heap.size nc (hheap _ _) (hownb _ _);rw [List.length_append] at this;exact this
 rcases vr_own hb hv with ⟨blk,cap,r1,rfl⟩ | ⟨rfl,rfl,r1⟩
 ·rcases q2 with ⟨q2,-⟩ | ⟨blk',cap',vs,q2,q3,q4,q5,q6,q7⟩
  ·rw [r1] at q2; cases q2
  rw [r1] at q2; cases q2;have hfl:=FlatOk.of_ij q0 q1 q7;have hvs:l.length*ts.2≤vs.size:=by rw [q4]; exact Nat.mul_le_mul_right _ q5
  by_cases hroom:l.length+m.length≤cap
  ·have hfit:l.length*i.size+news.length≤vs.size:=by
    rw [hnl,hfm,hsize,q4,← Nat.add_mul];exact Nat.mul_le_mul_right _ hroom
   have hr:=run_app_room h0 h1 hd1 hi q3 hs hroom hfit ty;obtain ⟨e1,e2,e3,e4⟩:=setCells_os blk news (l.length*i.size) c.w;obtain ⟨k1,k2⟩:=hok.regrow (l':=l++m) hb (w:=c.w.setCells blk (l.length*i.size) news) (some (blk,cap)) e1 e2 e3 (Nat.le_of_eq e4.symm) (fun k _ hk=>setCells_other blk news _ c.w k (fun e=>hk cap (by rw [e]; exact r1))) (fun k n e=>by cases e; exact ⟨by rw [e4]; exact (hok.ownlt b blk cap r1).1,fun _=>⟨cap,r1⟩⟩);refine ⟨_,_,hr,rfl,k2 ⟨hel',.inr ⟨blk,cap,(spl vs.toList (l.length*i.size) news).toArray,rfl,setCells_at blk ts.1 (0,0) news _ c.w vs q3,by simp [spl_length,q4],by simpa using hroom,q6,?_⟩⟩,?_,k1⟩
   ·have:=FlatOk.append (c:=c) (l:=l) (m:=m) (vs:=vs.toList) (news:=news) (tail:=vs.toList.drop (l.length*ts.2+news.length)) q1 hfl (by simpa using hvs) hs.one hnl hn;have:=this.step k1;show FlatOk _ (l++m) (spl vs.toList (l.length*i.size) news);rw [spl_eq (by simp; exact hfit)];rw [← hsize] at this;exact this
   ·have:=VR.own (c:=c.regrow b (g+1) ts (l++m) (some (blk,cap)) (c.w.setCells blk (l.length*i.size) news)) b (g+1) ts (l++m) blk cap (hheap _ _) (hownb _ _);rw [List.length_append] at this;exact this
  ·have hrow:=row_of_block q3;refine grown (vs.toList.take (l.length*ts.2)) cap (some ⟨blk,0,none⟩) (fun idx y hy=>?_) (by simp; omega) (fun d=>?_) (by omega) rfl
   ·obtain ⟨u,g1,g2⟩:=hfl idx y hy;have hlt:=lt_of_getElem? hy;rw [flat_length q1] at hlt;exact ⟨u,by rw [List.getElem?_take,if_pos hlt]; exact g1,g2⟩
   ·have:=run_loadCells_list (P:=P) { c.w with drawn:=d } ⟨blk,0,none⟩ (vs.toList.take (l.length*ts.2)) (fun j u hu=>by
     rw [List.getElem?_take] at hu;split at hu
     ·rw [add_at]; exact hrow j u hu
     ·cases hu)
    have hlen:(vs.toList.take (l.length*ts.2)).length=l.length*i.size:=by simp; rw [hsize]; omega
    rw [hlen] at this;exact this
 ·by_cases hm0:m.length=0
  ·obtain rfl:m=[]:=List.eq_nil_of_length_eq_zero hm0;have hnn:news=[]:=List.eq_nil_of_length_eq_zero (by rw [hs.size]; simp);subst hnn;have hr:=run_app_zero (b:=none) (n:=0) (cap:=0) h0 h1 hd1 hi hs (Nat.le_refl _) ty;obtain ⟨k1,k2⟩:=hok.regrow (l':=[]++[]) hb (w:=c.w) none rfl rfl rfl (Nat.le_refl _) (fun k _ _=>rfl) (fun k n e=>by cases e);exact ⟨c.regrow b (g+1) ts ([]++[]) none c.w,.slice none 0 0,hr,rfl,k2 ⟨fun i e he=>by simp at he,.inl ⟨rfl,rfl⟩⟩,.ownnil b (g+1) ts (hheap _ _) (hownb _ _),k1⟩
  ·exact grown [] 0 none (fun idx y hy=>by simp [flat] at hy) (by simp) (fun d=>by simp [Builtin.firstCells]) (by simp; omega) rfl
theorem HOk.adopt (hok:HOk G c) (ts:Nat × Nat) (hts:0<ts.2):let c':Cx:={ c with heap:=c.heap++[.arr 0 ts []] }
  HOk G c'∧Step c c'∧c'.heap[c.heap.length]? = some (.arr 0 ts [])∧VR c' (.own c.heap.length 0) (.slice none 0 0):=by
 intro c';have hno:c.own c.heap.length=none:=by
  cases ho:c.own c.heap.length with
  |none=>rfl
  |some p=>have:=(hok.ownlt _ p.1 p.2 ho).2; omega
 have hst:Step c c':=⟨rfl,hok.barlt,rfl,rfl,rfl,Nat.le_refl _,fun _ _ _=>rfl,fun i b n hi _=>⟨n,hi⟩,fun i bx hi=>by
  have h':c'.heap[i]? = some bx:=by show (c.heap++_)[i]? = _; rw [List.getElem?_append_left (lt_of_getElem? hi)]; exact hi
  cases bx with
  |cells cs=>exact .inl ⟨cs,h',rfl,rfl⟩
  |arr g sz l=>exact .inl ⟨g,l,h',.inr ⟨rfl,rfl,rfl⟩⟩
  |map es=>exact .inl ⟨es,h',rfl⟩
  |gone=>exact h'⟩
 have hnew:c'.heap[c.heap.length]? = some (.arr 0 ts []):=by show (c.heap++_)[_]? = _; simp
 refine ⟨hok.next hst (fun i b n hi=>⟨(hok.ownlt i b n hi).1,by have:=(hok.ownlt i b n hi).2; show i<(c.heap++_).length; simp; omega⟩) hok.inj (fun i bx hi=>?_),hst,hnew,.ownnil _ _ ts hnew hno⟩;by_cases hil:i=c.heap.length
 ·subst hil;rw [hnew] at hi;cases hi;exact .inr ⟨hts,fun i e he=>by simp at he,.inl ⟨hno,rfl⟩⟩
 ·have hlt:i<c.heap.length:=by
   have:=lt_of_getElem? hi;have h2:c'.heap.length=c.heap.length+1:=by show (c.heap++_).length=_; simp
   omega
  have hi':(c.heap++[.arr 0 ts []])[i]? = some bx:=hi;rw [List.getElem?_append_left hlt] at hi';exact .inl ⟨hi',rfl,fun _ _ _=>rfl⟩
theorem run_appendOp {o:Oper} {ac:Act} {w w':World} {args:Array Operand} {ts:Array TypeId} {x y:Operand} {t0 t1:Nat} {v v0 v1:Value} (h1:o.op = .call { callee := .builtin .append,args:=args,argTypes:=ts }) (hx:args.toList=[x,y]) (ht:ts.toList=[t0,t1]) (e0:ac.eval x=v0) (e1:ac.eval y=v1)
  (hr:(Builtin.append_ #[t0,t1] o.type #[v0,v1]).run P w = .ok v w'):(execOp ac.eval o).run P w = .ok (.value v) w':=by
 have ha:args.map ac.eval = #[v0,v1]:=by
  apply Array.ext';rw [Array.toList_map,hx];simp [e0,e1]
 have hts:ts = #[t0,t1]:=by apply Array.ext'; rw [ht]
 simp only [execOp,h1,resolve,ha,hts,Sem.run_bind,Sem.run_pure,Result.andThen_ok,invoke,builtin,hr]
theorem ok_append (hE:E.OK) {args:Array Operand} {tsA:Array TypeId} {x y:Operand} {t0 t1 e:Nat} {i0 i1 ei:TInfo} (hx:args.toList=[x,y]) (htA:tsA.toList=[t0,t1]) (hi0:E.T[t0]? = some i0) (hi1:E.T[t1]? = some i1) (hk0:i0.k = .slice e) (hk1:∀ k,i1.k ≠ .int k) (hei:E.T[e]? = some ei)
  (hz:ei.zero.length=ei.size) (hpos:0<ei.size) (hby:ei.bytes≤65536) {bv:AV} (hy:EvOK E.G s y bv) {m:List DV} (hm:∀ e∈m,e.cells.length=ei.size)
  (hsrc:∀ (c:Cx) (v:Value),VR c bv v→∃ news:List Value,Src E.P ei.size c.w v m.length news∧(∀ (j:Nat) (y:DV) (v:Value),(flat m)[j]? = some y→news[j]? = some v→VD c.bad c.w y v))
  {a:AV} (ha:EvOK E.G s x a) {r:AV} {h':List Box}
  (hcase:(∃ b g ts l,a = .own b g∧h[b]? = some (.arr g ts l)∧ts.1=e∧ts.2=ei.size∧l.length+m.length≤2147483648∧r = .own b (g+1)∧h'=h.set b (.arr (g+1) ts (l++m)))∨(a = .d .nilsl∧m.length≤2147483648∧r = .own h.length 1∧h'=h++[.arr 1 (e,ei.size) m])) :
  OpOK E (.call { callee := .builtin .append,args:=args,argTypes:=tsA }) s h r h':=fun o c ac h1 h2 h3 h4=>by
 subst h2;obtain ⟨ti0,d0,g1,g2,g3,-⟩:=tinfo_inv (hE.types _ _ hi0);obtain rfl:=tk_slice (hk0.symm.trans g3);obtain ⟨ti1,d1,k1,k2,k3,-⟩:=tinfo_inv (hE.types _ _ hi1);obtain ⟨ti,z,q1,q2,q3,q4⟩:=zeroOf (hE.types _ _ hei) hz hpos;obtain ⟨ti',d',p1,p2,p3,p4,p5,-⟩:=tinfo_inv (hE.types _ _ hei);rw [q1] at p1; cases p1;have hd1:∀ k,d1 ≠ .int k:=fun k e=>hk1 k (by rw [k3,e]; rfl);have hzs:z.cells.size=ti.size:=by
  obtain ⟨vs,e1,e2⟩:=q4 c;rw [e1];have:=e2.1;simp at this;simp [← this,hz,q3]
 rcases hcase with ⟨b,g,ts,l,rfl,hb,rfl,hts2,hbig,rfl,rfl⟩ | ⟨rfl,hbig,rfl,rfl⟩
 ·obtain ⟨news,hs,hn⟩:=hsrc c _ (hy c ac h3 h4);rw [q3] at hs;obtain ⟨c',v',r1,r2,r3,r4,r5⟩:=app_own h3 g2 k2 hd1 q1 q2 hzs (by rw [← q3]; exact hts2.symm) (by rw [← p5]; exact hby) hb (ha c ac h3 h4) hs hn (fun e he=>by rw [hts2]; exact hm e he) hbig o.type;exact ⟨c',v',.inl (run_appendOp h1 hx htA rfl rfl r1),r2,r3,r4,r5⟩
 ·obtain ⟨w1,w2,w3,w4⟩:=h3.adopt (e,ei.size) hpos;have hyv:=w2.vr (hy c ac h3 h4);obtain ⟨news,hs,hn⟩:=hsrc _ _ hyv;rw [q3] at hs;have hxv:ac.eval x = .slice none 0 0:=by
   have:=ha c ac h3 h4;generalize ac.eval x=u at this;cases this with
   |d _ _ hd=>cases hd; rfl
  obtain ⟨c',v',r1,r2,r3,r4,r5⟩:=app_own (ts:=(e,ei.size)) w1 g2 k2 hd1 q1 q2 hzs q3.symm (by rw [← p5]; exact hby) w3 w4 hs hn hm (by simpa using hbig) o.type;refine ⟨c',v',.inl (run_appendOp h1 hx htA hxv rfl r1),?_,r3,r4,w2.trans r5⟩;rw [r2];simp
theorem ok_make (hE:E.OK) {t e:Nat} {n cc:Operand} {i ei:TInfo} (hi:E.T[t]? = some i) (hk:i.k = .slice e) (hei:E.T[e]? = some ei) (hz:ei.zero.length=ei.size) (hpos:0<ei.size) (hby:ei.bytes≤65536) (hsc:∀ y∈ei.zero,y.scal=true) {j j':IntKind} {a b:Int} (hn:EvOK E.G s n (.d (.int j a))) (hc:EvOK E.G s cc (.d (.int j' b)))
  (ha:0≤a) (hab:a≤b) (hb:b≤2147483648) {zd:DV} (hzd:zd.cells=ei.zero):OpOK E (.makeSlice t n cc) s h (.own h.length 0) (h++[.arr 0 (e,ei.size) (List.replicate a.toNat zd)]):=fun o c ac h1 h2 h3 h4=>by
 subst h2;obtain ⟨ti0,d0,g1,g2,g3,-⟩:=tinfo_inv (hE.types _ _ hi);obtain rfl:=tk_slice (hk.symm.trans g3);obtain ⟨ti,z,q1,q2,q3,q4⟩:=zeroOf (hE.types _ _ hei) hz hpos;obtain ⟨ti',d',p1,p2,p3,p4,p5,-⟩:=tinfo_inv (hE.types _ _ hei);rw [q1] at p1; cases p1;obtain ⟨zs,hzs,hzl⟩:=q4 c;have hzlen:zs.length=ei.size:=by rw [← hzl.1]; simpa using hz
 have hbytes:(ti.bytes:Int)*b≤281474976710656:=by
  have h5:(ti.bytes:Int)≤65536:=by rw [← p5]; omega
  calc (ti.bytes:Int)*b≤65536*2147483648:=Int.mul_le_mul h5 hb (by omega) (by omega)
   _≤281474976710656:=by decide
 have hr:=run_make (P:=E.P) c.w t e ti z g2 q1 q2 j j' a b ha hab hbytes (by omega);have e1:=vr_int (hn c ac h3 h4);have e2:=vr_int (hc c ac h3 h4);obtain ⟨k1,k2⟩:=h3.add (.arr 0 (e,ei.size) (List.replicate a.toNat zd)) b.toNat (.cells (madeCells z.cells (b.toNat*ti.size)) e);have hel:Elems ei.size (List.replicate a.toNat zd):=fun i e he=>by
  rw [List.getElem?_replicate] at he;split at he
  ·cases he; rw [hzd,hz]
  ·cases he
 have hown:(c.add (.arr 0 (e,ei.size) (List.replicate a.toNat zd)) b.toNat (.cells (madeCells z.cells (b.toNat*ti.size)) e)).own c.heap.length=some (c.w.heap.size,b.toNat):=by simp [Cx.add]
 have hheap:(c.add (.arr 0 (e,ei.size) (List.replicate a.toNat zd)) b.toNat (.cells (madeCells z.cells (b.toNat*ti.size)) e)).heap[c.heap.length]? = some (.arr 0 (e,ei.size) (List.replicate a.toNat zd)):=by simp [Cx.add]
 refine ⟨_,.slice (some ⟨c.w.heap.size,0,none⟩) a.toNat b.toNat,.inl ?_,rfl,k2 ⟨hpos,hel,.inr ⟨c.w.heap.size,b.toNat,madeCells z.cells (b.toNat*ti.size),hown,heap_alloc_new _ _,by rw [size_madeCells,q3],by simp; omega,maxLen_big (by omega),?_⟩⟩,?_,k1⟩
 ·simp only [execOp,h1,e1,e2,Sem.run_bind,hr,Result.andThen_ok,Sem.run_pure];rfl
 ·intro i' j2 e' x he hx;have hje:j2<ei.size:=by rw [← hel i' e' he]; exact lt_of_getElem? hx
  rw [List.getElem?_replicate] at he;split at he
  ·rename_i hlt;cases he;rw [hzd] at hx;have hidx:i'*ei.size+j2<b.toNat*ti.size:=by
    rw [← q3];have:(i'+1)*ei.size≤b.toNat*ei.size:=Nat.mul_le_mul_right _ (by omega);rw [Nat.add_mul,Nat.one_mul] at this;omega
   have hmod:(i'*ei.size+j2) % ei.size=j2:=by rw [Nat.mul_comm,Nat.mul_add_mod,Nat.mod_eq_of_lt hje]
   have hval:(madeCells z.cells (b.toNat*ti.size))[i'*ei.size+j2]? = some (zs[j2]'(by omega)):=by
    simp [madeCells,hidx,hzs,hzlen,hmod,hje]
   have hvd:=hzl.ofMapD j2 x (zs[j2]'(by omega)) hx (by simp [hzlen,hje]);exact ⟨_,hval,vd_one hvd (hsc x (List.mem_of_getElem? hx)),k1.vd hvd⟩
  ·cases he
 ·have:=VR.own (c:=c.add (.arr 0 (e,ei.size) (List.replicate a.toNat zd)) b.toNat (.cells (madeCells z.cells (b.toNat*ti.size)) e)) c.heap.length 0 (e,ei.size) _ c.w.heap.size b.toNat hheap hown;rw [List.length_replicate] at this;exact this
theorem appK_sound (hE:E.OK) {o:Op} {stop:Prop} {k:AV→List Box→Prop} (H:appK E.T E.G o s h stop k):stop∨∃ v h',k v h'∧OpOK E o s h v h':=by
 unfold appK at H;split at H
 ·rename_i args tsA;rcases two_or H with h | ⟨x,y,hx,H⟩
  ·exact .inl h
  rcases two_or H with h | ⟨t0,t1,ht,H⟩
  ·exact .inl h
  rcases getK_or H with h | ⟨i0,hi0,H⟩
  ·exact .inl h
  rcases getK_or H with h | ⟨i1,hi1,H⟩
  ·exact .inl h
  split at H
  ·rename_i e hk0;rcases getK_or H with h | ⟨ei,hei,H⟩
   ·exact .inl h
   split at H
   ·rename_i q1 q2 q3;rcases evalK_sound H with h | ⟨a,ha,H⟩
    ·exact .inl h
    rcases evalK_sound H with h | ⟨b,hb,H⟩
    ·exact .inl h
    have fin:∀ (m:List DV),(∀ k,i1.k ≠ .int k)→((∀ e∈m,e.cells.length=ei.size)→∀ (c:Cx) (v:Value),VR c b v→∃ news:List Value,Src E.P ei.size c.w v m.length news∧(∀ (j:Nat) (y:DV) (v:Value),(flat m)[j]? = some y→news[j]? = some v→VD c.bad c.w y v)) →
      finK e ei h a m stop k→stop∨∃ v h',k v h'∧OpOK E (.call { callee := .builtin .append,args:=args,argTypes:=tsA }) s h v h':=by
     intro m hk1 hsrc H;have gen:=fun {r h'} (hm:∀ e∈m,e.cells.length=ei.size) hcase=>ok_append (h:=h) (r:=r) (h':=h') hE hx ht hi0 hi1 hk0 hk1 hei (Nat.eq_of_beq_eq_true q1) (blt_pos q2) (Nat.le_of_ble_eq_true q3) hb hm (hsrc hm) ha hcase;unfold finK at H;split at H
     ·obtain ⟨⟨h1,h2⟩,H⟩:=need_elim H;rw [snocK_eq,Nat.zero_add] at H;exact .inr ⟨_,_,H,gen h2 (.inr ⟨rfl,h1,rfl,rfl⟩)⟩
     ·rcases getK_or H with h | ⟨bx,hbx,H⟩
      ·exact .inl h
      split at H
      ·split at H
       ·rename_i p1 p2 p3;have p1:=Nat.eq_of_beq_eq_true p1;subst p1;obtain ⟨⟨h1,h2⟩,H⟩:=need_elim H;rw [setK_eq] at H;exact .inr ⟨_,_,H,gen h2 (.inl ⟨_,_,_,_,rfl,hbx,Nat.eq_of_beq_eq_true p2,Nat.eq_of_beq_eq_true p3,h1,rfl,rfl⟩)⟩
       ·exact .inl H
      ·exact .inl H
     ·exact .inl H
    split at H
    ·rename_i e' m hk1;exact fin m (fun k hk=>by rw [hk1] at hk; cases hk) (fun hm c v hv=>by cases hv with | d _ _ hv=>exact src_sl (blt_pos q2) hm hv) H
    ·rename_i z hk1;split at H
     ·refine fin (z.map byteD) (fun k hk=>by rw [hk1] at hk; cases hk) (fun hm c v hv=>?_) H;have hv':=vr_str hv;subst hv';by_cases hz:z=[]
      ·subst hz;exact ⟨[],⟨fun _=>by simp [Builtin.lenOf,ByteArray.size],fun d=>by simp [Builtin.firstCells],fun v hv=>by simp at hv,by simp⟩,fun j y v hy=>by simp [flat] at hy⟩
      ·obtain ⟨b0,r,hr⟩:=List.exists_cons_of_ne_nil hz;have h1:1=ei.size:=hm (byteD b0) (by rw [hr]; simp);rw [← h1];exact ⟨_,src_str.1,(src_str (P:=E.P)).2⟩
     ·exact .inl H
    ·exact .inl H
   ·exact .inl H
  ·exact .inl H
 ·rcases getK_or H with h | ⟨i,hi,H⟩
  ·exact .inl h
  split at H
  ·rename_i e hk;rcases getK_or H with h | ⟨ei,hei,H⟩
   ·exact .inl h
   split at H
   ·rename_i q1 q2 q3 q4;rcases evalK_sound H with h | ⟨a,ha,H⟩
    ·exact .inl h
    split at H
    ·rcases evalK_sound H with h | ⟨b,hb,H⟩
     ·exact .inl h
     split at H
     ·split at H
      ·rename_i z hz1;obtain ⟨⟨h1,h2,h3⟩,H⟩:=need_elim H;rw [snocK_eq,Nat.zero_add] at H;have hzs:z.scal=true:=by rw [hz1] at q4; simpa using q4
       exact .inr ⟨_,_,H,ok_make hE hi hk hei (Nat.eq_of_beq_eq_true q1) (blt_pos q2) (Nat.le_of_ble_eq_true q3) (fun y hy=>List.all_eq_true.1 q4 y hy) ha hb h1 h2 h3 (zd:=z) (by rw [hz1]; cases z <;> first | rfl | cases hzs)⟩
      ·obtain ⟨⟨h1,h2,h3⟩,H⟩:=need_elim H;rw [snocK_eq,Nat.zero_add] at H;exact .inr ⟨_,_,H,ok_make hE hi hk hei (Nat.eq_of_beq_eq_true q1) (blt_pos q2) (Nat.le_of_ble_eq_true q3) (fun y hy=>List.all_eq_true.1 q4 y hy) ha hb h1 h2 h3 rfl⟩
     ·exact .inl H
    ·exact .inl H
   ·exact .inl H
  ·exact .inl H
 ·exact .inl H
end
end Go.Eng
end
section
namespace Go.Eng
open Go Go.RowKit
@[irreducible] def elemP (l : List DV) (sz : Nat) (n : Int) (K : DV → Prop) : Prop := ∃ e, 0 ≤ n ∧ l[n.toNat]? = some e ∧ e.cells.length = sz ∧ K e
theorem elemP_intro {l:List DV} {sz:Nat} {n:Int} {K:DV→Prop} (e:DV) (h0:0≤n) (he:l[n.toNat]? = some e) (hs:e.cells.length=sz) (k:K e):elemP l sz n K:=by unfold elemP; exact ⟨e,h0,he,hs,k⟩
theorem elemP_elim {l:List DV} {sz:Nat} {n:Int} {K:DV→Prop} (h:elemP l sz n K):∃ e,0≤n∧l[n.toNat]? = some e∧e.cells.length=sz∧K e:=by unfold elemP at h; exact h
@[irreducible] def byteP (s : List UInt8) (n : Int) (K : UInt8 → Prop) : Prop := ∃ b, 0 ≤ n ∧ s[n.toNat]? = some b ∧ K b
theorem byteP_intro {s:List UInt8} {n:Int} {K:UInt8→Prop} (b:UInt8) (h0:0≤n) (hb:s[n.toNat]? = some b) (k:K b):byteP s n K:=by unfold byteP; exact ⟨b,h0,hb,k⟩
theorem byteP_elim {s:List UInt8} {n:Int} {K:UInt8→Prop} (h:byteP s n K):∃ b,0≤n∧s[n.toNat]? = some b∧K b:=by unfold byteP at h; exact h
@[irreducible] def cellP (c : List DV) (len sz : Nat) (n : Int) (K : DV → Prop) : Prop := ∃ e, 0 ≤ n ∧ n < len ∧ 0 < sz ∧ (c.drop (n.toNat * sz)).take sz = e.cells ∧ e.cells.length = sz ∧ K e
theorem cellP_intro {c:List DV} {len sz:Nat} {n:Int} {K:DV→Prop} (e:DV) (h0:0≤n) (h1:n<len) (hz:0<sz) (he:(c.drop (n.toNat*sz)).take sz=e.cells) (hs:e.cells.length=sz) (k:K e):cellP c len sz n K:=by unfold cellP; exact ⟨e,h0,h1,hz,he,hs,k⟩
theorem cellP_elim {c:List DV} {len sz:Nat} {n:Int} {K:DV→Prop} (h:cellP c len sz n K):∃ e,0≤n∧n<len∧0<sz∧(c.drop (n.toNat*sz)).take sz=e.cells∧e.cells.length=sz∧K e:=by unfold cellP at h; exact h
def boundK (G:List (Nat × DV)) (s:List AV) (x:Option Operand) (stop:Prop) (k:Option Int→Prop):Prop :=
 match x with
 |none=>k none
 |some x=>evalK G s x stop fun
  | .d (.int _ n)=>k (some n)
  |_=>stop
def putElem1K (e:DV) (off:Nat) (ds:List DV) (stop:Prop) (k:DV→Prop):Prop :=
 match e with
 | .agg c=>match Nat.ble (off+ds.length) c.length with
  |true=>splK c off ds fun c'=>k (.agg c')
  |false=>stop
 |_=>match off,ds with
  | 0,[d]=>match d.scal with
   |true=>k d
   |false=>stop
  |_,_=>stop
def putElemK (e:DV) (off:Nat) (vs:List AV) (stop:Prop) (k:DV→Prop):Prop:=allDK vs stop fun ds=>putElem1K e off ds stop k
def sideK (T:List TInfo) (G:List (Nat × DV)) (o:Op) (s:List AV) (h:List Box) (stop:Prop) (k:AV→List Box→Prop):Prop :=
 match o with
 | .indexAddr t x i=>getK T t stop fun ti=>evalK G s x stop fun a=>evalK G s i stop fun
  | .d (.int _ n)=>match ti.k with
   | .slice e=>getK T e stop fun ei=>match a with
    | .d (.sl l)=>match Nat.blt 0 ei.size with
     |true=>elemP l ei.size n fun e=>k (.eptr e 0) h
     |false=>stop
    | .own b g=>getK h b stop fun
     | .arr g' ts l=>match Nat.beq g g',Nat.beq ts.2 ei.size with
      |true,true=>need (0≤n∧n<l.length) (k (.aptr b g n.toNat 0) h)
      |_,_=>stop
     |_=>stop
    |_=>stop
   | .array len e=>getK T e stop fun ei=>match a with
    | .eptr (.agg c) 0=>cellP c len ei.size n fun e'=>k (.eptr e' 0) h
    |_=>stop
   |_=>stop
  |_=>stop
 | .index t x i=>getK T t stop fun ti=>evalK G s x stop fun a=>evalK G s i stop fun
  | .d (.int _ n)=>match ti.k,a with
   | .string,.d (.str l)=>byteP l n fun b=>k (.d (.int .u8 b.toNat)) h
   |_,_=>stop
  |_=>stop
 | .slice t x lo hi none=>getK T t stop fun ti=>evalK G s x stop fun a=>boundK G s lo stop fun l=>boundK G s hi stop fun u=>match ti.k,a with
  | .string,.d (.str z)=>need (0≤l.getD 0∧l.getD 0≤u.getD z.length∧u.getD z.length≤z.length) (k (.d (.str ((z.take (u.getD z.length).toNat).drop (l.getD 0).toNat))) h)
  | .slice e,.d (.sl z)=>getK T e stop fun ei=>need (0≤l.getD 0∧l.getD 0≤u.getD z.length∧u.getD z.length≤z.length∧∀ e∈z,e.cells.length=ei.size) (k (.d (.sl ((z.take (u.getD z.length).toNat).drop (l.getD 0).toNat))) h)
  |_,_=>stop
 | .load t x=>getK T t stop fun ti=>evalK G s x stop fun
  | .aptr b g i off=>getK h b stop fun
   | .arr g' ts l=>match Nat.beq g g' with
    |true=>elemP l ts.2 i fun e=>match e with
     | .agg c=>mapK .d c fun c'=>partK ti c' off stop fun v=>k v h
     |e=>partK ti [.d e] off stop fun v=>k v h
    |false=>stop
   |_=>stop
  |_=>stop
 | .store t x y=>getK T t stop fun ti=>evalK G s y stop fun v=>evalK G s x stop fun
  | .aptr b g i off=>getK h b stop fun
   | .arr g' ts l=>match Nat.beq g g' with
    |true=>cellsK v stop fun vs=>match Nat.beq vs.length ti.size,vs.all AV.scal with
     |true,true=>elemP l ts.2 i fun e=>putElemK e off vs stop fun e'=>setK h b (.arr g ts (l.set i e')) fun h'=>k (.d .undef) h'
     |_,_=>stop
    |false=>stop
   |_=>stop
  |_=>stop
 |o=>appK T G o s h stop k
section
variable {E:Env} {s:List AV} {h:List Box} {c:Cx}
theorem run_indexAt {P:Program} {t e:Nat} {i ei:TInfo} (ht:tinfo P t=some i) (hte:tinfo P e=some ei) (hk:i.k = .slice e) {j:IntKind} {n:Int} {b o len cap:Nat} {w:World} (h0:0≤n) (h1:n<len) :
  (Instr.indexAt t (.slice (some ⟨b,o,none⟩) len cap) (.int j n)).run P w = .ok (.pointer (some ⟨b,o+n.toNat*ei.size,none⟩)) w:=by
 obtain ⟨ti,d,g1,g2,g3,-⟩:=tinfo_inv ht;obtain rfl:=tk_slice (hk.symm.trans g3);simp only [Instr.indexAt,asIntOf,Sem.run_bind,Sem.run_pure,Result.andThen_ok,run_underlying g2,h0,h1,and_self,if_true,run_sizeOf hte,add_at]
theorem run_execIndexAddr {P:Program} {o:Oper} {ac:Act} {w:World} {t:Nat} {x i:Operand} {v:Value} (h1:o.op = .indexAddr t x i) (hr:(Instr.indexAt t (ac.eval x) (ac.eval i)).run P w = .ok v w):(execOp ac.eval o).run P w = .ok (.value v) w:=by
 simp only [execOp,h1,Sem.run_bind,hr,Result.andThen_ok,Sem.run_pure]
theorem eptr_of_sl {l:List DV} {v:Value} (hv:VR c (.d (.sl l)) v) {n sz:Nat} {e:DV} (he:l[n]? = some e) (hs:e.cells.length=sz) (hpos:0<sz):∃ blk off cap,v = .slice (some ⟨blk,off,none⟩) l.length cap∧VR c (.eptr e 0) (.pointer (some ⟨blk,off+n*sz,none⟩)):=by
 cases hv with
 |d _ _ hd=>cases hd with
  |slnil=>simp at he
  |slz=>simp at he
  |sl _ blk off cap sz' f hb hsz hcap hlen hcell hval hone =>
   obtain rfl:sz'=sz:=(hlen n e he).symm.trans hs;refine ⟨blk,off,cap,rfl,?_⟩;have hne:l≠[]:=fun h0=>by subst h0; simp at he
   have:=VR.eptr (c:=c) e 0 blk (off+n*sz') (fun j=>f n j) (hb hne) (fun h0=>by rw [h0] at hs; simp at hs; omega) (fun j x hx=>by rw [Nat.add_assoc]; exact hcell n j e x he hx) (fun j x hx=>hval n j e x he hx);exact this
theorem ok_indexSl (hE:E.OK) {t e:Nat} {x i:Operand} {ti ei:TInfo} (hti:E.T[t]? = some ti) (hei:E.T[e]? = some ei) (hk:ti.k = .slice e) {l:List DV} {j:IntKind} {n:Int} (hx:EvOK E.G s x (.d (.sl l))) (hi:EvOK E.G s i (.d (.int j n))) (hpos:0<ei.size) {y:DV} (h0:0≤n) (hy:l[n.toNat]? = some y) (hs:y.cells.length=ei.size) :
  OpOK E (.indexAddr t x i) s h (.eptr y 0) h := .quiet fun o c ac h1 _ h3 h4=>by
 obtain ⟨blk,off,cap,e1,e2⟩:=eptr_of_sl (hx c ac h3 h4) hy hs hpos;refine ⟨_,run_execIndexAddr h1 ?_,e2⟩;rw [e1,vr_int (hi c ac h3 h4)];have:=lt_of_getElem? hy;exact run_indexAt (hE.types t ti hti) (hE.types e ei hei) hk h0 (by omega)
theorem vr_aptr {b g i off:Nat} {ts:Nat × Nat} {l:List DV} (hb:c.heap[b]? = some (.arr g ts l)) {v:Value} (hv:VR c (.aptr b g i off) v):∃ blk cap,c.own b=some (blk,cap)∧v = .pointer (some ⟨blk,i*ts.2+off,none⟩)∧i<l.length:=by
 cases hv with
 |aptr _ _ _ _ _ l' blk cap k1 k2 k3=>rw [hb] at k1; cases k1; exact ⟨blk,cap,k2,rfl,k3⟩
 |aptrold _ _ g' _ _ _ _ _ k1 k2 _=>rw [hb] at k1; cases k1; omega
 |aptrgone _ _ _ _ _ k1 _=>rw [hb] at k1; cases k1
theorem ok_indexOwn (hE:E.OK) {t e:Nat} {x i:Operand} {ti ei:TInfo} (hti:E.T[t]? = some ti) (hei:E.T[e]? = some ei) (hk:ti.k = .slice e) {b g:Nat} {ts:Nat × Nat} {l:List DV} (hb:h[b]? = some (.arr g ts l)) (hts:ts.2=ei.size) {j:IntKind} {n:Int} (hx:EvOK E.G s x (.own b g)) (hi:EvOK E.G s i (.d (.int j n))) (h0:0≤n) (h1:n<l.length) :
  OpOK E (.indexAddr t x i) s h (.aptr b g n.toNat 0) h := .quiet fun o c ac e1 e2 h3 h4=>by
 subst e2;rcases vr_own hb (hx c ac h3 h4) with ⟨blk,cap,q1,q2⟩ | ⟨rfl,-,-⟩
 ·refine ⟨_,run_execIndexAddr e1 (v := .pointer (some ⟨blk,0+n.toNat*ei.size,none⟩)) ?_,?_⟩
  ·rw [q2,vr_int (hi c ac h3 h4)];exact run_indexAt (hE.types t ti hti) (hE.types e ei hei) hk h0 h1
  ·have:=VR.aptr (c:=c) b g n.toNat 0 ts l blk cap hb q1 (by omega);rw [hts] at this
   simpa using this
 ·simp at h1; omega
theorem ok_indexArr (hE:E.OK) {t e len:Nat} {x i:Operand} {ti ei:TInfo} (hti:E.T[t]? = some ti) (hei:E.T[e]? = some ei) (hk:ti.k = .array len e) {cs:List DV} {j:IntKind} {n:Int} (hx:EvOK E.G s x (.eptr (.agg cs) 0)) (hi:EvOK E.G s i (.d (.int j n))) {y:DV} (h0:0≤n) (h1:n<len) (hpos:0<ei.size) (hy:(cs.drop (n.toNat*ei.size)).take ei.size=y.cells) (hs:y.cells.length=ei.size) :
  OpOK E (.indexAddr t x i) s h (.eptr y 0) h := .quiet fun o c ac e1 _ h3 h4=>by
 obtain ⟨tyi,d,g1,g2,g3,-⟩:=tinfo_inv (hE.types t ti hti);obtain rfl:=tk_array (hk.symm.trans g3);have key:∀ p,VR c (.eptr (.agg cs) 0) p→∃ blk o',p = .pointer (some ⟨blk,o',none⟩)∧VR c (.eptr y 0) (.pointer (some ⟨blk,o'+n.toNat*ei.size,none⟩)):=fun p hp=>by
  cases hp with
  |eptr _ _ blk o' f k1 k2 k3 k4 =>
   have hget:∀ (jj:Nat) (z:DV),y.cells[jj]? = some z→cs[n.toNat*ei.size+jj]? = some z:=fun jj z hz=>by
    rw [← hy,List.getElem?_take] at hz;split at hz
    ·simpa using hz
    ·cases hz
   exact ⟨blk,o'+0,rfl,VR.eptr y 0 blk (o'+0+n.toNat*ei.size) (fun jj=>f (n.toNat*ei.size+jj)) k1 (fun hh=>by rw [hh] at hs; simp at hs; omega) (fun jj z hz=>by rw [Nat.add_zero,Nat.add_assoc]; exact k3 _ z (hget jj z hz)) (fun jj z hz=>k4 _ z (hget jj z hz))⟩
 obtain ⟨blk,o',q1,q2⟩:=key _ (hx c ac h3 h4);refine ⟨_,run_execIndexAddr e1 ?_,q2⟩;rw [q1,vr_int (hi c ac h3 h4)];simp only [Instr.indexAt,asIntOf,Sem.run_bind,Sem.run_pure,Result.andThen_ok,run_underlying g2,Instr.sureAddr,h0,h1,and_self,if_true,run_sizeOf (hE.types e ei hei),add_at]
theorem ok_indexStr (hE:E.OK) {t:Nat} {x i:Operand} {ti:TInfo} (hti:E.T[t]? = some ti) (hk:ti.k = .string) {l:List UInt8} {j:IntKind} {n:Int} (hx:EvOK E.G s x (.d (.str l))) (hi:EvOK E.G s i (.d (.int j n))) {b:UInt8} (h0:0≤n) (hb:l[n.toNat]? = some b) :
  OpOK E (.index t x i) s h (.d (.int .u8 b.toNat)) h := .quiet fun o c ac e1 _ h3 h4=>by
 obtain ⟨tyi,d,g1,g2,g3,-⟩:=tinfo_inv (hE.types t ti hti);obtain rfl:=tk_string (hk.symm.trans g3);have hlt:=lt_of_getElem? hb;have hget:(ByteArray.mk l.toArray)[n.toNat]? = some b:=by
  have hs:n.toNat<(ByteArray.mk l.toArray).size:=by simpa [ByteArray.size] using hlt
  rw [getElem?_pos (ByteArray.mk l.toArray) n.toNat hs];have:=List.getElem?_eq_getElem hlt;rw [hb] at this
  simpa [ByteArray.getElem_eq_getElem_data] using this.symm
 refine ⟨.int .u8 b.toNat,?_,.d _ _ (.int _ _)⟩;simp only [execOp,e1,vr_str (hx c ac h3 h4),vr_int (hi c ac h3 h4),Instr.index,asIntOf,Sem.run_bind,Sem.run_pure,Result.andThen_ok,run_underlying g2,h0,if_true,hget]
def BoundOK (G:List (Nat × DV)) (s:List AV) (x:Option Operand) (n:Option Int):Prop:=∀ (c:Cx) (a:Act),HOk G c→VS c s a.tmps→match n with
 |none=>x.map a.eval=none
 |some n=>∃ j,x.map a.eval=some (.int j n)
theorem boundK_sound {x:Option Operand} {stop:Prop} {k:Option Int→Prop} (H:boundK E.G s x stop k):stop∨∃ n,BoundOK E.G s x n∧k n:=by
 unfold boundK at H;split at H
 ·exact .inr ⟨none,fun _ _ _ _=>rfl,H⟩
 ·rcases evalK_sound H with h | ⟨v,hv,H⟩
  ·exact .inl h
  split at H
  ·rename_i j n;refine .inr ⟨some n,fun c a h1 h2=>?_,H⟩;show ∃ j,_=some (Value.int j n);exact ⟨j,by simp [vr_int (hv c a h1 h2)]⟩
  ·exact .inl H
theorem run_bounds {P:Program} {w:World} {isSlice:Bool} {len cap:Nat} {lo hi:Option Value} {l u:Option Int} (hl:match l with | none=>lo=none | some n=>∃ j,lo=some (.int j n)) (hu:match u with | none=>hi=none | some n=>∃ j,hi=some (.int j n))
  (h0:0≤l.getD 0) (h1:l.getD 0≤u.getD len) (h2:u.getD len≤len) (hc:len≤cap) :
  (Instr.sliceBounds isSlice len cap lo hi none).run P w = .ok ((l.getD 0).toNat,(u.getD len).toNat,cap) w:=by
 cases l with
 |none =>
  simp only at hl;subst hl;cases u with
  |none =>
   simp only at hu;subst hu;simp only [Instr.sliceBounds,Sem.run_bind,Sem.run_pure,Result.andThen_ok,Option.getD_none,Int.toNat_natCast,Int.toNat_zero]
  |some n =>
   obtain ⟨j,rfl⟩:=hu;simp only [Option.getD_some,Option.getD_none] at h1 h2;simp only [Instr.sliceBounds,Sem.run_bind,Sem.run_pure,Result.andThen_ok,Option.getD_none,Option.getD_some,Int.toNat_zero,run_sliceBound w j n cap _ h1 (by omega)]
 |some m =>
  obtain ⟨i,rfl⟩:=hl;cases u with
  |none =>
   simp only at hu;subst hu;simp only [Option.getD_some,Option.getD_none] at h0 h1;simp only [Instr.sliceBounds,Sem.run_bind,Sem.run_pure,Result.andThen_ok,Option.getD_none,Option.getD_some,Int.toNat_natCast,run_sliceBound w i m len _ h0 h1]
  |some n =>
   obtain ⟨j,rfl⟩:=hu;simp only [Option.getD_some] at h0 h1 h2;simp only [Instr.sliceBounds,Sem.run_bind,Sem.run_pure,Result.andThen_ok,Option.getD_some,run_sliceBound w j n cap _ (by omega) (by omega),run_sliceBound w i m n.toNat _ h0 (by omega)]
theorem extract_str (l:List UInt8) (a b:Nat):(ByteArray.mk l.toArray).extract a b=ByteArray.mk ((l.take b).drop a).toArray:=by
 apply ByteArray.ext;simp [List.extract_eq_take_drop,List.drop_take]
theorem ok_sliceStr (hE:E.OK) {t:Nat} {x:Operand} {lo hi:Option Operand} {ti:TInfo} (hti:E.T[t]? = some ti) (hk:ti.k = .string) {z:List UInt8} {l u:Option Int} (hx:EvOK E.G s x (.d (.str z))) (hl:BoundOK E.G s lo l) (hu:BoundOK E.G s hi u)
  (h0:0≤l.getD 0) (h1:l.getD 0≤u.getD z.length) (h2:u.getD z.length≤z.length):OpOK E (.slice t x lo hi none) s h (.d (.str ((z.take (u.getD z.length).toNat).drop (l.getD 0).toNat))) h := .quiet fun o c ac e1 _ h3 h4=>by
 obtain ⟨tyi,d,g1,g2,g3,-⟩:=tinfo_inv (hE.types t ti hti);obtain rfl:=tk_string (hk.symm.trans g3);have hsz:(ByteArray.mk z.toArray).size=z.length:=by simp [ByteArray.size]
 have hb:=run_bounds (P:=E.P) (w:=c.w) (isSlice:=false) (len:=z.length) (cap:=z.length) (hl c ac h3 h4) (hu c ac h3 h4) h0 h1 h2 (Nat.le_refl _);refine ⟨_,?_,.d _ _ (.str _)⟩;simp only [execOp,e1,vr_str (hx c ac h3 h4),Instr.sliceAt,Instr.slice,Sem.run_bind,Sem.run_pure,Result.andThen_ok,run_underlying g2,Option.map_none,Option.isSome_none,Bool.false_eq_true,if_false,hsz,hb,extract_str]
theorem vd_slice {bad:Nat→Prop} {w:World} {z:List DV} {v:Value} (hv:VD bad w (.sl z) v) {lo hi sz:Nat} (h1:lo≤hi) (h2:hi≤z.length) (hsz:∀ e∈z,e.cells.length=sz):∃ a cap,v = .slice a z.length cap∧z.length≤cap∧VD bad w (.sl ((z.take hi).drop lo)) (.slice (if cap=lo then a else a.map (·.add (lo*sz))) (hi - lo) (cap - lo)):=by
 have hlen:((z.take hi).drop lo).length=hi - lo:=by simp; omega
 cases hv with
 |slnil =>
  simp at h2;subst h2;simp at h1;subst h1;exact ⟨none,0,rfl,Nat.le_refl _,by simpa using VD.slnil⟩
 |slz a =>
  simp at h2;subst h2;simp at h1;subst h1;exact ⟨some a,0,rfl,Nat.le_refl _,by simpa using VD.slz a⟩
 |sl _ blk off cap sz' f hb hsz' hcap hlen' hcell hval hone =>
  refine ⟨some ⟨blk,off,none⟩,cap,rfl,hcap,?_⟩;by_cases hc:cap=lo
  ·have:hi=lo:=by omega
   subst this;have e:(z.take hi).drop hi=[]:=by simp
   rw [e,if_pos hc,Nat.sub_self];exact .sl [] blk off (cap - hi) sz' f (fun h=>absurd rfl h) hsz' (Nat.zero_le _) (fun i e he=>by simp at he) (fun i j e x he=>by simp at he) (fun i j e x he=>by simp at he) (fun i j e x he=>by simp at he)
  ·rw [if_neg hc,← hlen];simp only [Option.map_some,add_at];have hget:∀ (i:Nat) (e:DV),((z.take hi).drop lo)[i]? = some e→z[lo+i]? = some e:=fun i e he=>by
    simp only [List.getElem?_drop,List.getElem?_take] at he;split at he
    ·exact he
    ·cases he
   by_cases hne:(z.take hi).drop lo=[]
   ·rw [hne];exact .sl [] blk _ (cap - lo) sz' f (fun h=>absurd rfl h) hsz' (Nat.zero_le _) (fun i e he=>by simp at he) (fun i j e x he=>by simp at he) (fun i j e x he=>by simp at he) (fun i j e x he=>by simp at he)
   ·obtain ⟨e0,r,hr⟩:=List.exists_cons_of_ne_nil hne;have he0:=hget 0 e0 (by rw [hr]; rfl);have hzz:sz'=sz:=(hlen' _ _ he0).symm.trans (hsz e0 (List.mem_of_getElem? he0));subst hzz;refine .sl _ blk (off+lo*sz') (cap - lo) sz' (fun i j=>f (lo+i) j) (fun _=>hb (fun h=>by subst h; simp at he0)) hsz' (by rw [hlen]; omega) (fun i e he=>hlen' _ _ (hget i e he)) (fun i j e x he hx=>?_) (fun i j e x he hx=>hval _ _ _ _ (hget i e he) hx) (fun i j e x he hx=>hone _ _ _ _ (hget i e he) hx);have:=hcell _ _ _ _ (hget i e he) hx;rw [Nat.add_mul] at this;rw [show off+lo*sz'+(i*sz'+j)=off+(lo*sz'+i*sz'+j) by omega];exact this
theorem ok_sliceSl (hE:E.OK) {t e:Nat} {x:Operand} {lo hi:Option Operand} {ti ei:TInfo} (hti:E.T[t]? = some ti) (hei:E.T[e]? = some ei) (hk:ti.k = .slice e) {z:List DV} {l u:Option Int} (hx:EvOK E.G s x (.d (.sl z))) (hl:BoundOK E.G s lo l) (hu:BoundOK E.G s hi u)
  (h0:0≤l.getD 0) (h1:l.getD 0≤u.getD z.length) (h2:u.getD z.length≤z.length) (hsz:∀ e∈z,e.cells.length=ei.size):OpOK E (.slice t x lo hi none) s h (.d (.sl ((z.take (u.getD z.length).toNat).drop (l.getD 0).toNat))) h := .quiet fun o c ac e1 _ h3 h4=>by
 obtain ⟨tyi,d,g1,g2,g3,-⟩:=tinfo_inv (hE.types t ti hti);obtain rfl:=tk_slice (hk.symm.trans g3);have hv:=hx c ac h3 h4;generalize hev:ac.eval x=v at hv;cases hv with
 |d _ _ hv =>
  obtain ⟨a,cap,rfl,hcap,hd⟩:=vd_slice hv (lo:=(l.getD 0).toNat) (hi:=(u.getD z.length).toNat) (by omega) (by omega) hsz;have hb:=run_bounds (P:=E.P) (w:=c.w) (isSlice:=true) (len:=z.length) (cap:=cap) (hl c ac h3 h4) (hu c ac h3 h4) h0 h1 h2 hcap;refine ⟨_,?_,.d _ _ hd⟩;simp only [execOp,e1,hev,Instr.sliceAt,Instr.slice,Sem.run_bind,Sem.run_pure,Result.andThen_ok,run_underlying g2,Option.map_none,hb,run_sizeOf (hE.types e ei hei)]
theorem HOk.elem {G:List (Nat × DV)} (ho:HOk G c) {b g:Nat} {ts:Nat × Nat} {l:List DV} (hb:c.heap[b]? = some (.arr g ts l)) {blk cap:Nat} (hown:c.own b=some (blk,cap)) {i:Nat} {e:DV} (he:l[i]? = some e) :
  ∃ (vs:Array Value) (us:List Value),c.w.heap[blk]? = some (.cells vs ts.1 (0,0))∧us.length=ts.2∧RowAt c.w blk (i*ts.2) us∧VL c (e.cells.map .d) us∧i*ts.2+ts.2≤vs.size:=by
 obtain ⟨q0,q1,q2⟩:=ho.box b _ hb;rcases q2 with ⟨q2,-⟩ | ⟨blk',cap',vs,q2,q3,q4,q5,q6,q7⟩
 ·rw [hown] at q2; cases q2
 ·rw [hown] at q2; cases q2;have hlen:=q1 i e he;have hi:=lt_of_getElem? he;have hfit:i*ts.2+ts.2≤vs.size:=by
   rw [q4]
   calc i*ts.2+ts.2=(i+1)*ts.2:=by rw [Nat.add_mul,Nat.one_mul]
    _≤cap*ts.2:=Nat.mul_le_mul_right _ (by omega)
  refine ⟨vs,(vs.toList.drop (i*ts.2)).take ts.2,q3,by simp; omega,fun j v hv=>?_,.mapD (by simp [hlen]; omega) (fun j x v hx hv=>?_),hfit⟩
  ·rw [List.getElem?_take] at hv;split at hv
   ·rw [List.getElem?_drop] at hv;have:=row_of_block q3 (i*ts.2+j) v hv
    simpa using this
   ·cases hv
  ·obtain ⟨u,k1,-,k2⟩:=q7 i j e x he hx;rw [List.getElem?_take] at hv;split at hv
   ·rw [List.getElem?_drop] at hv;have:vs[i*ts.2+j]? = some v:=by simpa using hv
    rw [k1] at this; cases this;exact k2
   ·cases hv
theorem ok_loadArr (hE:E.OK) {t:Nat} {x:Operand} {ti:TInfo} (hti:E.T[t]? = some ti) {b g i off:Nat} {ts:Nat × Nat} {l:List DV} (hb:h[b]? = some (.arr g ts l)) (hx:EvOK E.G s x (.aptr b g i off)) {e:DV} (he:l[i]? = some e) {stop:Prop} {k:AV→Prop} {cs:List AV} (hcs:cs=e.cells.map .d) (H:partK ti cs off stop k) :
  stop∨∃ v,k v∧OpOK E (.load t x) s h v h:=by
 rcases partK_sound H with h1 | ⟨v,hk,hp⟩
 ·exact .inl h1
 refine .inr ⟨v,hk,.quiet fun o c ac h1 h2 h3 h4=>?_⟩;subst h2;obtain ⟨blk,cap,q1,q2,q3⟩:=vr_aptr hb (hx c ac h3 h4);obtain ⟨vs,us,r1,r2,r3,r4,r5⟩:=h3.elem hb q1 he;obtain ⟨u,hu,hvu⟩:=hp E.P t c blk (i*ts.2) us (hE.types t ti hti) (by rw [hcs]; exact r4) r3;refine ⟨u,?_,hvu⟩;simp only [execOp,h1,q2,Sem.run_bind,hu,Result.andThen_ok,Sem.run_pure]
theorem HOk.writeArr {G:List (Nat × DV)} (ho:HOk G c) {b g blk cap:Nat} {ts:Nat × Nat} {l:List DV} {vs:Array Value} (hb:c.heap[b]? = some (.arr g ts l)) (hown:c.own b=some (blk,cap)) (hblk:c.w.heap[blk]? = some (.cells vs ts.1 (0,0)))
  {i off:Nat} {e e':DV} (he:l[i]? = some e) (hs:e'.cells.length=ts.2) {us:List Value} (hfit:off+us.length≤ts.2) (hone:∀ u∈us,u.oneCell'=true)
  (hv:∀ (j:Nat) (x:DV),e'.cells[j]? = some x→(off≤j∧∃ v,us[j - off]? = some v∧VD c.bad c.w x v)∨((j<off∨off+us.length≤j)∧e.cells[j]? = some x)) :
  let c':Cx:={ c with heap:=c.heap.set b (.arr g ts (l.set i e')),w:=c.w.setCells blk (i*ts.2+off) us }
  HOk G c'∧Step c c':=by
 intro c';obtain ⟨e1,e2,e3,e4⟩:=setCells_os blk us (i*ts.2+off) c.w;have hbl:b<c.heap.length:=(ho.ownlt b blk cap hown).2
 have hst:Step c c':={
  bar:=rfl
  barlt:=ho.barlt
  os:=e1
  tape:=e2
  output:=e3
  size:=Nat.le_of_eq e4.symm
  keep:=fun x _ hn=>setCells_other blk us _ c.w x (fun e=>hn b cap (by rw [e]; exact hown))
  newown:=fun i x n hi _=>⟨n,hi⟩
  boxes:=fun k bx hk=>by
   by_cases hkb:k=b
   ·subst hkb;rw [hb] at hk;cases hk;exact .inl ⟨g,l.set i e',by show (c.heap.set k _)[k]? = _; rw [List.getElem?_set_self hbl],.inr ⟨rfl,by simp,rfl⟩⟩
   ·have h':c'.heap[k]? = some bx:=by show (c.heap.set b _)[k]? = _; rw [List.getElem?_set_ne (Ne.symm hkb)]; exact hk
    cases bx with
    |cells cs=>exact .inl ⟨cs,h',rfl,rfl⟩
    |arr g sz l=>exact .inl ⟨g,l,h',.inr ⟨rfl,rfl,rfl⟩⟩
    |map es=>exact .inl ⟨es,h',rfl⟩
    |gone=>exact h' }
 refine ⟨ho.next hst (fun k x n hk=>⟨by show x<(c.w.setCells blk _ us).heap.size; rw [e4]; exact (ho.ownlt k x n hk).1,by show k<(c.heap.set b _).length; rw [List.length_set]; exact (ho.ownlt k x n hk).2⟩) ho.inj (fun k bx hk=>?_),hst⟩;by_cases hkb:k=b
 ·subst hkb;have hk':(c.heap.set k (.arr g ts (l.set i e')))[k]? = some bx:=hk;rw [List.getElem?_set_self hbl] at hk';cases hk';right;obtain ⟨q0,q1,q2⟩:=ho.box k _ hb;rcases q2 with ⟨q2,-⟩ | ⟨blk',cap',vs',q2,q3,q4,q5,q6,q7⟩
  ·rw [hown] at q2; cases q2
  ·rw [hown] at q2; cases q2;rw [hblk] at q3; cases q3;have hil:=lt_of_getElem? he;have hlen2:Elems ts.2 (l.set i e'):=Elems.set q1 i hs;refine ⟨q0,hlen2,.inr ⟨blk,cap,(spl vs.toList (i*ts.2+off) us).toArray,hown,setCells_at blk ts.1 (0,0) us _ c.w vs hblk,by simp [spl_length,q4],by simpa using q5,q6,fun i' j e2 x h2 hx=>?_⟩⟩;have hj:j<ts.2:=by rw [← hlen2 i' e2 h2]; exact lt_of_getElem? hx
   have hget:∀ (p:Nat),(spl vs.toList (i*ts.2+off) us)[p]? = if i*ts.2+off≤p∧p<i*ts.2+off+us.length∧p<vs.size then us[p - (i*ts.2+off)]? else vs[p]? := by
    intro p;have gen:∀ (us:List Value) (o:Nat) (q:List Value),(spl q o us)[p]? = if o≤p∧p<o+us.length∧p<q.length then us[p - o]? else q[p]? := by
     intro us
     induction us with
     |nil=>intro o q; rw [if_neg (by simp; omega)]; rfl
     |cons u us ih =>
      intro o q;rw [spl,ih];by_cases hp:o=p
      ·subst hp;rw [if_neg (by omega)];by_cases hq:o<q.length
       ·rw [if_pos (by simp; omega),List.getElem?_set_self hq]; simp
       ·rw [if_neg (by omega),List.getElem?_eq_none (by simp; omega),List.getElem?_eq_none (by omega)]
      ·by_cases hc:o+1≤p∧p<o+1+us.length∧p<q.length
       ·rw [if_pos (by simpa using hc),if_pos (by simp; omega)];rw [show p - o=(p - (o+1))+1 by omega];simp
       ·rw [if_neg (by simpa using hc),if_neg (by simp; omega),List.getElem?_set_ne hp]
    have:=gen us (i*ts.2+off) vs.toList
    simpa using this
   have hcapsz:i*ts.2+ts.2≤vs.size:=by
    rw [q4]
    calc i*ts.2+ts.2=(i+1)*ts.2:=by rw [Nat.add_mul,Nat.one_mul]
     _≤cap*ts.2:=Nat.mul_le_mul_right _ (by omega)
   show ∃ v,(spl vs.toList (i*ts.2+off) us).toArray[i'*ts.2+j]? = some v∧_;rw [List.getElem?_toArray,hget];by_cases hii:i'=i
   ·subst hii;rw [List.getElem?_set_self hil] at h2;cases h2;rcases hv j x hx with ⟨k1,v,k2,k3⟩ | ⟨k1,k2⟩
    ·have:=lt_of_getElem? k2;rw [if_pos (by omega)];exact ⟨v,by rw [show i'*ts.2+j - (i'*ts.2+off)=j - off by omega]; exact k2,hone v (List.mem_of_getElem? k2),hst.vd k3⟩
    ·rw [if_neg (by omega)];obtain ⟨v,r1,r2,r3⟩:=q7 i' j e x he k2;exact ⟨v,r1,r2,hst.vd r3⟩
   ·rw [List.getElem?_set_ne (Ne.symm hii)] at h2;obtain ⟨v,r1,r2,r3⟩:=q7 i' j e2 x h2 hx;rw [if_neg ?_]
    ·exact ⟨v,r1,r2,hst.vd r3⟩
    ·rintro ⟨k1,k2,-⟩;rcases Nat.lt_or_gt_of_ne hii with hlt | hgt
     ·have:(i'+1)*ts.2≤i*ts.2:=Nat.mul_le_mul_right _ hlt;rw [Nat.add_mul,Nat.one_mul] at this;omega
     ·have:(i+1)*ts.2≤i'*ts.2:=Nat.mul_le_mul_right _ hgt;rw [Nat.add_mul,Nat.one_mul] at this;omega
 ·left;have hk':(c.heap.set b (.arr g ts (l.set i e')))[k]? = some bx:=hk;rw [List.getElem?_set_ne (Ne.symm hkb)] at hk';exact ⟨hk',rfl,fun x n hn=>setCells_other blk us _ c.w x (fun e=>hkb (ho.inj k b blk n cap (by rw [← e]; exact hn) hown))⟩
theorem spl_get {β:Type} (us:List β) (o:Nat) (q:List β) (p:Nat):(spl q o us)[p]? = if o≤p∧p<o+us.length∧p<q.length then us[p - o]? else q[p]? := by
 induction us generalizing o q with
 |nil=>rw [if_neg (by simp; omega)]; rfl
 |cons u us ih =>
  rw [spl,ih];by_cases hp:o=p
  ·subst hp;rw [if_neg (by omega)];by_cases hq:o<q.length
   ·rw [if_pos (by simp; omega),List.getElem?_set_self hq]; simp
   ·rw [if_neg (by omega),List.getElem?_eq_none (by simp; omega),List.getElem?_eq_none (by omega)]
  ·by_cases hc:o+1≤p∧p<o+1+us.length∧p<q.length
   ·rw [if_pos (by simpa using hc),if_pos (by simp; omega)];rw [show p - o=(p - (o+1))+1 by omega];simp
   ·rw [if_neg (by simpa using hc),if_neg (by simp; omega),List.getElem?_set_ne hp]
theorem cells_scal {e:DV} (h:e.scal=true):e.cells=[e]:=by cases e <;> first | rfl | cases h
def PutElem (e:DV) (off:Nat) (ds:List DV) (e':DV):Prop:=e'.cells.length=e.cells.length∧off+ds.length≤e.cells.length ∧
 ∀ (j:Nat) (x:DV),e'.cells[j]? = some x→(off≤j∧ds[j - off]? = some x)∨((j<off∨off+ds.length≤j)∧e.cells[j]? = some x)
theorem putElem1K_sound {e:DV} {off:Nat} {ds:List DV} {stop:Prop} {k:DV→Prop} (H:putElem1K e off ds stop k):stop∨∃ e',k e'∧PutElem e off ds e':=by
 unfold putElem1K at H;split at H
 ·rename_i cs;split at H
  ·rename_i q;rw [splK_eq] at H;have hq:=Nat.le_of_ble_eq_true q;refine .inr ⟨.agg (spl cs off ds),H,by simp [DV.cells,spl_length],hq,fun j x hx=>?_⟩;simp only [DV.cells] at hx;rw [spl_get] at hx;split at hx
   ·rename_i hc; exact .inl ⟨hc.1,hx⟩
   ·rename_i hc;refine .inr ⟨?_,hx⟩;have hj:=lt_of_getElem? hx;omega
  ·exact .inl H
 ·rename_i hna;split at H
  ·rename_i d;split at H
   ·rename_i hd;have hc1:e.cells=[e]:=by cases e <;> first | rfl | exact absurd rfl (hna _)
    refine .inr ⟨d,H,by rw [hc1,cells_scal hd]; rfl,by rw [hc1]; simp,fun j x hx => .inl ⟨Nat.zero_le _,by rw [cells_scal hd] at hx; simpa using hx⟩⟩
   ·exact .inl H
  ·exact .inl H
theorem putElemK_sound {e:DV} {off:Nat} {vs:List AV} {stop:Prop} {k:DV→Prop} (H:putElemK e off vs stop k):stop∨∃ (ds:List DV) (e':DV),vs=ds.map .d∧k e'∧PutElem e off ds e':=by
 unfold putElemK at H;rcases allDK_cases vs stop (fun ds=>putElem1K e off ds stop k) with ⟨ds,h1,h2⟩ | h2
 ·rw [h2] at H;rcases putElem1K_sound H with h | ⟨e',h3,h4⟩
  ·exact .inl h
  ·exact .inr ⟨ds,e',h1,h3,h4⟩
 ·rw [h2] at H; exact .inl H
theorem ok_storeArr (hE:E.OK) {t:Nat} {x y:Operand} {ti:TInfo} (hti:E.T[t]? = some ti) {b g i off:Nat} {ts:Nat × Nat} {l:List DV} (hb:h[b]? = some (.arr g ts l)) (hx:EvOK E.G s x (.aptr b g i off)) {v:AV} (hy:EvOK E.G s y v) {ds:List DV} (hv:CellsOK v (ds.map .d)) (hsz:ds.length=ti.size) (hscal:(ds.map AV.d).all AV.scal=true)
  {e e':DV} (he:l[i]? = some e) (hes:e.cells.length=ts.2) (hp:PutElem e off ds e'):OpOK E (.store t x y) s h (.d .undef) (h.set b (.arr g ts (l.set i e'))):=fun o c ac h1 h2 h3 h4=>by
 subst h2;obtain ⟨blk,cap,q1,q2,q3⟩:=vr_aptr hb (hx c ac h3 h4);obtain ⟨vs,us0,r1,r2,r3,r4,r5⟩:=h3.elem hb q1 he;obtain ⟨us,hus,hul⟩:=hv c _ (hy c ac h3 h4);have hlen:us.length=ds.length:=by rw [← hul.1]; simp
 obtain ⟨p1,p2,p3⟩:=hp;have hone:∀ u∈us,u.oneCell'=true:=fun u hu=>by
  obtain ⟨j,hj,rfl⟩:=List.getElem_of_mem hu;have hjl:j<(ds.map AV.d).length:=by rw [hul.1]; exact hj
  exact vr_one (hul.2 j _ us[j] (List.getElem?_eq_getElem hjl) (by simp [hj])) (List.all_eq_true.1 hscal _ (List.getElem_mem hjl))
 have hrun:=run_storeAt (P:=E.P) (w:=c.w) (b:=blk) (o:=i*ts.2+off) (hE.types t ti hti) hus (by omega) r1 (by omega) hone
 obtain ⟨w1,w2⟩:=h3.writeArr (i:=i) (off:=off) (e':=e') (us:=us) hb q1 r1 he (by omega) (by omega) hone (fun j x hx=>by
  rcases p3 j x hx with ⟨k1,k2⟩ | ⟨k1,k2⟩
  ·have hlt:=lt_of_getElem? k2;exact .inl ⟨k1,us[j - off]'(by omega),by simp [show j - off<us.length by omega],hul.ofMapD (j - off) x _ k2 (by simp [show j - off<us.length by omega])⟩
  ·exact .inr ⟨by omega,k2⟩)
 refine ⟨_,Go.undef,.inr ⟨?_,rfl⟩,rfl,w1,.d _ _ .undef,w2⟩;simp only [execOp,h1,q2,Sem.run_bind,hrun,Result.andThen_ok,Sem.run_pure]
theorem sideK_sound (hE:E.OK) {o:Op} {stop:Prop} {k:AV→List Box→Prop} (H:sideK E.T E.G o s h stop k):stop∨∃ v h',k v h'∧OpOK E o s h v h':=by
 unfold sideK at H;split at H
 ·
  rcases getK_or H with h | ⟨ti,hti,H⟩
  ·exact .inl h
  rcases evalK_sound H with h | ⟨a,ha,H⟩
  ·exact .inl h
  rcases evalK_sound H with h | ⟨b,hb,H⟩
  ·exact .inl h
  split at H
  ·split at H
   ·rename_i e hk;rcases getK_or H with h | ⟨ei,hei,H⟩
    ·exact .inl h
    split at H
    ·split at H
     ·rename_i q;obtain ⟨y,h0,h1,h2,H⟩:=elemP_elim H;exact .inr ⟨_,_,H,ok_indexSl hE hti hei hk ha hb (blt_pos q) h0 h1 h2⟩
     ·exact .inl H
    ·rcases getK_or H with h | ⟨bx,hbx,H⟩
     ·exact .inl h
     split at H
     ·split at H
      ·rename_i q1 q2;have:=Nat.eq_of_beq_eq_true q1;subst this;obtain ⟨⟨h0,h1⟩,H⟩:=need_elim H;exact .inr ⟨_,_,H,ok_indexOwn hE hti hei hk hbx (Nat.eq_of_beq_eq_true q2) ha hb h0 h1⟩
      ·exact .inl H
     ·exact .inl H
    ·exact .inl H
   ·rename_i len e hk;rcases getK_or H with h | ⟨ei,hei,H⟩
    ·exact .inl h
    split at H
    ·obtain ⟨y,h0,h1,h2,h3,h4,H⟩:=cellP_elim H;exact .inr ⟨_,_,H,ok_indexArr hE hti hei hk ha hb h0 h1 h2 h3 h4⟩
    ·exact .inl H
   ·exact .inl H
  ·exact .inl H
 ·
  rcases getK_or H with h | ⟨ti,hti,H⟩
  ·exact .inl h
  rcases evalK_sound H with h | ⟨a,ha,H⟩
  ·exact .inl h
  rcases evalK_sound H with h | ⟨b,hb,H⟩
  ·exact .inl h
  split at H
  ·split at H
   ·have hk:ti.k = .string:=by assumption
    obtain ⟨y,h0,h1,H⟩:=byteP_elim H;exact .inr ⟨_,_,H,ok_indexStr hE hti hk ha hb h0 h1⟩
   ·exact .inl H
  ·exact .inl H
 ·
  rcases getK_or H with h | ⟨ti,hti,H⟩
  ·exact .inl h
  rcases evalK_sound H with h | ⟨a,ha,H⟩
  ·exact .inl h
  rcases boundK_sound H with h | ⟨l,hl,H⟩
  ·exact .inl h
  rcases boundK_sound H with h | ⟨u,hu,H⟩
  ·exact .inl h
  split at H
  ·have hk:ti.k = .string:=by assumption
   obtain ⟨⟨h0,h1,h2⟩,H⟩:=need_elim H;exact .inr ⟨_,_,H,ok_sliceStr hE hti hk ha hl hu h0 h1 h2⟩
  ·rcases getK_or H with h | ⟨ei,hei,H⟩
   ·exact .inl h
   obtain ⟨⟨h0,h1,h2,h3⟩,H⟩:=need_elim H;exact .inr ⟨_,_,H,ok_sliceSl hE hti hei (by assumption) ha hl hu h0 h1 h2 h3⟩
  ·exact .inl H
 ·
  rcases getK_or H with h | ⟨ti,hti,H⟩
  ·exact .inl h
  rcases evalK_sound H with h | ⟨a,ha,H⟩
  ·exact .inl h
  split at H
  ·rcases getK_or H with h | ⟨bx,hbx,H⟩
   ·exact .inl h
   split at H
   ·split at H
    ·rename_i q;have:=Nat.eq_of_beq_eq_true q;subst this;obtain ⟨e,h0,h1,h2,H⟩:=elemP_elim H;rw [Int.toNat_natCast] at h1;split at H
     ·rw [mapK_eq] at H;rcases ok_loadArr hE hti hbx ha h1 rfl H with h | ⟨v,H,hv⟩
      ·exact .inl h
      ·exact .inr ⟨_,_,H,hv⟩
     ·rename_i hna;rcases ok_loadArr hE hti hbx ha h1 (by cases e <;> first | rfl | exact absurd rfl (hna _)) H with h | ⟨v,H,hv⟩
      ·exact .inl h
      ·exact .inr ⟨_,_,H,hv⟩
    ·exact .inl H
   ·exact .inl H
  ·exact .inl H
 ·
  rcases getK_or H with h | ⟨ti,hti,H⟩
  ·exact .inl h
  rcases evalK_sound H with h | ⟨v,hv,H⟩
  ·exact .inl h
  rcases evalK_sound H with h | ⟨a,ha,H⟩
  ·exact .inl h
  split at H
  ·rcases getK_or H with h | ⟨bx,hbx,H⟩
   ·exact .inl h
   split at H
   ·split at H
    ·rename_i q;have:=Nat.eq_of_beq_eq_true q;subst this;rcases cellsK_sound H with h | ⟨vs,hvs,H⟩
     ·exact .inl h
     split at H
     ·rename_i q1 q2;obtain ⟨e,h0,h1,h2,H⟩:=elemP_elim H;rw [Int.toNat_natCast] at h1;rcases putElemK_sound H with h | ⟨ds,e',rfl,H,hp⟩
      ·exact .inl h
      rw [setK_eq] at H;exact .inr ⟨_,_,H,ok_storeArr hE hti hbx ha hv hvs (by have:=Nat.eq_of_beq_eq_true q1; simpa using this) q2 h1 h2 hp⟩
     ·exact .inl H
    ·exact .inl H
   ·exact .inl H
  ·exact .inl H
 ·exact appK_sound hE H
end
end Go.Eng
end
section
namespace Go.Eng
open Go Go.RowKit
def bitI (op:BinOp) (j:IntKind) (a b:Int):Int :=
 let x:=BitVec.ofInt j.bits a
 let y:=BitVec.ofInt j.bits b
 match op with
 | .and=>j.wrap (x &&& y).toNat
 | .or=>j.wrap (x ||| y).toNat
 | .xor=>j.wrap (x ^^^ y).toNat
 |_=>j.wrap (x &&& ~~~y).toNat
def shI (op:BinOp) (j:IntKind) (a:Int) (n:Nat):Int:=match op with
 | .shl=>j.wrap (a*2 ^ min n j.bits)
 |_=>a.fdiv (2 ^ min n j.bits)
def isBits:BinOp→Bool
 | .and | .or | .xor | .andNot=>true
 |_=>false
def isShift:BinOp→Bool
 | .shl | .shr=>true
 |_=>false
def isDiv:BinOp→Bool
 | .quo | .rem=>true
 |_=>false
def divI (op:BinOp) (j:IntKind) (a b:Int):Int:=match op with
 | .quo=>j.wrap (a.tdiv b)
 |_=>a.tmod b
def mem1B (d:Nat):List Nat→Bool
 | []=>false
 |a::l=>match Nat.beq a d with
  |true=>true
  |false=>mem1B d l
theorem blt_lt {a b:Nat} (h:Nat.blt a b=true):a<b:=Nat.le_of_ble_eq_true h
theorem mem1B_spec {d:Nat}:∀ {l:List Nat},mem1B d l=true→d∈l
 | [],h=>by cases h
 |a::l,h=>by
  unfold mem1B at h;split at h
  ·rename_i q; rw [Nat.eq_of_beq_eq_true q]; exact List.mem_cons_self ..
  ·exact List.mem_cons_of_mem _ (mem1B_spec h)
section
variable {E:Env} {s:List AV} {h:List Box} {c:Cx} {G:List (Nat × DV)}
theorem ok_bits {op:BinOp} (hop:isBits op=true) {t t':TypeId} {x y:Operand} {j:IntKind} {a b:Int} (hx:EvOK E.G s x (.d (.int j a))) (hy:EvOK E.G s y (.d (.int j b))):OpOK E (.binOp op t x y t') s h (.d (.int j (bitI op j a b))) h :=
 .quiet fun o c ac h1 _ h3 h4=>by
  have e1:=vr_int (hx c ac h3 h4);have e2:=vr_int (hy c ac h3 h4);refine ⟨.int j (bitI op j a b),run_binOp h1 (by rw [e1,e2]; exact eqGuard_int ..) ?_,.d _ _ (.int _ _)⟩;rw [e1,e2];cases op <;> first | (simp only [binOp,ne_eq,not_true_eq_false,if_false,Op.intBits]; rfl) | cases hop
theorem ok_shift {op:BinOp} (hop:isShift op=true) {t t':TypeId} {x y:Operand} {j j':IntKind} {a:Int} {b:Int} (hb:0≤b) (hx:EvOK E.G s x (.d (.int j a))) (hy:EvOK E.G s y (.d (.int j' b))):OpOK E (.binOp op t x y t') s h (.d (.int j (shI op j a b.toNat))) h :=
 .quiet fun o c ac h1 _ h3 h4=>by
  have e1:=vr_int (hx c ac h3 h4);have e2:=vr_int (hy c ac h3 h4);refine ⟨.int j (shI op j a b.toNat),run_binOp h1 (by rw [e1,e2]; exact eqGuard_int ..) ?_,.d _ _ (.int _ _)⟩;rw [e1,e2];have hn:¬ (b<0):=by omega
  cases op <;> first | (simp only [binOp,Op.shift,hn,if_false]; rfl) | cases hop
def eqD1K {α:Sort _} (kd:TK) (a b:DV) (stop:α) (k:Bool→α):α :=
 match kd,a,b with
 | .int _,.int j m,.int j' n=>match IntKind.same j j' with
  |true=>k (m==n)
  |false=>stop
 | .string,.str m,.str n=>k (m==n)
 | .bool,.bool m,.bool n=>k (m==n)
 |_,_,_=>stop
def eqFieldsK {α:Sort _} (T:List TInfo):Nat→List (Nat × Nat)→List DV→List DV→(stop:α)→(Bool→α)→α
 |_,[],[],[],_,k=>k true
 |n,f::fs,a::l,b::m,stop,k=>match Nat.beq f.1 n with
  |true=>getK T f.2 stop fun i=>eqD1K i.k a b stop fun p=>eqFieldsK T (n+1) fs l m stop fun q=>k (p&&q)
  |false=>stop
 |_,_,_,_,stop,_=>stop
theorem eqD1K_or {kd:TK} {a b:DV} {stop:Prop} {k:Bool→Prop} (H:eqD1K kd a b stop k):stop∨∃ p,k p:=by
 unfold eqD1K at H;split at H
 ·split at H
  ·exact .inr ⟨_,H⟩
  ·exact .inl H
 ·exact .inr ⟨_,H⟩
 ·exact .inr ⟨_,H⟩
 ·exact .inl H
theorem eqFieldsK_or {T:List TInfo} {stop:Prop}:∀ {n:Nat} {fs:List (Nat × Nat)} {l m:List DV} {k:Bool→Prop},eqFieldsK T n fs l m stop k→stop∨∃ p,k p
 |_,[],[],[],_,H => .inr ⟨_,H⟩
 |_,[],[],_::_,_,H => .inl H
 |_,[],_::_,_,_,H => .inl H
 |_,_::_,[],_,_,H => .inl H
 |_,_::_,_::_,[],_,H => .inl H
 |n,f::fs,a::l,b::m,k,H=>by
  simp only [eqFieldsK] at H;split at H
  ·rcases getK_or H with H | ⟨i,-,H⟩
   ·exact .inl H
   rcases eqD1K_or H with H | ⟨p,H⟩
   ·exact .inl H
   rcases eqFieldsK_or H with H | ⟨q,H⟩
   ·exact .inl H
   ·exact .inr ⟨_,H⟩
  ·exact .inl H
theorem eqD1K_sound {P:Program} {ft:Nat} {i:TInfo} (ht:tinfo P ft=some i) {a b:DV} {stop:Prop} {k:Bool→Prop} (H:eqD1K i.k a b stop k):stop∨∃ p,k p∧i.k.agg=false ∧
  ∀ (bad:Nat→Prop) (w w':World) (u v:Value) (d:Nat),VD bad w a u→VD bad w b v→(Op.equalIn (d+1) ft u v).run P w' = .ok p w':=by
 obtain ⟨ti,td,g1,g2,g3,-⟩:=tinfo_inv ht;unfold eqD1K at H;split at H
 ·rename_i hk;split at H
  ·rename_i hs;obtain rfl:=same_eq hs;refine .inr ⟨_,H,by rw [hk]; rfl,fun bad w w' u v d hu hv=>?_⟩;cases hu; cases hv;obtain rfl:=tk_int (hk.symm.trans g3);exact run_equalIn_int w' d ft _ _ _ _ g2
  ·exact .inl H
 ·rename_i hk;refine .inr ⟨_,H,by rw [hk]; rfl,fun bad w w' u v d hu hv=>?_⟩;cases hu; cases hv;obtain rfl:=tk_string (hk.symm.trans g3);rw [run_equalIn_string w' d ft _ _ g2];simp
 ·rename_i hk;refine .inr ⟨_,H,by rw [hk]; rfl,fun bad w w' u v d hu hv=>?_⟩;cases hu; cases hv;have:td = .bool:=by rw [hk] at g3; cases td <;> first | rfl | cases g3
  subst this;exact run_equalIn_bool' w' _ ft _ _ g2
 ·exact .inl H
theorem eqFieldsK_sound {P : Program} {T : List TInfo} (hT : ∀ (t : Nat) (i : TInfo), T[t]? = some i → tinfo P t = some i) {stop : Prop} : ∀ {n : Nat} {fl : List Field} {l m : List DV} {k : Bool → Prop}, eqFieldsK T n (fl.map fun f => (f.offset, f.type)) l m stop k → (∀ f ∈ fl, f.name ≠ "_") → stop ∨ ∃ p, k p ∧
  ∀ (bad:Nat→Prop) (w w':World) (xs ys:List Value) (d:Nat),(∀ (j:Nat) (x:DV),l[j]? = some x→∃ u,xs[n+j]? = some u∧VD bad w x u)→(∀ (j:Nat) (x:DV),m[j]? = some x→∃ u,ys[n+j]? = some u∧VD bad w x u)→(Op.eqFields (d+1) xs.toArray ys.toArray fl).run P w' = .ok p w':=by
 intro n fl
 induction fl generalizing n with
 |nil =>
  intro l m k H _;cases l with
  |nil=>cases m with
   |nil=>exact .inr ⟨true,H,fun bad w w' xs ys d _ _=>by simp only [Op.eqFields,Sem.run_pure]⟩
   |cons b m=>exact .inl H
  |cons a l=>exact .inl H
 |cons f fl ih =>
  intro l m k H hn;cases l with
  |nil=>exact .inl H
  |cons a l=>cases m with
   |nil=>exact .inl H
   |cons b m =>
    simp only [List.map_cons,eqFieldsK] at H;split at H
    ·rename_i q;have q:=Nat.eq_of_beq_eq_true q;rcases getK_or H with H | ⟨i,hi,H⟩
     ·exact .inl H
     rcases eqD1K_sound (hT _ i hi) H with H | ⟨p,H,hagg,hp⟩
     ·exact .inl H
     rcases ih H (fun g hg=>hn g (List.mem_cons_of_mem _ hg)) with H | ⟨p',H,hp'⟩
     ·exact .inl H
     refine .inr ⟨p&&p',H,fun bad w w' xs ys d hx hy=>?_⟩;obtain ⟨u,u1,u2⟩:=hx 0 a rfl;obtain ⟨v,v1,v2⟩:=hy 0 b rfl;rw [Nat.add_zero] at u1 v1;have hname:=hn f (List.mem_cons_self ..);simp only [Op.eqFields,ne_eq,hname,not_false_eq_true,if_true,Sem.run_bind];rw [q,run_part1 (hT _ i hi) w' xs n u u1 hagg,Result.andThen_ok,run_part1 (hT _ i hi) w' ys n v v1 hagg,Result.andThen_ok,hp bad w w' u v d u2 v2,Result.andThen_ok];cases p with
     |false=>simp
     |true =>
      simp only [Bool.not_true,Bool.false_eq_true,if_false,Bool.true_and];exact hp' bad w w' xs ys d (fun j x hj=>by rw [show n+1+j=n+(j+1) by omega]; exact hx (j+1) x (by simpa using hj)) (fun j x hj=>by rw [show n+1+j=n+(j+1) by omega]; exact hy (j+1) x (by simpa using hj))
    ·exact .inl H
theorem ok_eqStruct (hE:E.OK) {op:BinOp} {t:Nat} {t':TypeId} {x y:Operand} {i:TInfo} (hi:E.T[t]? = some i) (hQ:t∈E.Q) {fs:List (Nat × Nat)} (hk:i.k = .struct fs) {l m:List DV} (hx:EvOK E.G s x (.d (.agg l))) (hy:EvOK E.G s y (.d (.agg m))) {stop:Prop} {k:Bool→Prop} (H:eqFieldsK E.T 0 fs l m stop k) :
  stop∨∃ p,k p∧(op = .eql→∀ h,OpOK E (.binOp op t x y t') s h (.d (.bool p)) h)∧(op = .neq→∀ h,OpOK E (.binOp op t x y t') s h (.d (.bool !p)) h):=by
 obtain ⟨ti,d,g1,g2,g3,-⟩:=tinfo_inv (hE.types t i hi);obtain ⟨fl,rfl,rfl⟩:=tk_struct (hk.symm.trans g3);have hq:=hE.eqs t hQ;simp only [eqType,g2,Bool.and_eq_true,Bool.not_eq_true',List.all_eq_true,bne_iff_ne,ne_eq] at hq;obtain ⟨⟨q1,q2⟩,q3⟩:=hq;rcases eqFieldsK_sound hE.types H q3 with h | ⟨p,H,hp⟩
 ·exact .inl h
 have hfs:E.P.fieldsOf t=fl:=by simp [Program.fieldsOf,g2]
 have val:∀ (c:Cx) (ac:Act),HOk E.G c→VS c s ac.tmps→∃ xs ys:List Value,ac.eval x = .agg xs.toArray∧ac.eval y = .agg ys.toArray∧(Op.equalIn 10000 t (.agg xs.toArray) (.agg ys.toArray)).run E.P c.w = .ok p c.w:=by
  intro c ac h3 h4;have hx':=hx c ac h3 h4;have hy':=hy c ac h3 h4;generalize ac.eval x=u at hx';generalize ac.eval y=v at hy';cases hx' with
  |d _ _ hx'=>cases hx' with
   |agg _ xs x1 x2=>cases hy' with
    |d _ _ hy'=>cases hy' with
     |agg _ ys y1 y2 =>
      refine ⟨xs.toList,ys.toList,by simp,by simp,?_⟩;rw [run_equalIn_struct c.w 9999 t _ _ (by rw [hfs]; exact g2) q1,hfs];refine hp c.bad c.w c.w xs.toList ys.toList 9998 (fun j z hz=>?_) (fun j z hz=>?_)
      ·have hj:=lt_of_getElem? hz;rw [x1] at hj;exact ⟨xs[j],by simp [hj],x2 j z _ hz (by simp [hj])⟩
      ·have hj:=lt_of_getElem? hz;rw [y1] at hj;exact ⟨ys[j],by simp [hj],y2 j z _ hz (by simp [hj])⟩
 have guard:∀ (op:BinOp) (xs ys:Array Value) (w:World),(eqGuard op t x y (.agg xs) (.agg ys)).run E.P w = .ok () w:=fun op xs ys w=>run_eqGuard_agg w op t x y xs ys q2;refine .inr ⟨p,H,fun e h=>?_,fun e h=>?_⟩
 ·subst e;refine .quiet fun o c ac h1 _ h3 h4=>⟨.bool p,?_,.d _ _ (.bool _)⟩;obtain ⟨xs,ys,e1,e2,e3⟩:=val c ac h3 h4;simp only [execOp,h1,e1,e2,Sem.run_bind,guard,Result.andThen_ok,run_eql_struct,e3,Sem.run_pure]
 ·subst e;refine .quiet fun o c ac h1 _ h3 h4=>⟨.bool !p,?_,.d _ _ (.bool _)⟩;obtain ⟨xs,ys,e1,e2,e3⟩:=val c ac h3 h4;simp only [execOp,h1,e1,e2,Sem.run_bind,guard,Result.andThen_ok,run_neq_struct,e3,Sem.run_pure]
theorem ok_textBytes (hE:E.OK) {t0 t e:Nat} {x:Operand} {i0 i ei:TInfo} (hi0:E.T[t0]? = some i0) (hi:E.T[t]? = some i) (hei:E.T[e]? = some ei) (hk:i.k = .slice e) (hke:ei.k = .int .u8) {l:List UInt8} (hx:EvOK E.G s x (.d (.str l))) :
  OpOK E (.convert t0 t x) s h (.d (.sl (l.map byteD))) h:=fun o c ac h1 h2 h3 h4=>by
 obtain ⟨ti0,d0,k1,k2,-⟩:=tinfo_inv (hE.types t0 i0 hi0);obtain ⟨ti,d,g1,g2,g3,-⟩:=tinfo_inv (hE.types t i hi);obtain rfl:=tk_slice (hk.symm.trans g3);obtain ⟨tie,de,q1,q2,q3,-⟩:=tinfo_inv (hE.types e ei hei);obtain rfl:=tk_int (hke.symm.trans q3);have ex:=vr_str (hx c ac h3 h4);have hrun:=Lib.run_convert_string_bytes (P:=E.P) c.w t0 t e ⟨l.toArray⟩ k2 g2 q2;have hext:Proofs.YthikfaephakahaaGreatDoor.Ext c.w (Lib.bytesWorld c.w e ⟨l.toArray⟩):=⟨rfl,rfl,rfl,by rw [Lib.bytesWorld_size]; omega,fun b hb=>Lib.bytesWorld_at_old c.w e _ b hb⟩;obtain ⟨r1,r2⟩:=h3.grow hext;refine ⟨c.inW (Lib.bytesWorld c.w e ⟨l.toArray⟩),_,.inl (by simp only [execOp,h1,ex,Sem.run_bind,hrun,Result.andThen_ok,Sem.run_pure]; rfl),h2,r1,.d _ _ ?_,r2⟩;have hsz:(ByteArray.mk l.toArray).size=(l.map byteD).length:=by simp [ByteArray.size]
 rw [hsz];have hcell:∀ (j:Nat) (b:UInt8),l[j]? = some b→(Lib.bytesWorld c.w e ⟨l.toArray⟩).cell? ⟨c.w.heap.size,0+(j*1+0),none⟩=some (.int .u8 b.toNat):=fun j b hb=>by
  have hj:=lt_of_getElem? hb;rw [show 0+(j*1+0)=j by omega,Lib.bytesWorld_cell c.w e _ j (by simp [ByteArray.size]; exact hj)];simp [List.getD,hb]
 have key:∀ (i j:Nat) (a y:DV),(l.map byteD)[i]? = some a→a.cells[j]? = some y→∃ b,l[i]? = some b∧j=0∧y = .int .u8 b.toNat:=fun i j a y ha hy=>by
  rw [List.getElem?_map] at ha;cases hb:l[i]? with
  |none=>rw [hb] at ha; cases ha
  |some b =>
   rw [hb] at ha;cases ha;simp only [byteD,DV.cells] at hy;cases j with
   |zero=>simp at hy; exact ⟨b,rfl,rfl,hy.symm⟩
   |succ j=>simp at hy
 refine .sl _ c.w.heap.size 0 _ 1 (fun i _ => .int .u8 (l.getD i 0).toNat) (fun _ hb=>?_) (by omega) ?_ (fun i a ha=>?_) (fun i j a y ha hy=>?_) (fun i j a y ha hy=>?_) (fun i j a y ha hy=>rfl)
 ·rcases hb with hb | ⟨i,n,hi⟩
  ·have:=h3.barlt _ hb; omega
  ·have:=(h3.ownlt i _ n hi).1; omega
 ·rw [List.length_map];have:=grownCap_ge c.w l.length 0 e
  simpa [ByteArray.size] using this
 ·rw [List.getElem?_map] at ha;cases hb:l[i]? with
  |none=>rw [hb] at ha; cases ha
  |some b=>rw [hb] at ha; cases ha; rfl
 ·obtain ⟨b,hb,rfl,rfl⟩:=key i j a y ha hy;refine (hcell i b hb).trans ?_;simp [List.getD,hb]
 ·obtain ⟨b,hb,rfl,rfl⟩:=key i j a y ha hy;simp only [List.getD,hb,Option.getD_some];exact .int _ _
theorem ok_divs {op:BinOp} (hop:isDiv op=true) {t t':TypeId} {x y:Operand} {j:IntKind} {a b:Int} (hb:b≠0) (hx:EvOK E.G s x (.d (.int j a))) (hy:EvOK E.G s y (.d (.int j b))):OpOK E (.binOp op t x y t') s h (.d (.int j (divI op j a b))) h :=
 .quiet fun o c ac h1 _ h3 h4=>by
  have e1:=vr_int (hx c ac h3 h4);have e2:=vr_int (hy c ac h3 h4);refine ⟨.int j (divI op j a b),run_binOp h1 (by rw [e1,e2]; exact eqGuard_int ..) ?_,.d _ _ (.int _ _)⟩;rw [e1,e2];cases op <;> first | (simp only [binOp,ne_eq,not_true_eq_false,if_false,Op.intDiv,hb]; rfl) | cases hop
theorem ok_concat {t t':TypeId} {x y:Operand} {a b:List UInt8} (hl:a.length+b.length≤9223372036854775807) (hx:EvOK E.G s x (.d (.str a))) (hy:EvOK E.G s y (.d (.str b))):OpOK E (.binOp .add t x y t') s h (.d (.str (a++b))) h :=
 .quiet fun o c ac h1 _ h3 h4=>by
  have e1:=vr_str (hx c ac h3 h4);have e2:=vr_str (hy c ac h3 h4);have e:(⟨a.toArray⟩:ByteArray)++⟨b.toArray⟩=⟨(a++b).toArray⟩:=by
   apply ByteArray.ext;simp
  refine ⟨.string ⟨(a++b).toArray⟩,run_binOp h1 (by rw [e1,e2]; rfl) ?_,.d _ _ (.str _)⟩;rw [e1,e2];have hn:¬ (((ByteArray.mk a.toArray).size+(ByteArray.mk b.toArray).size:Nat):Int)>IntKind.i64.max:=by
   simp [ByteArray.size,IntKind.max,IntKind.bits,IntKind.signed];omega
  simp only [binOp,Op.stringOp,hn,if_false,e];rfl
def plainSK (E:Env) (o:Op) (s:List AV) (stop:Prop) (k:AV→Prop):Prop :=
 match o with
 | .binOp op t x y _=>getK E.T t stop fun i=>evalK E.G s x stop fun a=>evalK E.G s y stop fun b =>
  match a,b with
  | .d (.int j m),.d (.int j' n)=>match isBits op with
   |true=>match IntKind.same j j' with
    |true=>k (.d (.int j (bitI op j m n)))
    |false=>stop
   |false=>stop
  | .d (.agg l),.d (.agg m)=>match i.k,mem1B t E.Q with
   | .struct fs,true=>eqFieldsK E.T 0 fs l m stop fun p=>match op with
    | .eql=>k (.d (.bool p))
    | .neq=>k (.d (.bool !p))
    |_=>stop
   |_,_=>stop
  |_,_=>stop
 | .convert t0 t x=>getK E.T t0 stop fun _=>getK E.T t stop fun i=>evalK E.G s x stop fun v=>match i.k,v with
  | .slice e,.d (.str l)=>getK E.T e stop fun ei=>match ei.k with
   | .int .u8=>k (.d (.sl (l.map byteD)))
   |_=>stop
  |_,_=>stop
 |_=>stop
theorem plainSK_sound (hE:E.OK) {o:Op} {stop:Prop} {k:AV→Prop} (H:plainSK E o s stop k):stop∨∃ v,k v∧∀ h,OpOK E o s h v h:=by
 unfold plainSK at H;split at H
 ·rename_i op t x y t';rcases getK_or H with h | ⟨i,hi,H⟩
  ·exact .inl h
  rcases evalK_sound H with h | ⟨a,ha,H⟩
  ·exact .inl h
  rcases evalK_sound H with h | ⟨b,hb,H⟩
  ·exact .inl h
  split at H
  ·split at H
   ·rename_i q;split at H
    ·rename_i p;obtain rfl:=same_eq p;exact .inr ⟨_,H,fun h=>ok_bits q ha hb⟩
    ·exact .inl H
   ·exact .inl H
  ·split at H
   ·rename_i fs hk hq;by_cases he:op = .eql
    ·subst he;rcases ok_eqStruct (op := .eql) (t':=t') (s:=s) hE hi (mem1B_spec hq) hk ha hb H with h | ⟨p,H,h1,-⟩
     ·exact .inl h
     ·exact .inr ⟨_,H,fun h=>h1 rfl h⟩
    ·by_cases he':op = .neq
     ·subst he';rcases ok_eqStruct (op := .neq) (t':=t') (s:=s) hE hi (mem1B_spec hq) hk ha hb H with h | ⟨p,H,-,h1⟩
      ·exact .inl h
      ·exact .inr ⟨_,H,fun h=>h1 rfl h⟩
     ·refine .inl ?_;rcases eqFieldsK_or H with h | ⟨p,h⟩
      ·exact h
      ·split at h
       ·exact absurd rfl he
       ·exact absurd rfl he'
       ·exact h
   ·exact .inl H
  ·exact .inl H
 ·rename_i t0 t x;rcases getK_or H with h | ⟨i0,hi0,H⟩
  ·exact .inl h
  rcases getK_or H with h | ⟨i,hi,H⟩
  ·exact .inl h
  rcases evalK_sound H with h | ⟨v,hv,H⟩
  ·exact .inl h
  split at H
  ·rename_i e l hk;rcases getK_or H with h | ⟨ei,hei,H⟩
   ·exact .inl h
   split at H
   ·rename_i hke;exact .inr ⟨_,H,fun h=>ok_textBytes hE hi0 hi hei hk hke hv⟩
   ·exact .inl H
  ·exact .inl H
 ·exact .inl H
def stillK (E:Env) (o:Op) (s:List AV) (stop:Prop) (k:AV→Prop):Prop :=
 match o with
 | .binOp op _ x y _=>evalK E.G s x stop fun a=>evalK E.G s y stop fun b =>
  match a,b with
  | .d (.int j m),.d (.int j' n)=>match isShift op with
   |true=>need (0≤n) (k (.d (.int j (shI op j m n.toNat))))
   |false=>match isDiv op,IntKind.same j j' with
    |true,true=>need (n≠0) (k (.d (.int j (divI op j m n))))
    |_,_=>stop
  | .d (.str l),.d (.str m)=>match op with
   | .add=>need (l.length+m.length≤9223372036854775807) (k (.d (.str (l++m))))
   |_=>stop
  |_,_=>stop
 |_=>stop
theorem stillK_sound {o:Op} {stop:Prop} {k:AV→Prop} (H:stillK E o s stop k):stop∨∃ v,k v∧∀ h,OpOK E o s h v h:=by
 unfold stillK at H;split at H
 ·rename_i op t x y t';rcases evalK_sound H with h | ⟨a,ha,H⟩
  ·exact .inl h
  rcases evalK_sound H with h | ⟨b,hb,H⟩
  ·exact .inl h
  split at H
  ·split at H
   ·rename_i q;obtain ⟨h0,H⟩:=need_elim H;exact .inr ⟨_,H,fun h=>ok_shift q h0 ha hb⟩
   ·split at H
    ·rename_i q p;obtain rfl:=same_eq p;obtain ⟨h0,H⟩:=need_elim H;exact .inr ⟨_,H,fun h=>ok_divs q h0 ha hb⟩
    ·exact .inl H
  ·split at H
   ·obtain ⟨h0,H⟩:=need_elim H;exact .inr ⟨_,H,fun h=>ok_concat h0 ha hb⟩
   ·exact .inl H
  ·exact .inl H
 ·exact .inl H
theorem ok_indexVar (hE:E.OK) {t e len:Nat} {x i:Operand} {ti ei:TInfo} (hti:E.T[t]? = some ti) (hei:E.T[e]? = some ei) (hk:ti.k = .array len e) {b off:Nat} {cs:List AV} (hb:h[b]? = some (.cells cs)) {j:IntKind} {m:Nat} (hx:EvOK E.G s x (.ptr b off)) (hi:EvOK E.G s i (.d (.int j (.ofNat m)))) (h1:m<len) :
  OpOK E (.indexAddr t x i) s h (.ptr b (off+m*ei.size)) h := .quiet fun o c ac e1 e2 h3 h4=>by
 subst e2;obtain ⟨tyi,d,g1,g2,g3,-⟩:=tinfo_inv (hE.types t ti hti);obtain rfl:=tk_array (hk.symm.trans g3);have key:∀ p,VR c (.ptr b off) p→∃ blk,p = .pointer (some ⟨blk,off,none⟩)∧VR c (.ptr b (off+m*ei.size)) (.pointer (some ⟨blk,off+m*ei.size,none⟩)):=fun p hp=>by
  cases hp with
  |ptr _ _ cs' blk cap k1 k2=>exact ⟨blk,rfl,.ptr _ _ cs' blk cap k1 k2⟩
  |ptrgone _ _ _ k1 _=>rw [hb] at k1; cases k1
 obtain ⟨blk,q1,q2⟩:=key _ (hx c ac h3 h4);refine ⟨_,run_execIndexAddr e1 ?_,q2⟩;rw [q1,vr_int (hi c ac h3 h4)];have h0:(0:Int)≤Int.ofNat m:=Int.natCast_nonneg m;have h1':Int.ofNat m<(len:Int):=by simpa using h1
 simp only [Instr.indexAt,asIntOf,Sem.run_bind,Sem.run_pure,Result.andThen_ok,run_underlying g2,Instr.sureAddr,h0,h1',and_self,if_true,run_sizeOf (hE.types e ei hei),add_at];rfl
theorem ok_sliceVar (hE:E.OK) {t e len:Nat} {x:Operand} {ti ei:TInfo} (hti:E.T[t]? = some ti) (hei:E.T[e]? = some ei) (hk:ti.k = .array len e) (hpos:0<len) {b:Nat} {ds:List DV} (hb:h[b]? = some (.cells (ds.map .d))) (hlen:ds.length=len) (hsc:ds.all DV.scal=true) (hx:EvOK E.G s x (.ptr b 0)) :
  OpOK E (.slice t x none none none) s h (.d (.sl ds)) (h.set b .gone):=fun o c ac h1 h2 h3 h4=>by
 subst h2;obtain ⟨tyi,d,g1,g2,g3,-⟩:=tinfo_inv (hE.types t ti hti);obtain rfl:=tk_array (hk.symm.trans g3);have hbl:=lt_of_getElem? hb;have key:∀ p,VR c (.ptr b 0) p→∃ blk cap,p = .pointer (some ⟨blk,0,none⟩)∧c.own b=some (blk,cap):=fun p hp=>by
  cases hp with
  |ptr _ _ cs' blk cap k1 k2=>exact ⟨blk,cap,rfl,k2⟩
  |ptrgone _ _ _ k1 _=>rw [hb] at k1; cases k1
 obtain ⟨blk,cap,q1,q2⟩:=key _ (hx c ac h3 h4);obtain ⟨blk',cap',vs,ty,p1,p2,p3⟩:=h3.cells hb;rw [q2] at p1; cases p1
 let c':Cx:={ c with own:=fun i=>if i=b then none else c.own i,heap:=c.heap.set b .gone }
 have hgone:c'.heap[b]? = some .gone:=by show (c.heap.set b .gone)[b]? = _; rw [List.getElem?_set_self hbl]
 have hother:∀ i,i≠b→c'.heap[i]? = c.heap[i]? := fun i hi=>by show (c.heap.set b .gone)[i]? = _; rw [List.getElem?_set_ne (Ne.symm hi)]
 have hown:∀ i,i≠b→c'.own i=c.own i:=fun i hi=>by simp only [c',if_neg hi]
 have hownle:∀ i p,c'.own i=some p→i≠b∧c.own i=some p:=fun i p hp=>by
  simp only [c'] at hp;split at hp
  ·cases hp
  ·rename_i q; exact ⟨q,hp⟩
 have hst:Step c c':=⟨rfl,h3.barlt,rfl,rfl,rfl,Nat.le_refl _,fun _ _ _=>rfl,fun i x n hi _=>⟨n,(hownle i _ hi).2⟩,fun i bx hi=>by
  by_cases hib:i=b
  ·subst hib;cases bx with
   |cells cs=>exact .inr hgone
   |arr g sz l=>exact .inr hgone
   |map es=>exact .inr hgone
   |gone=>exact hgone
  ·rw [← hother i hib] at hi;cases bx with
   |cells cs=>exact .inl ⟨cs,hi,hown i hib,rfl⟩
   |arr g sz l=>exact .inl ⟨g,l,hi,.inr ⟨rfl,rfl,hown i hib⟩⟩
   |map es=>exact .inl ⟨es,hi,hown i hib⟩
   |gone=>exact hi⟩
 have hok:HOk E.G c':=by
  refine h3.next hst (fun i x n hi=>?_) (fun i j x n m hi hj=>h3.inj i j x n m (hownle i _ hi).2 (hownle j _ hj).2) (fun i bx hi=>?_)
  ·have:=h3.ownlt i x n (hownle i _ hi).2;refine ⟨this.1,?_⟩;show i<(c.heap.set b .gone).length;rw [List.length_set];exact this.2
  ·by_cases hib:i=b
   ·subst hib;rw [hgone] at hi;cases hi;right;show c'.own i=none;simp [c']
   ·rw [hother i hib] at hi;exact .inl ⟨hi,hown i hib,fun _ _ _=>rfl⟩
 have hval:∀ (j:Nat) (y:DV),ds[j]? = some y→∃ v,vs[j]? = some v∧v.oneCell'=true∧VD c.bad c.w y v:=fun j y hy=>by
  have hj:=lt_of_getElem? hy;have hl:=p3.1;simp at hl;have hv:vs.toList[j]? = some vs[j]:=by simp
  have:=p3.2 j (.d y) _ (by simp [hy]) hv;cases this with
  |d _ _ hd=>exact ⟨_,by simp,vd_one hd (List.all_eq_true.1 hsc y (List.mem_of_getElem? hy)),hd⟩
 refine ⟨c',.slice (some ⟨blk,0,none⟩) ds.length ds.length,.inl ?_,rfl,hok,.d _ _ ?_,hst⟩
 ·have hb0:(Instr.sliceBounds false len len none none none).run E.P c.w = .ok (0,len,len) c.w:=rfl;have hne:¬ (len=0):=by omega
  simp only [execOp,h1,q1,Instr.sliceAt,Sem.run_bind,Sem.run_pure,Result.andThen_ok,run_underlying g2,Instr.sureAddr,Option.map_none,hb0,run_sizeOf (hE.types e ei hei),hne,if_false,Nat.zero_mul,add_at,Nat.sub_zero,hlen];rfl
 ·have one:∀ (i j:Nat) (y z:DV),ds[i]? = some y→y.cells[j]? = some z→j=0∧z=y:=fun i j y z hy hz=>by
   have:=List.all_eq_true.1 hsc y (List.mem_of_getElem? hy);have hc:y.cells=[y]:=by cases y <;> first | rfl | cases this
   rw [hc] at hz;cases j with
   |zero=>simp at hz; exact ⟨rfl,hz.symm⟩
   |succ j=>simp at hz
  refine .sl ds blk 0 ds.length 1 (fun i j=>(vs[i]?).getD undef) (fun _ hbd=>?_) (by omega) (Nat.le_refl _) (fun i y hy=>?_) (fun i j y z hy hz=>?_) (fun i j y z hy hz=>?_) (fun i j y z hy hz=>?_)
  ·rcases hbd with hbd | ⟨i,n,hi⟩
   ·exact h3.sep b blk cap q2 hbd
   ·obtain ⟨k1,k2⟩:=hownle i _ hi;exact k1 (h3.inj i b blk n cap k2 q2)
  ·have:=List.all_eq_true.1 hsc y (List.mem_of_getElem? hy);cases y <;> first | rfl | cases this
  ·obtain ⟨rfl,rfl⟩:=one i j y z hy hz;obtain ⟨v,r1,r2,r3⟩:=hval i z hy;rw [r1,Option.getD_some];have:=row_of_block p2 i v (by simpa using r1)
   simpa using this
  ·obtain ⟨rfl,rfl⟩:=one i j y z hy hz;obtain ⟨v,r1,r2,r3⟩:=hval i z hy;simp only [r1,Option.getD_some];exact hst.vd r3
  ·obtain ⟨rfl,rfl⟩:=one i j y z hy hz;obtain ⟨v,r1,r2,r3⟩:=hval i z hy;simp only [r1,Option.getD_some];exact r2
theorem ok_emptySlice (hE:E.OK) {t e:Nat} {ti ei:TInfo} (hti:E.T[t]? = some ti) (hei:E.T[e]? = some ei) (hk:ti.k = .slice e) (hpos:0<ei.size) {parts:Array (Nat × Operand)} (hp:parts.toList=[]) :
  OpOK E (.buildSlice t 0 parts) s h (.own h.length 0) (h++[.arr 0 (e,ei.size) []]):=fun o c ac h1 h2 h3 h4=>by
 subst h2;obtain ⟨tyi,d,g1,g2,g3,-⟩:=tinfo_inv (hE.types t ti hti);obtain rfl:=tk_slice (hk.symm.trans g3);obtain ⟨k1,k2⟩:=h3.add (.arr 0 (e,ei.size) []) 0 (.cells #[] e);have hown:(c.add (.arr 0 (e,ei.size) []) 0 (.cells #[] e)).own c.heap.length=some (c.w.heap.size,0):=by simp [Cx.add]
 have hheap:(c.add (.arr 0 (e,ei.size) []) 0 (.cells #[] e)).heap[c.heap.length]? = some (.arr 0 (e,ei.size) []):=by simp [Cx.add]
 refine ⟨_,.slice (some ⟨c.w.heap.size,0,none⟩) 0 0,.inl ?_,rfl,k2 ⟨hpos,fun i e he=>by simp at he,.inr ⟨c.w.heap.size,0,#[],hown,heap_alloc_new _ _,by simp,by simp,by simp,fun i j e x he=>by simp at he⟩⟩,.own c.heap.length 0 (e,ei.size) [] c.w.heap.size 0 hheap hown,k1⟩;have hp':parts = #[]:=by apply Array.ext'; simpa using hp
 subst hp';have hn:¬ ((0:Nat)>2 ^ 24):=by decide
 simp only [execOp,h1,Instr.buildSlice,Sem.run_bind,Sem.run_pure,Result.andThen_ok,run_underlying g2,run_sizeOf (hE.types e ei hei),Nat.zero_mul,Array.map_empty,hn,if_false,if_true];simp [Instr.fill,newRow,show Array.range 0 = #[] from rfl];rfl
def chgK (E:Env) (o:Op) (s:List AV) (h:List Box) (stop:Prop) (k:AV→List Box→Prop):Prop :=
 match o with
 | .indexAddr t x i=>getK E.T t stop fun ti=>match ti.k with
  | .array len e=>getK E.T e stop fun ei=>evalK E.G s x stop fun
   | .ptr b off=>getK h b stop fun
    | .cells _=>evalK E.G s i stop fun
     | .d (.int _ n)=>match n with
      | .ofNat m=>match Nat.blt m len with
       |true=>k (.ptr b (off+m*ei.size)) h
       |false=>stop
      |_=>stop
     |_=>stop
    |_=>stop
   |_=>stop
  |_=>stop
 | .slice t x none none none=>getK E.T t stop fun ti=>match ti.k with
  | .array len e=>getK E.T e stop fun _=>match Nat.blt 0 len with
   |true=>evalK E.G s x stop fun
    | .ptr b 0=>getK h b stop fun
     | .cells cs=>allDK cs stop fun ds=>match Nat.beq ds.length len,ds.all DV.scal with
      |true,true=>setK h b .gone fun h'=>k (.d (.sl ds)) h'
      |_,_=>stop
     |_=>stop
    |_=>stop
   |_=>stop
  |_=>stop
 | .buildSlice t len parts=>match len with
  | 0=>getK E.T t stop fun ti=>match ti.k with
   | .slice e=>getK E.T e stop fun ei=>match Nat.blt 0 ei.size,parts.toList with
    |true,[]=>snocK h (.arr 0 (e,ei.size) []) 0 fun h' n=>k (.own n 0) h'
    |_,_=>stop
   |_=>stop
  |_=>stop
 |_=>stop
theorem chgK_sound (hE:E.OK) {o:Op} {stop:Prop} {k:AV→List Box→Prop} (H:chgK E o s h stop k):stop∨∃ v h',k v h'∧OpOK E o s h v h':=by
 unfold chgK at H;split at H
 ·rename_i t x i;rcases getK_or H with h | ⟨ti,hti,H⟩
  ·exact .inl h
  split at H
  ·rename_i len e hk;rcases getK_or H with h | ⟨ei,hei,H⟩
   ·exact .inl h
   rcases evalK_sound H with h | ⟨a,ha,H⟩
   ·exact .inl h
   split at H
   ·rename_i b off;rcases getK_or H with h | ⟨bx,hb,H⟩
    ·exact .inl h
    split at H
    ·rcases evalK_sound H with h | ⟨n,hn,H⟩
     ·exact .inl h
     split at H
     ·split at H
      ·split at H
       ·rename_i q;exact .inr ⟨_,_,H,ok_indexVar hE hti hei hk hb ha hn (blt_lt q)⟩
       ·exact .inl H
      ·exact .inl H
     ·exact .inl H
    ·exact .inl H
   ·exact .inl H
  ·exact .inl H
 ·rename_i t x;rcases getK_or H with h | ⟨ti,hti,H⟩
  ·exact .inl h
  split at H
  ·rename_i len e hk;rcases getK_or H with h | ⟨ei,hei,H⟩
   ·exact .inl h
   split at H
   ·rename_i q2;rcases evalK_sound H with h | ⟨a,ha,H⟩
    ·exact .inl h
    split at H
    ·rename_i b;rcases getK_or H with h | ⟨bx,hb,H⟩
     ·exact .inl h
     split at H
     ·rename_i cs
      rcases allDK_cases cs stop (fun ds=>match Nat.beq ds.length len,ds.all DV.scal with
       |true,true=>setK h b .gone fun h'=>k (.d (.sl ds)) h'
       |_,_=>stop) with ⟨ds,e1,e2⟩ | e2
      ·rw [e2] at H;split at H
       ·rename_i p1 p2;rw [setK_eq] at H;subst e1;exact .inr ⟨_,_,H,ok_sliceVar hE hti hei hk (blt_lt q2) hb (Nat.eq_of_beq_eq_true p1) p2 ha⟩
       ·exact .inl H
      ·rw [e2] at H; exact .inl H
     ·exact .inl H
    ·exact .inl H
   ·exact .inl H
  ·exact .inl H
 ·rename_i t len parts;split at H
  ·rcases getK_or H with h | ⟨ti,hti,H⟩
   ·exact .inl h
   split at H
   ·rename_i e hk;rcases getK_or H with h | ⟨ei,hei,H⟩
    ·exact .inl h
    split at H
    ·rename_i q1 q2;rw [snocK_eq,Nat.zero_add] at H;exact .inr ⟨_,_,H,ok_emptySlice hE hti hei hk (blt_lt q1) q2⟩
    ·exact .inl H
   ·exact .inl H
  ·exact .inl H
 ·exact .inl H
def plainK (E:Env) (o:Op) (s:List AV) (h:List Box) (stop:Prop) (k:AV→List Box→Prop):Prop:=plainSK E o s (chgK E o s h stop k) fun v=>k v h
theorem plainK_sound (hE:E.OK) {o:Op} {stop:Prop} {k:AV→List Box→Prop} (H:plainK E o s h stop k):stop∨∃ v h',k v h'∧OpOK E o s h v h':=by
 rcases plainSK_sound hE H with H | ⟨v,H,ho⟩
 ·exact chgK_sound hE H
 ·exact .inr ⟨v,h,H,ho h⟩
end
end Go.Eng
end
section
namespace Go.Eng
open Go Go.RowKit
def fEq:DV→DV→Bool
 | .int j m,.int k n=>IntKind.same j k&&(m==n)
 | .str a,.str b=>a==b
 | .bool a,.bool b=>a==b
 |_,_=>false
def fEqs:List DV→List DV→Bool
 | [],[]=>true
 |a::l,b::m=>fEq a b&&fEqs l m
 |_,_=>false
def keyEq:DV→DV→Bool
 | .agg l,.agg m=>fEqs l m
 |a,b=>fEq a b
def findI (k:DV):List (DV × DV)→Option Nat
 | []=>none
 |p::l=>if keyEq k p.1 then some 0 else (findI k l).map (· + 1)
def findD (k:DV):List (DV × DV)→Option DV
 | []=>none
 |p::l=>if keyEq k p.1 then some p.2 else findD k l
def putD (k v:DV):List (DV × DV)→List (DV × DV)
 | []=>[(k,v)]
 |p::l=>if keyEq k p.1 then (k,v)::l else p::putD k v l
def FitF:TK→DV→Prop
 | .int j,x=>∃ n,x = .int j n
 | .string,x=>∃ s,x = .str s
 | .bool,x=>∃ b,x = .bool b
 |_,_=>False
def FitFs (T:List TInfo):Nat→List (Nat × Nat)→List DV→Prop
 |_,[],[]=>True
 |n,f::fs,a::l=>f.1=n∧(∃ i,T[f.2]? = some i∧FitF i.k a)∧FitFs T (n+1) fs l
 |_,_,_=>False
def FitK (T:List TInfo) (k:TK) (x:DV):Prop:=match k with
 | .struct fs=>∃ l,x = .agg l∧FitFs T 0 fs l
 |k=>FitF k x
def flatV:DV→Value
 | .int j n => .int j n
 | .str s => .string ⟨s.toArray⟩
 | .bool b => .bool b
 | .agg l => .agg (l.map fun
  | .int j n => .int j n
  | .str s => .string ⟨s.toArray⟩
  | .bool b => .bool b
  |_=>undef).toArray
 |_=>undef
def isFlat:DV→Prop
 | .int _ _=>True
 | .str _=>True
 | .bool _=>True
 |_=>False
theorem FitF.flat {k:TK} {x:DV} (h:FitF k x):isFlat x:=by
 cases k <;> first | (obtain ⟨_,rfl⟩:=h; trivial) | exact h.elim
theorem FitFs.flat {T:List TInfo}:∀ {n:Nat} {fs:List (Nat × Nat)} {l:List DV},FitFs T n fs l→∀ x∈l,isFlat x
 |_,[],[],_,x,hx=>by simp at hx
 |_,_::_,[],h,_,_=>h.elim
 |_,[],_::_,h,_,_=>h.elim
 |n,f::fs,a::l,h,x,hx=>by
  rcases List.mem_cons.1 hx with rfl | hx
  ·obtain ⟨-,⟨i,-,h⟩,-⟩:=h;exact h.flat
  ·exact h.2.2.flat x hx
theorem flat_one {bad:Nat→Prop} {w:World} {x:DV} {v:Value} (hf:isFlat x) (h:VD bad w x v):v=flatV x:=by
 cases x <;> first | exact hf.elim | (cases h; rfl)
theorem FitK.cases {T:List TInfo} {k:TK} {x:DV} (h:FitK T k x):isFlat x∨∃ l,x = .agg l∧∀ y∈l,isFlat y:=by
 unfold FitK at h;split at h
 ·obtain ⟨l,rfl,h⟩:=h;exact .inr ⟨l,rfl,h.flat⟩
 ·exact .inl h.flat
theorem flat_val {T:List TInfo} {k:TK} {bad:Nat→Prop} {w:World} {x:DV} {v:Value} (hf:FitK T k x) (h:VD bad w x v):v=flatV x:=by
 rcases hf.cases with hf1 | ⟨l,rfl,hf1⟩
 ·exact flat_one hf1 h
 ·cases h with
  |agg _ vs hl hv =>
   simp only [flatV]
   congr 1
   apply Array.ext
   ·simpa using hl.symm
   ·intro j h1 h2;have hj:j<l.length:=by omega
    have e:=hv j l[j] vs[j] (by simp) (by simp [h1]);have:=flat_one (hf1 _ (List.getElem_mem hj)) e;rw [this];simp only [List.getElem_toArray,List.getElem_map];have hfl:=hf1 _ (List.getElem_mem hj);generalize l[j]=y at hfl;cases y <;> first | rfl | exact hfl.elim
theorem same_self (j:IntKind):IntKind.same j j=true:=by cases j <;> rfl
theorem fEq_eq {a b:DV} (h:fEq a b=true):a=b:=by
 unfold fEq at h;split at h
 ·simp only [Bool.and_eq_true,beq_iff_eq] at h;obtain rfl:=same_eq h.1;rw [h.2]
 ·simp at h; rw [h]
 ·simp at h; rw [h]
 ·cases h
theorem fEqs_eq:∀ {a b:List DV},fEqs a b=true→a=b
 | [],[],_=>rfl
 | [],_::_,h=>by cases h
 |_::_,[],h=>by cases h
 |x::a,y::b,h=>by
  simp only [fEqs,Bool.and_eq_true] at h;rw [fEq_eq h.1,fEqs_eq h.2]
theorem keyEq_eq {a b:DV} (h:keyEq a b=true):a=b:=by
 unfold keyEq at h;split at h
 ·rw [fEqs_eq h]
 ·exact fEq_eq h
theorem ba_beq (a b:List UInt8):((⟨a.toArray⟩:ByteArray)==⟨b.toArray⟩)=(a==b):=by
 show (a.toArray==b.toArray)=_;simp
theorem zip_same {α:Type}:∀ {l:List α} {p:α × α},p∈l.zip l→p.1=p.2∧p.1∈l
 | [],p,h=>by simp at h
 |a::l,p,h=>by
  rcases List.mem_cons.1 h with rfl | h
  ·exact ⟨rfl,List.mem_cons_self ..⟩
  ·exact ⟨(zip_same h).1,List.mem_cons_of_mem _ (zip_same h).2⟩
theorem sameBits_flat (n:Nat) {x:DV} (h:isFlat x):Instr.sameBits n (flatV x) (flatV x)=true:=by
 cases x <;> first | exact h.elim | (cases n <;> simp [flatV,Instr.sameBits,ba_beq])
theorem sameBits_key {T:List TInfo} {k:TK} {x:DV} (h:FitK T k x):Instr.sameBits 10000 (flatV x) (flatV x)=true:=by
 rcases h.cases with h1 | ⟨l,rfl,h1⟩
 ·exact sameBits_flat _ h1
 ·show Instr.sameBits (9999+1) _ _=true;simp only [flatV,Instr.sameBits,beq_self_eq_true,Bool.true_and,List.all_eq_true];intro p hp;obtain ⟨e1,e2⟩:=zip_same hp;obtain ⟨p1,p2⟩:=p;simp only at e1 e2;subst e1;obtain ⟨y,hy,rfl⟩:=List.mem_map.1 e2;have:=h1 y hy;cases y <;> first | exact this.elim | simp [Instr.sameBits,ba_beq]
def EntsOK (bad:Nat→Prop) (w:World) (es:List (DV × DV)) (en:List MapEntry):Prop:=en.length=es.length∧∀ (j:Nat) (k x:DV) (m:MapEntry),es[j]? = some (k,x)→en[j]? = some m→VD bad w k m.key∧VD bad w x m.val
theorem EntsOK.cons {bad:Nat→Prop} {w:World} {p:DV × DV} {m:MapEntry} {es:List (DV × DV)} {en:List MapEntry} (h:EntsOK bad w (p::es) (m::en)):VD bad w p.1 m.key∧VD bad w p.2 m.val∧EntsOK bad w es en:=by
 obtain ⟨h1,h2⟩:=h;have:=h2 0 p.1 p.2 m rfl rfl;exact ⟨this.1,this.2,by simpa using h1,fun j k x m' hk hm=>h2 (j+1) k x m' (by simpa using hk) (by simpa using hm)⟩
theorem findI_lt {k:DV}:∀ {es:List (DV × DV)} {j:Nat},findI k es=some j→∃ p,es[j]? = some p∧keyEq k p.1=true∧findD k es=some p.2
 | [],_,h=>by cases h
 |p::es,j,h=>by
  unfold findI at h;split at h
  ·rename_i q;cases h;exact ⟨p,rfl,q,by simp [findD,q]⟩
  ·rename_i q;cases hf:findI k es with
   |none=>rw [hf] at h; cases h
   |some i =>
    rw [hf] at h;cases h;obtain ⟨p',h1,h2,h3⟩:=findI_lt hf;exact ⟨p',by simpa using h1,h2,by simp [findD,q,h3]⟩
theorem findI_none {k:DV}:∀ {es:List (DV × DV)},findI k es=none→findD k es=none
 | [],_=>rfl
 |p::es,h=>by
  unfold findI at h;split at h
  ·cases h
  ·rename_i q;cases hf:findI k es with
   |none=>simp [findD,q,findI_none hf]
   |some i=>rw [hf] at h; cases h
theorem putD_some {k v:DV}:∀ {es:List (DV × DV)} {j:Nat},findI k es=some j→putD k v es=es.set j (k,v)
 | [],_,h=>by cases h
 |p::es,j,h=>by
  unfold findI at h;split at h
  ·rename_i q;cases h;simp [putD,q]
  ·rename_i q;cases hf:findI k es with
   |none=>rw [hf] at h; cases h
   |some i =>
    rw [hf] at h;cases h;simp [putD,q,putD_some hf]
theorem putD_none {k v:DV}:∀ {es:List (DV × DV)},findI k es=none→putD k v es=es++[(k,v)]
 | [],_=>rfl
 |p::es,h=>by
  unfold findI at h;split at h
  ·cases h
  ·rename_i q;cases hf:findI k es with
   |none=>simp [putD,q,putD_none hf]
   |some i=>rw [hf] at h; cases h
theorem gotMap {P:Program} {w:World} {r:Nat} {es:Array MapEntry} {clock:Nat} (hb:w.heap[r]? = some (.map es clock)):(getObj r).run P w = .ok (.map es clock) w:=by
 simp [getObj,Sem.run,hb]
theorem setMap {P:Program} {w:World} {r:Nat} {es:Array MapEntry} {clock:Nat} (o:Obj) (hb:w.heap[r]? = some (.map es clock)):(setObj r o).run P w = .ok () { w with heap:=w.heap.setIfInBounds r o }:=by
 simp [setObj,Sem.run,hb]
theorem foundKey {P:Program} {w:World} {kt:TypeId} {d:TypeDesc} {k:Value} {l:List MapEntry} {a:Option (Nat × Value)} (hd:P.underlying kt=some d) (h:Instr.findNow d k l 0=some a):(Instr.findKey kt k l).run P w = .ok a w:=by
 simp [Instr.findKey,run_underlying hd,Result.andThen,h]
section
variable {E:Env}
def plainTK:TK→Prop
 | .int _=>True
 | .string=>True
 | .bool=>True
 |_=>False
inductive KeyT (E:Env) (t:Nat):TK→Prop
 |plain (i:TInfo) (hi:E.T[t]? = some i) (h:plainTK i.k):KeyT E t i.k
 |struct (i:TInfo) (hi:E.T[t]? = some i) (fs:List (Nat × Nat)) (hk:i.k = .struct fs) (hq:t∈E.Q):KeyT E t (.struct fs)
theorem eqFieldsK_fit {T:List TInfo}:∀ {n:Nat} {fs:List (Nat × Nat)} {l m:List DV},FitFs T n fs l→FitFs T n fs m→eqFieldsK T n fs l m False (· = fEqs l m)
 |_,[],[],[],_,_=>rfl
 |_,_::_,[],_,h,_=>h.elim
 |_,[],_::_,_,h,_=>h.elim
 |_,_::_,_::_,[],_,h=>h.elim
 |_,[],[],_::_,_,h=>h.elim
 |n,f::fs,a::l,b::m,h,h'=>by
  obtain ⟨e1,⟨i,hi,ha⟩,hl⟩:=h;obtain ⟨-,⟨i',hi',hb⟩,hm⟩:=h';rw [hi] at hi';cases hi';simp only [eqFieldsK];have:Nat.beq f.1 n=true:=by rw [e1]; exact Nat.beq_refl n
  rw [this];simp only;rw [getK_some hi];have key:∀ (K:Bool→Prop),K (fEq a b)→eqD1K i.k a b False K:=fun K hK=>by
   unfold FitF at ha hb;split at ha
   ·rename_i j hk;obtain ⟨x,rfl⟩:=ha;rw [hk] at hb ⊢;obtain ⟨y,rfl⟩:=hb;simp only [eqD1K,same_self]
    simpa [fEq,same_self] using hK
   ·rename_i hk;obtain ⟨x,rfl⟩:=ha;rw [hk] at hb ⊢;obtain ⟨y,rfl⟩:=hb;exact hK
   ·rename_i hk;obtain ⟨x,rfl⟩:=ha;rw [hk] at hb ⊢;obtain ⟨y,rfl⟩:=hb;exact hK
   ·exact ha.elim
  refine key _ ?_;have ih:=eqFieldsK_fit hl hm;have mono:∀ {n:Nat} {fs:List (Nat × Nat)} {l m:List DV} {K K':Bool→Prop},(∀ p,K p→K' p)→eqFieldsK T n fs l m False K→eqFieldsK T n fs l m False K':=by
   intro n fs
   induction fs generalizing n with
   |nil=>intro l m K K' hk H; cases l <;> cases m <;> first | exact hk _ H | exact H
   |cons f fs ihf =>
    intro l m K K' hk H;cases l with
    |nil=>exact H
    |cons a l=>cases m with
     |nil=>exact H
     |cons b m =>
      simp only [eqFieldsK] at H ⊢;split at H
      ·rcases getK_or H with H | ⟨i,hi,H⟩
       ·exact H.elim
       rw [getK_some hi];unfold eqD1K at H ⊢;split at H
       ·split at H
        ·exact ihf (fun p hp=>hk _ hp) H
        ·exact H
       ·exact ihf (fun p hp=>hk _ hp) H
       ·exact ihf (fun p hp=>hk _ hp) H
       ·exact H
      ·exact H
  refine mono (fun p hp=>?_) ih;rw [hp,fEqs]
theorem run_equal_struct (hE:E.OK) {t:Nat} {i:TInfo} (hi:E.T[t]? = some i) {fs:List (Nat × Nat)} (hk:i.k = .struct fs) (hq:t∈E.Q) {x y:DV} (hx:FitK E.T (.struct fs) x) (hy:FitK E.T (.struct fs) y) {bad:Nat→Prop} {w:World} {u v:Value} (hu:VD bad w x u) (hv:VD bad w y v) :
  (Op.equal t u v).run E.P w = .ok (keyEq x y) w:=by
 obtain ⟨l,rfl,hl⟩:=hx;obtain ⟨m,rfl,hm⟩:=hy;obtain ⟨ti,d,g1,g2,g3,-⟩:=tinfo_inv (hE.types t i hi);obtain ⟨fl,rfl,rfl⟩:=tk_struct (hk.symm.trans g3);have hq':=hE.eqs t hq;simp only [eqType,g2,Bool.and_eq_true,Bool.not_eq_true',List.all_eq_true,bne_iff_ne,ne_eq] at hq';obtain ⟨⟨q1,q2⟩,q3⟩:=hq';rcases eqFieldsK_sound hE.types (eqFieldsK_fit hl hm) q3 with h | ⟨p,rfl,hp⟩
 ·exact h.elim
 have hfs:E.P.fieldsOf t=fl:=by simp [Program.fieldsOf,g2]
 cases hu with
 |agg _ xs x1 x2=>cases hv with
  |agg _ ys y1 y2 =>
   show (Op.equalIn (9999+1) t _ _).run E.P w=_;rw [run_equalIn_struct w 9999 t _ _ (by rw [hfs]; exact g2) q1,hfs];have:=hp bad w w xs.toList ys.toList 9998 (fun j z hz=>?_) (fun j z hz=>?_)
   ·simpa [keyEq] using this
   ·have hj:=lt_of_getElem? hz;rw [x1] at hj;exact ⟨xs[j],by simp [hj],x2 j z _ hz (by simp [hj])⟩
   ·have hj:=lt_of_getElem? hz;rw [y1] at hj;exact ⟨ys[j],by simp [hj],y2 j z _ hz (by simp [hj])⟩
theorem sameNow_fit {td:TypeDesc} {k:TK} (hk:k=tk td) (hp:plainTK k) {x y:DV} (hx:FitF k x) (hy:FitF k y):Instr.sameNow td (flatV x) (flatV y)=some (keyEq x y):=by
 subst hk;cases td <;> simp only [tk,plainTK] at hp hx hy
 ·obtain ⟨a,rfl⟩:=hx; obtain ⟨b,rfl⟩:=hy; rfl
 ·obtain ⟨a,rfl⟩:=hx; obtain ⟨b,rfl⟩:=hy;simp [Instr.sameNow,flatV,keyEq,fEq,same_self]
 ·obtain ⟨a,rfl⟩:=hx; obtain ⟨b,rfl⟩:=hy;simp [Instr.sameNow,flatV,keyEq,fEq,ba_beq]
def foundV (k:DV) (es:List (DV × DV)) (en:List MapEntry) (i:Nat):Option (Nat × Value):=(findI k es).bind fun j=>(en[j]?).map fun m=>(i+j,m.val)
theorem foundV_cons {k:DV} {p:DV × DV} {m:MapEntry} {es:List (DV × DV)} {en:List MapEntry} {i:Nat}:foundV k (p::es) (m::en) i=if keyEq k p.1 then some (i,m.val) else foundV k es en (i+1):=by
 simp only [foundV,findI];split
 ·simp
 ·cases findI k es with
  |none=>rfl
  |some j =>
   simp;cases en[j]? with
   |none=>rfl
   |some m=>simp; omega
theorem run_findKey_fit (hE:E.OK) {t:Nat} {k:TK} (hT:KeyT E t k) {x:DV} (hx:FitK E.T k x) {bad:Nat→Prop} {w:World} {u:Value} (hu:VD bad w x u) {es:List (DV × DV)} {en:List MapEntry} (hes:∀ p∈es,FitK E.T k p.1) (hen:EntsOK bad w es en) :
  (Instr.findKey t u en).run E.P w = .ok (foundV x es en 0) w:=by
 cases hT with
 |plain i hi h =>
  obtain ⟨ti,d,g1,g2,g3,-⟩:=tinfo_inv (hE.types t i hi);refine foundKey g2 ?_;have hF:∀ y,FitK E.T i.k y→FitF i.k y:=fun y hy=>by
   unfold FitK at hy;split at hy
   ·rename_i q; rw [q] at h; exact h.elim
   ·exact hy
  obtain rfl:=flat_val hx hu;generalize 0=n
  induction es generalizing en n with
  |nil =>
   obtain rfl:en=[]:=List.eq_nil_of_length_eq_zero (by simpa using hen.1);rfl
  |cons p es ih=>cases en with
   |nil=>have:=hen.1; simp at this
   |cons m en =>
    obtain ⟨h1,h2,h3⟩:=hen.cons;have hp:=hes p (List.mem_cons_self ..);have e1:=flat_val hp h1;rw [foundV_cons,Instr.findNow,e1,sameNow_fit g3 h (hF _ hx) (hF _ hp)];cases keyEq x p.1 with
    |true=>rfl
    |false =>
     have ha:∀ q∈es,FitK E.T i.k q.1:=fun q hq=>hes q (List.mem_cons_of_mem _ hq);first | exact ih ha h3 (n+1) | exact ih h3 ha (n+1) | exact ih h3 (n+1) ha
 |struct i hi fs hk hq =>
  obtain ⟨ti,d,g1,g2,g3,-⟩:=tinfo_inv (hE.types t i hi);obtain ⟨fl,rfl,-⟩:=tk_struct (hk.symm.trans g3);rw [run_findKey_eq w (by rw [g2]) u en];generalize 0=n
  induction es generalizing en n with
  |nil =>
   obtain rfl:en=[]:=List.eq_nil_of_length_eq_zero (by simpa using hen.1);simp [Instr.findAsking,foundV,findI]
  |cons p es ih=>cases en with
   |nil=>have:=hen.1; simp at this
   |cons m en =>
    obtain ⟨h1,h2,h3⟩:=hen.cons;have hp:=hes p (List.mem_cons_self ..);rw [foundV_cons];simp only [Instr.findAsking,Sem.run_bind,run_equal_struct hE hi hk hq hx hp hu h1,Result.andThen_ok];cases keyEq x p.1 with
    |true=>simp
    |false =>
     simp only [Bool.false_eq_true,if_false];have ha:∀ q∈es,FitK E.T (.struct _) q.1:=fun q hq=>hes q (List.mem_cons_of_mem _ hq);first | exact ih ha h3 (n+1) | exact ih h3 ha (n+1) | exact ih h3 (n+1) ha
theorem run_checkKey_fit (hE:E.OK) {t:Nat} {k:TK} (hT:KeyT E t k) {x:DV} (hx:FitK E.T k x) {bad:Nat→Prop} {w:World} {u:Value} (hu:VD bad w x u) (em:Bool):(Instr.checkKey em 10000 t u).run E.P w = .ok () w:=by
 have one:∀ (n:Nat) (t:Nat) (i:TInfo) (hi:E.T[t]? = some i) (y:DV),FitF i.k y→(Instr.checkKey em (n+1) t (flatV y)).run E.P w = .ok () w:=fun n t i hi y hy=>by
  obtain ⟨ti,d,g1,g2,g3,-⟩:=tinfo_inv (hE.types t i hi);unfold Instr.checkKey;simp only [Sem.run_bind,run_underlying g2,Result.andThen];unfold FitF at hy;split at hy
  ·rename_i q; obtain ⟨a,rfl⟩:=hy; obtain rfl:=tk_int (q.symm.trans g3); simp [flatV]
  ·rename_i q; obtain ⟨a,rfl⟩:=hy; obtain rfl:=tk_string (q.symm.trans g3); simp [flatV]
  ·rename_i q;obtain ⟨a,rfl⟩:=hy;have:d = .bool:=by rw [q] at g3; cases d <;> first | rfl | cases g3
   subst this;simp [flatV]
  ·exact hy.elim
 obtain rfl:=flat_val hx hu;cases hT with
 |plain i hi h =>
  have hF:FitF i.k x:=by
   unfold FitK at hx;split at hx
   ·rename_i q; rw [q] at h; exact h.elim
   ·exact hx
  exact one 9999 t i hi x hF
 |struct i hi fs hk hq =>
  obtain ⟨ti,d,g1,g2,g3,-⟩:=tinfo_inv (hE.types t i hi);obtain ⟨fl,rfl,rfl⟩:=tk_struct (hk.symm.trans g3);obtain ⟨l,rfl,hl⟩:=hx;show (Instr.checkKey em (9999+1) t _).run E.P w=_;rw [Instr.checkKey];simp only [Sem.run_bind,run_underlying g2,Result.andThen_ok,flatV];rw [← Array.forIn_toList]
  generalize hcs:(l.map fun
   | .int j n=>Value.int j n
   | .str s => .string ⟨s.toArray⟩
   | .bool b => .bool b
   |_=>undef)=cs
  have hval:∀ (j:Nat) (y:DV),l[j]? = some y→cs[0+j]? = some (flatV y):=fun j y hy=>by
   rw [← hcs];have:=hl.flat y (List.mem_of_getElem? hy);simp [hy];cases y <;> first | rfl | exact this.elim
  clear hcs;have go:∀ (fl:List Field) (n:Nat) (l:List DV),FitFs E.T n (fl.map fun f=>(f.offset,f.type)) l→(∀ (j:Nat) (y:DV),l[j]? = some y→cs[n+j]? = some (flatV y)) →
    (forIn fl PUnit.unit fun f _ =>
     if f.name ≠ "_" then do
      let d ← part f.type cs.toArray f.offset
      Instr.checkKey em 9999 f.type d
      pure (ForInStep.yield PUnit.unit)
     else pure (ForInStep.yield PUnit.unit):Sem PUnit).run E.P w = .ok PUnit.unit w:=by
   intro fl
   induction fl with
   |nil=>intro n l _ _; simp
   |cons f fl ih =>
    intro n l h hv;cases l with
    |nil=>exact h.elim
    |cons a l =>
     obtain ⟨e1,⟨fi,hfi,hfa⟩,hr⟩:=h;simp only at e1 hfi;have hagg:fi.k.agg=false:=by
      unfold FitF at hfa;split at hfa <;> first | (rename_i q; rw [q]; rfl) | exact hfa.elim
     have h0 := hv 0 a rfl;rw [Nat.add_zero] at h0;have hp := run_part1 (hE.types _ fi hfi) w cs n (flatV a) h0 hagg;have hrest := ih (n + 1) l hr (fun j y hy => by rw [show n + 1 + j = n + (j + 1) by omega]; exact hv (j + 1) y (by simpa using hy));simp only [List.forIn_cons, Sem.run_bind];by_cases hname : f.name = "_"
     ·simp only [hname,ne_eq,not_true_eq_false,if_false,Sem.run_bind,Sem.run_pure,Result.andThen_ok];exact hrest
     ·simp only [hname,ne_eq,not_false_eq_true,if_true,Sem.run_bind,e1,hp,Result.andThen_ok,one 9998 f.type fi hfi a hfa,Sem.run_pure];exact hrest
  have:=go fl.toList 0 l hl hval;rw [this];rfl
end
section
variable {E:Env} {s:List AV} {h:List Box} {c:Cx} {G:List (Nat × DV)}
theorem ok_makeMap {t:Nat}:OpOK E (.makeMap t none) s h (.map h.length) (h++[.map []]):=fun o c ac h1 h2 h3 h4=>by
 subst h2;obtain ⟨k1,k2⟩:=h3.add (.map []) 0 (.map #[] 0);have hown:(c.add (.map []) 0 (.map #[] 0)).own c.heap.length=some (c.w.heap.size,0):=by simp [Cx.add]
 have hheap:(c.add (.map []) 0 (.map #[] 0)).heap[c.heap.length]? = some (.map []):=by simp [Cx.add]
 refine ⟨_,.map (some c.w.heap.size),.inl ?_,rfl,k2 ⟨c.w.heap.size,0,#[],0,hown,heap_alloc_new _ _,⟨rfl,by simp,by simp,by simp,rfl⟩,fun j k x m hj=>by simp at hj⟩,.map c.heap.length [] c.w.heap.size 0 hheap hown,k1⟩;simp only [execOp,h1,Option.map_none,Instr.makeMap];rfl
theorem vr_map {b:Nat} {es:List (DV × DV)} (hb:c.heap[b]? = some (.map es)) {v:Value} (hv:VR c (.map b) v):∃ blk cap,v = .map (some blk)∧c.own b=some (blk,cap):=by
 cases hv with
 |map _ es' blk cap k1 k2=>exact ⟨blk,cap,rfl,k2⟩
 |mapgone _ _ k1 _=>rw [hb] at k1; cases k1
theorem map_box (h3:HOk G c) {b:Nat} {es:List (DV × DV)} (hb:c.heap[b]? = some (.map es)) {v:Value} (hv:VR c (.map b) v):∃ (blk cap:Nat) (en:Array MapEntry) (ck:Nat),v = .map (some blk)∧c.own b=some (blk,cap)∧c.w.heap[blk]? = some (.map en ck)∧EnOK en ck es.length∧EntsOK c.bad c.w es en.toList:=by
 obtain ⟨blk,cap,rfl,ho⟩:=vr_map hb hv;obtain ⟨blk',cap',en,ck,p1,p2,p3,p4⟩:=h3.box b _ hb;rw [ho] at p1;cases p1;exact ⟨blk,cap,en,ck,rfl,ho,p2,p3,by simpa using p3.size,fun j k x m hk hm=>p4 j k x m hk (by simpa using hm)⟩
@[irreducible] def lookP (E : Env) (e : Nat) (kd : TK) (x : DV) (es : List (DV × DV)) (K : DV → Bool → Prop) : Prop :=
 ∃ (z:DV) (zv:Value),FitK E.T kd x∧(∀ p∈es,FitK E.T kd p.1)∧(∀ w,(zeroValue e).run E.P w = .ok zv w)∧(∀ bad w,VD bad w z zv)∧K ((findD x es).getD z) (findD x es).isSome
theorem lookP_intro {E:Env} {e:Nat} {kd:TK} {x:DV} {es:List (DV × DV)} {K:DV→Bool→Prop} (z:DV) (zv:Value) {v:DV} {f:Bool} (h1:FitK E.T kd x) (h2:∀ p∈es,FitK E.T kd p.1) (h3:∀ w,(zeroValue e).run E.P w = .ok zv w) (h4:∀ bad w,VD bad w z zv)
  (e1:(findD x es).getD z=v) (e2:(findD x es).isSome=f) (k:K v f):lookP E e kd x es K:=by
 unfold lookP;exact ⟨z,zv,h1,h2,h3,h4,by rw [e1,e2]; exact k⟩
theorem lookP_elim {E:Env} {e:Nat} {kd:TK} {x:DV} {es:List (DV × DV)} {K:DV→Bool→Prop} (h:lookP E e kd x es K) :
  ∃ (z:DV) (zv:Value),FitK E.T kd x∧(∀ p∈es,FitK E.T kd p.1)∧(∀ w,(zeroValue e).run E.P w = .ok zv w)∧(∀ bad w,VD bad w z zv)∧K ((findD x es).getD z) (findD x es).isSome:=by unfold lookP at h; exact h
theorem ok_lookup (hE:E.OK) {t kt e:Nat} {m ko:Operand} {ti:TInfo} (hti:E.T[t]? = some ti) (hk:ti.k = .map kt e) {kd:TK} (hT:KeyT E kt kd) {b:Nat} {es:List (DV × DV)} (hb:h[b]? = some (.map es)) (hm:EvOK E.G s m (.map b)) {x:DV} (hx:EvOK E.G s ko (.d x))
  (h1:FitK E.T kd x) (h2:∀ p∈es,FitK E.T kd p.1) {z:DV} {zv:Value} (hz:∀ w,(zeroValue e).run E.P w = .ok zv w) (hzv:∀ bad w,VD bad w z zv) (ok:Bool) :
  OpOK E (.lookup t m ko ok) s h (match ok with | true => .d (.tup [(findD x es).getD z,.bool (findD x es).isSome]) | false => .d ((findD x es).getD z)) h := .quiet fun o c ac e1 e2 h3 h4=>by
 subst e2;obtain ⟨tyi,d,g1,g2,g3,-⟩:=tinfo_inv (hE.types t ti hti);have hd:d = .map kt e:=by rw [hk] at g3; cases d <;> first | (cases g3; rfl) | cases g3
 subst hd;obtain ⟨blk,cap,en,ck,q1,q2,q3,qe,q4⟩:=map_box h3 hb (hm c ac h3 h4);have hxv:=hx c ac h3 h4;generalize hu:ac.eval ko=u at hxv;cases hxv with
 |d _ _ hxv =>
  have r1:=run_checkKey_fit hE hT h1 hxv en.isEmpty;have r2:=run_findKey_fit hE hT h1 hxv h2 q4
  have hv:∃ (v:Value) (f:Bool),f=(findD x es).isSome∧VD c.bad c.w ((findD x es).getD z) v∧((match foundV x es en.toList 0 with
    |some (_,v)=>pure (v,true)
    |none=>do pure (← zeroValue e,false):Sem (Value × Bool))).run E.P c.w = .ok (v,f) c.w:=by
   cases hf:findI x es with
   |none =>
    rw [findI_none hf];refine ⟨zv,false,rfl,hzv _ _,?_⟩;simp [foundV,hf,hz]
   |some j =>
    obtain ⟨p,p1,p2,p3⟩:=findI_lt hf;rw [p3];have hj:j<en.toList.length:=by rw [q4.1]; exact lt_of_getElem? p1
    refine ⟨en.toList[j].val,true,rfl,(q4.2 j p.1 p.2 _ p1 (by simp)).2,?_⟩;have:en.toList[j]? = some en.toList[j]:=by simp
    simp only [foundV,hf,Option.bind_some,this,Option.map_some];rfl
  obtain ⟨v,f,rfl,hvd,hrun⟩:=hv;have main:(Instr.lookup t (.map (some blk)) u ok).run E.P c.w = .ok (if ok then .tuple #[v,.bool (findD x es).isSome] else v) c.w:=by
   simp only [Instr.lookup,Sem.run_bind,run_underlying g2,Result.andThen_ok,gotMap q3,Sem.run_pure,r1,r2];have:=hrun;cases hff:foundV x es en.toList 0 with
   |none =>
    rw [hff] at this;simp only [Sem.run_bind,Sem.run_pure] at this ⊢;rw [hz] at this ⊢;simp only [Result.andThen_ok,Result.ok.injEq,Prod.mk.injEq] at this ⊢;rw [← this.1.1,← this.1.2];first | exact ⟨rfl,rfl⟩ | exact ⟨rfl,trivial⟩ | rfl
   |some q =>
    rw [hff] at this;simp only [Sem.run_pure,Result.ok.injEq,Prod.mk.injEq] at this ⊢;rw [← this.1.1,← this.1.2];first | exact ⟨rfl,rfl⟩ | exact ⟨rfl,trivial⟩ | rfl
  refine ⟨_,by simp only [execOp,e1,q1,hu,Sem.run_bind,main,Result.andThen_ok,Sem.run_pure]; rfl,?_⟩;cases ok with
  |true =>
   refine .d _ _ (.tup _ _ rfl fun j y w hy hw=>?_)
   match j with
   | 0=>simp at hy hw; subst hy; subst hw; exact hvd
   | 1=>simp at hy hw; subst hy; subst hw; exact .bool _
   |j+2=>simp at hy
  |false=>exact .d _ _ hvd
theorem ok_mapUpdate (hE:E.OK) {op:Op} {t kt e:Nat} {m ko vo:Operand} (hop:op = .mapUpdate t m ko vo∨op = .insert t m ko vo) {ti:TInfo} (hti:E.T[t]? = some ti) (hk:ti.k = .map kt e) {kd:TK} (hT:KeyT E kt kd) {b:Nat} {es:List (DV × DV)} (hb:h[b]? = some (.map es)) (hm:EvOK E.G s m (.map b)) {x y:DV} (hx:EvOK E.G s ko (.d x)) (hy:EvOK E.G s vo (.d y))
  (h1:FitK E.T kd x) (h2:∀ p∈es,FitK E.T kd p.1):OpOK E op s h (.d .undef) (h.set b (.map (putD x y es))):=fun o c ac e1 e2 h3 h4=>by
 subst e2;obtain ⟨tyi,d,g1,g2,g3,-⟩:=tinfo_inv (hE.types t ti hti);have hd:d = .map kt e:=by rw [hk] at g3; cases d <;> first | (cases g3; rfl) | cases g3
 subst hd;have hbl:=lt_of_getElem? hb;obtain ⟨blk,cap,en,ck,q1,q2,q3,qe,q4⟩:=map_box h3 hb (hm c ac h3 h4);have hxv:=hx c ac h3 h4;have hyv:=hy c ac h3 h4;generalize hu:ac.eval ko=u at hxv;generalize hw:ac.eval vo=w at hyv;cases hxv with
 |d _ _ hxv=>cases hyv with
  |d _ _ hyv =>
   have r1:=run_checkKey_fit hE hT h1 hxv false;have r2:=run_findKey_fit hE hT h1 hxv h2 q4;have hblk:blk<c.w.heap.size:=(h3.ownlt b blk cap q2).1;have main:∃ (en':Array MapEntry) (ck':Nat),(Instr.mapUpdate t (.map (some blk)) u w).run E.P c.w = .ok () { c.w with heap:=c.w.heap.setIfInBounds blk (.map en' ck') }∧EnOK en' ck' (putD x y es).length ∧
     ∀ (j:Nat) (k v:DV) (mm:MapEntry),(putD x y es)[j]? = some (k,v)→en'[j]? = some mm→VD c.bad c.w k mm.key∧VD c.bad c.w v mm.val:=by
    cases hf:findI x es with
    |none =>
     refine ⟨en.push { key:=u,val:=w,born:=ck },ck+1,?_,?_,?_⟩
     ·simp only [Instr.mapUpdate,Sem.run_bind,run_underlying g2,Result.andThen_ok,gotMap q3,r1,r2,foundV,hf,Option.bind_none,setMap _ q3]
     ·rw [putD_none hf,List.length_append];exact qe.push u w
     ·intro j k v mm hj hmm;rw [putD_none hf] at hj;have hl:en.size=es.length:=by simpa using q4.1
      rcases Nat.lt_or_ge j es.length with hlt | hge
      ·rw [List.getElem?_append_left hlt] at hj;rw [Array.getElem?_push,if_neg (by omega)] at hmm;exact q4.2 j k v mm hj (by simpa using hmm)
      ·have hje:j=es.length:=by
        have:=lt_of_getElem? hj;simp at this;omega
       subst hje;rw [List.getElem?_append_right (Nat.le_refl _)] at hj;simp at hj;obtain ⟨rfl,rfl⟩:=hj;rw [Array.getElem?_push,if_pos hl.symm] at hmm;cases hmm;exact ⟨hxv,hyv⟩
    |some i =>
     obtain ⟨p,p1,p2,p3⟩:=findI_lt hf;have hl:en.size=es.length:=by simpa using q4.1
     have hi:i<en.size:=by rw [hl]; exact lt_of_getElem? p1
     have hmi:en[i]? = some en[i]:=by simp [hi]
     have hkey:=(q4.2 i p.1 p.2 en[i] p1 (by simp [hi])).1;have hpe:=keyEq_eq p2;have e3:=flat_val h1 hxv;have e4:=flat_val (h2 p (List.mem_of_getElem? p1)) hkey;have hbits:Instr.sameBits 10000 en[i].key u=true:=by
      rw [e3,e4,← hpe];exact sameBits_key h1
     refine ⟨en.modify i fun e=>{ e with key:=u,val:=w },ck,?_,?_,?_⟩
     ·have hfv:foundV x es en.toList 0=some (i,en[i].val):=by
       simp [foundV,hf,hi]
      have hks:(Instr.keyThatStays en[i].key u).run E.P c.w = .ok u c.w:=by
       simp only [Instr.keyThatStays,hbits,if_true,Sem.run_pure]
      simp only [Instr.mapUpdate,Sem.run_bind,run_underlying g2,Result.andThen_ok,gotMap q3,r1,r2,hfv,hmi,Option.map_some,Option.getD_some,hks,setMap _ q3]
     ·rw [putD_some hf,List.length_set];exact qe.modify i u w
     ·intro j k v mm hj hmm;rw [putD_some hf] at hj;by_cases hji:j=i
      ·subst hji;rw [List.getElem?_set_self (by omega)] at hj;cases hj;rw [Array.getElem?_modify,if_pos rfl,hmi] at hmm;cases hmm;exact ⟨hxv,hyv⟩
      ·rw [List.getElem?_set_ne (Ne.symm hji)] at hj;rw [Array.getElem?_modify,if_neg (Ne.symm hji)] at hmm;exact q4.2 j k v mm hj (by simpa using hmm)
   obtain ⟨en',ck',hrun,hlen,hent⟩:=main
   let c':Cx:={ c with heap:=c.heap.set b (.map (putD x y es)),w:={ c.w with heap:=c.w.heap.setIfInBounds blk (.map en' ck') } }
   have hbw:c'.w.heap[blk]? = some (.map en' ck'):=by simp [c',hblk]
   have how:∀ b',b'≠blk→c'.w.heap[b']? = c.w.heap[b']? := fun b' hb'=>by simp [c',Array.getElem?_setIfInBounds,Ne.symm hb']
   have hbb:c'.heap[b]? = some (.map (putD x y es)):=by show (c.heap.set b _)[b]? = _; rw [List.getElem?_set_self hbl]
   have hother:∀ i,i≠b→c'.heap[i]? = c.heap[i]? := fun i hi=>by show (c.heap.set b _)[i]? = _; rw [List.getElem?_set_ne (Ne.symm hi)]
   have hst:Step c c':=⟨rfl,h3.barlt,rfl,rfl,rfl,by simp [c'],fun b' _ hno=>how b' (fun hbe=>hno b cap (hbe ▸ q2)),fun i b' n hi _=>⟨n,hi⟩,fun i bx hi=>by
    by_cases hib:i=b
    ·subst hib;rw [hb] at hi;cases hi;exact .inl ⟨_,hbb,rfl⟩
    ·rw [← hother i hib] at hi;cases bx with
     |cells cs=>exact .inl ⟨cs,hi,rfl,rfl⟩
     |arr g sz l=>exact .inl ⟨g,l,hi,.inr ⟨rfl,rfl,rfl⟩⟩
     |map es=>exact .inl ⟨es,hi,rfl⟩
     |gone=>exact hi⟩
   have hok:HOk E.G c':=by
    refine h3.next hst (fun i b' n hi=>?_) h3.inj (fun i bx hi=>?_)
    ·have:=h3.ownlt i b' n hi;refine ⟨by simpa [c'] using this.1,?_⟩;show i<(c.heap.set b _).length;rw [List.length_set];exact this.2
    ·by_cases hib:i=b
     ·subst hib;rw [hbb] at hi;cases hi;right;exact ⟨blk,cap,en',ck',q2,hbw,hlen,fun j k v mm hj hmm=>⟨hst.vd (hent j k v mm hj hmm).1,hst.vd (hent j k v mm hj hmm).2⟩⟩
     ·rw [hother i hib] at hi;exact .inl ⟨hi,rfl,fun b' n hn=>how b' (fun hbe=>hib (h3.inj i b blk n cap (hbe ▸ hn) q2))⟩
   refine ⟨c',undef,.inr ⟨?_,rfl⟩,rfl,hok,.d _ _ .undef,hst⟩;rcases hop with rfl | rfl
   ·simp only [execOp,e1,q1,hu,hw,Sem.run_bind,hrun,Result.andThen_ok,Sem.run_pure];rfl
   ·simp only [execOp,e1,q1,hu,hw,Sem.run_bind,hrun,Result.andThen_ok,Sem.run_pure];rfl
theorem ok_lenMap (hE:E.OK) {t:Nat} {args:Array Operand} {ts:Array TypeId} {m:Operand} (hargs:args.toList[0]? = some m) (hts:ts.toList[0]? = some t) {ti:TInfo} (hti:E.T[t]? = some ti) {kt e:Nat} (hk:ti.k = .map kt e) {b:Nat} {es:List (DV × DV)} (hb:h[b]? = some (.map es)) (hm:EvOK E.G s m (.map b)) :
  OpOK E (.call { callee := .builtin .len,args:=args,argTypes:=ts }) s h (.d (.int .i64 es.length)) h := .quiet fun o c ac e1 e2 h3 h4=>by
 subst e2;obtain ⟨tyi,d,g1,g2,g3,-⟩:=tinfo_inv (hE.types t ti hti);have hd:d = .map kt e:=by rw [hk] at g3; cases d <;> first | (cases g3; rfl) | cases g3
 subst hd;obtain ⟨blk,cap,en,ck,q1,q2,q3,qe,q4⟩:=map_box h3 hb (hm c ac h3 h4);refine ⟨.int .i64 es.length,?_,.d _ _ (.int _ _)⟩;have hl:en.size=es.length:=by simpa using q4.1
 have hx':args[0]? = some m:=by simpa using hargs
 have ht':ts[0]? = some t:=by simpa using hts
 have hx2:(args.map ac.eval)[0]? = some (.map (some blk)):=by rw [Array.getElem?_map,hx']; simp [q1]
 simp only [execOp,e1,resolve,invoke,builtin,Builtin.len_,ht',hx2,Sem.run_bind,Sem.run_pure,Result.andThen_ok,run_underlying g2,gotMap q3,goInt,hl]
def keyKindK (E:Env) (kt:Nat) (stop:Prop) (k:TK→Prop):Prop:=getK E.T kt stop fun i=>match i.k with
 | .int j=>k (.int j)
 | .string=>k .string
 | .bool=>k .bool
 | .struct fs=>match mem1B kt E.Q with
  |true=>k (.struct fs)
  |false=>stop
 |_=>stop
theorem keyKindK_sound {kt:Nat} {stop:Prop} {k:TK→Prop} (H:keyKindK E kt stop k):stop∨∃ kd,KeyT E kt kd∧k kd:=by
 unfold keyKindK at H;rcases getK_or H with H | ⟨i,hi,H⟩
 ·exact .inl H
 split at H
 ·rename_i q; exact .inr ⟨_,q ▸ .plain i hi (by rw [q]; trivial),H⟩
 ·rename_i q; exact .inr ⟨_,q ▸ .plain i hi (by rw [q]; trivial),H⟩
 ·rename_i q; exact .inr ⟨_,q ▸ .plain i hi (by rw [q]; trivial),H⟩
 ·rename_i fs q;split at H
  ·rename_i q2; exact .inr ⟨_,.struct i hi fs q (mem1B_spec q2),H⟩
  ·exact .inl H
 ·exact .inl H
def mapOpK (E:Env) (o:Op) (s:List AV) (h:List Box) (stop:Prop) (k:AV→List Box→Prop):Prop :=
 match o with
 | .makeMap _ none=>snocK h (.map []) 0 fun h' n=>k (.map n) h'
 | .lookup t m x ok=>getK E.T t stop fun ti=>match ti.k with
  | .map kt e=>evalK E.G s m stop fun
   | .map b=>getK h b stop fun
    | .map es=>evalK E.G s x stop fun
     | .d y=>keyKindK E kt stop fun kd=>lookP E e kd y es fun v f=>match ok with
      |true=>k (.d (.tup [v,.bool f])) h
      |false=>k (.d v) h
     |_=>stop
    |_=>stop
   |_=>stop
  |_=>stop
 | .call { callee := .builtin .len,args:=args,argTypes:=ts }=>getK args.toList 0 stop fun m=>getK ts.toList 0 stop fun t=>getK E.T t stop fun ti=>match ti.k with
  | .map _ _=>evalK E.G s m stop fun
   | .map b=>getK h b stop fun
    | .map es=>k (.d (.int .i64 es.length)) h
    |_=>stop
   |_=>stop
  |_=>stop
 | .mapUpdate t m x v=>getK E.T t stop fun ti=>match ti.k with
  | .map kt _=>evalK E.G s m stop fun
   | .map b=>getK h b stop fun
    | .map es=>evalK E.G s x stop fun
     | .d y=>evalK E.G s v stop fun
      | .d z=>keyKindK E kt stop fun kd=>need (FitK E.T kd y∧∀ p∈es,FitK E.T kd p.1) (setK h b (.map (putD y z es)) fun h'=>k (.d .undef) h')
      |_=>stop
     |_=>stop
    |_=>stop
   |_=>stop
  |_=>stop
 |_=>stop
theorem mapOpK_sound (hE:E.OK) {o:Op} {stop:Prop} {k:AV→List Box→Prop} (H:mapOpK E o s h stop k):stop∨∃ v h',k v h'∧OpOK E o s h v h':=by
 unfold mapOpK at H;split at H
 ·rw [snocK_eq,Nat.zero_add] at H;exact .inr ⟨_,_,H,ok_makeMap⟩
 ·rename_i t m x ok;rcases getK_or H with H | ⟨ti,hti,H⟩
  ·exact .inl H
  split at H
  ·rename_i kt e hk;rcases evalK_sound H with H | ⟨a,ha,H⟩
   ·exact .inl H
   split at H
   ·rename_i b;rcases getK_or H with H | ⟨bx,hb,H⟩
    ·exact .inl H
    split at H
    ·rename_i es;rcases evalK_sound H with H | ⟨y,hy,H⟩
     ·exact .inl H
     split at H
     ·rename_i y;rcases keyKindK_sound H with H | ⟨kd,hT,H⟩
      ·exact .inl H
      obtain ⟨z,zv,f1,f2,f3,f4,H⟩:=lookP_elim H;have:=ok_lookup (s:=s) hE hti hk hT hb ha hy f1 f2 f3 f4 ok;cases ok with
      |true=>exact .inr ⟨_,_,H,this⟩
      |false=>exact .inr ⟨_,_,H,this⟩
     ·exact .inl H
    ·exact .inl H
   ·exact .inl H
  ·exact .inl H
 ·rename_i args ts;rcases getK_or H with H | ⟨m,hm,H⟩
  ·exact .inl H
  rcases getK_or H with H | ⟨t,ht,H⟩
  ·exact .inl H
  rcases getK_or H with H | ⟨ti,hti,H⟩
  ·exact .inl H
  split at H
  ·rename_i kt e hk;rcases evalK_sound H with H | ⟨a,ha,H⟩
   ·exact .inl H
   split at H
   ·rename_i b;rcases getK_or H with H | ⟨bx,hb,H⟩
    ·exact .inl H
    split at H
    ·exact .inr ⟨_,_,H,ok_lenMap hE hm ht hti hk hb ha⟩
    ·exact .inl H
   ·exact .inl H
  ·exact .inl H
 ·rename_i t m x v;rcases getK_or H with H | ⟨ti,hti,H⟩
  ·exact .inl H
  split at H
  ·rename_i kt e hk;rcases evalK_sound H with H | ⟨a,ha,H⟩
   ·exact .inl H
   split at H
   ·rename_i b;rcases getK_or H with H | ⟨bx,hb,H⟩
    ·exact .inl H
    split at H
    ·rename_i es;rcases evalK_sound H with H | ⟨y,hy,H⟩
     ·exact .inl H
     split at H
     ·rename_i y;rcases evalK_sound H with H | ⟨z,hz,H⟩
      ·exact .inl H
      split at H
      ·rename_i z;rcases keyKindK_sound H with H | ⟨kd,hT,H⟩
       ·exact .inl H
       obtain ⟨⟨f1,f2⟩,H⟩:=need_elim H;rw [setK_eq] at H;exact .inr ⟨_,_,H,ok_mapUpdate hE (.inl rfl) hti hk hT hb ha hy hz f1 f2⟩
      ·exact .inl H
     ·exact .inl H
    ·exact .inl H
   ·exact .inl H
  ·exact .inl H
 ·exact .inl H
def sideMK (E:Env) (o:Op) (s:List AV) (h:List Box) (stop:Prop) (k:AV→List Box→Prop):Prop:=sideK E.T E.G o s h (stillK E o s (mapOpK E o s h stop k) fun v=>k v h) k
theorem sideMK_sound (hE:E.OK) {o:Op} {stop:Prop} {k:AV→List Box→Prop} (H:sideMK E o s h stop k):stop∨∃ v h',k v h'∧OpOK E o s h v h':=by
 rcases sideK_sound hE H with H | H
 ·rcases stillK_sound H with H | ⟨v,H,ho⟩
  ·exact mapOpK_sound hE H
  ·exact .inr ⟨v,h,H,ho h⟩
 ·exact .inr H
end
end Go.Eng
end
