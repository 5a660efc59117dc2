/- Several texts of mine, one behind the other. Conditions: as each says. -/
import Derived.Test.YtfmdaiojokniiaaGreatDoorW0
import Derived.RangeFuncNested
import Derived.RangeFuncLeaves
import Derived.Laws.AppendOwn
import Derived.Laws.MakeOwn
import Derived.Laws.StructEq
import Derived.Laws.BytesString
import Derived.Lib.ConvBytes
import Derived.WideKeyRuns
import Derived.MapKept
set_option linter.unusedVariables false
set_option linter.unusedSimpArgs false
section
namespace Go.aw
open Go Go.RowKit
inductive aH where
 |code (c:Code)
 |inBlock (id:Nat)
 |inLoop (c:Code)
 |a8 (ops:Array Oper) (l:List Oper)
 |mR (l:Nat)
 |nX
def aH.bA:aH→Item
 | .code c => .code c
 | .inBlock id => .inBlock id
 | .inLoop c => .inLoop c
 | .a8 ops l => .inRegion ops ((List.range ops.size).drop (ops.size - l.length))
 | .mR l => .inRangeFunc l
 | .nX => .beginRound
def aH.ok:aH→Prop
 | .a8 ops l=>∃ n,n≤ops.size∧l=ops.toList.drop n
 |_=>True
structure gm where
 f:FuncId
 cy:Option Nat
 aA:List Nat
def marks (l:List Nat):List Deferred:=l.map fun d=>{ target := .collected d,args := #[] }
structure bP where
 af:gm
 todo:List aH
 fY:List AV
def bf (x:gm):Frame:={ (default:Frame) with fn:=x.f,kind := .normal,roundOf:=x.cy }
def bP.bA (f:bP) (t:Array Value):Frame:=(bf f.af).atR ⟨t,marks f.af.aA⟩ (f.todo.map aH.bA)
def bP.ok (f:bP):Prop:=∀ i∈f.todo,i.ok
def ev:List bP→List (Array Value)→List Frame
 |f::fs,t::ts=>f.bA t::ev fs ts
 |_,_=>[]
def CR (c:Cx):List bP→List (Array Value)→Prop
 | [],[]=>True
 |f::fs,t::ts=>VS c f.fY t∧f.ok∧CR c fs ts
 |_,_=>False
theorem mS {c c':Cx} (h:∀ x v,VR c x v→VR c' x v):∀ {fs:List bP} {ts:List (Array Value)},CR c fs ts→CR c' fs ts
 | [],[],_=>trivial
 |_::_,_::_,h'=>⟨⟨h'.1.1,fun i x v hx hv=>h x v (h'.1.2 i x v hx hv)⟩,h'.2.1,mS h h'.2.2⟩
theorem Step.cr {c c':Cx} (h:Step c c'):∀ {fs:List bP} {ts:List (Array Value)},CR c fs ts→CR c' fs ts
 | [],[],_=>trivial
 |_::_,_::_,h'=>⟨h.vs h'.1,h'.2.1,h.cr h'.2.2⟩
def uO (c0 c:Cx) (i:Nat):ab→Prop
 | .cells cs=>(∃ cs',c.heap[i]? = some (.cells cs')∧c.own i=c0.own i∧cs'.length=cs.length)∨c.heap[i]? = some .gone
 | .arr _ ts l=>(∃ g' l',c.heap[i]? = some (.arr g' ts l')∧(0<g'∨g'=0∧l'.length=l.length∧c.own i=c0.own i))∨c.heap[i]? = some .gone
 | .map _=>(∃ cX,c.heap[i]? = some (.map cX)∧c.own i=c0.own i)∨c.heap[i]? = some .gone
 | .gone=>c.heap[i]? = some .gone
 | .hole=>∃ b,c.heap[i]? = some b
structure Rel (c0 c:Cx):Prop where
 ax:c.ax=c0.ax
 os:c.w.os=c0.w.os
 tape:c.w.tape=c0.w.tape
 output:c.w.output=c0.w.output
 size:c0.w.heap.size≤c.w.heap.size
 keep:∀ b,b<c0.w.heap.size→(∀ i n,c0.own i≠some (b,n))→c.w.heap[b]? = c0.w.heap[b]?
 da:∀ i b n,c.own i=some (b,n)→b<c0.w.heap.size→∃ m,c0.own i=some (b,m)
 boxes:∀ i bx,c0.heap[i]? = some bx→uO c0 c i bx
def sG (h:List ab):Prop:=∀ (i g:Nat) (ts:Nat × Nat) (l:List DV),h[i]? = some (.arr g ts l)→g=0
theorem Rel.refl (c:Cx) (hf:sG c.heap):Rel c c:=⟨rfl,rfl,rfl,rfl,Nat.le_refl _,fun _ _ _=>rfl,fun i b n h _=>⟨n,h⟩,fun i bx h=>by
  cases bx with
  |cells cs=>exact .inl ⟨cs,h,rfl,rfl⟩
  |arr g sz l=>exact .inl ⟨g,l,h,.inr ⟨hf i g sz l h,rfl,rfl⟩⟩
  |map es=>exact .inl ⟨es,h,rfl⟩
  |gone=>exact h
  |hole=>exact ⟨_,h⟩⟩
theorem Rel.step {c0 c c':Cx} (h:Rel c0 c) (k:Step c c'):Rel c0 c' where
 ax:=k.ax.trans h.ax
 os:=k.os.trans h.os
 tape:=k.tape.trans h.tape
 output:=k.output.trans h.output
 size:=Nat.le_trans h.size k.size
 keep:=fun x hx hn=>by
  rw [k.keep x (Nat.lt_of_lt_of_le hx h.size) (fun i n hi=>by obtain ⟨m,hj⟩:=h.da i x n hi hx; exact hn i m hj)];exact h.keep x hx hn
 da:=fun i x n hi hx=>by
  obtain ⟨m,hj⟩:=k.da i x n hi (Nat.lt_of_lt_of_le hx h.size);exact h.da i x m hj hx
 boxes:=fun i bx hi=>by
  have h1:=h.boxes i bx hi;cases bx with
  |cells cs =>
   rcases h1 with ⟨cs',h1,h2,h3⟩ | h1
   ·rcases k.boxes i _ h1 with ⟨Ab,k1,k2,k3⟩ | k1
    ·exact .inl ⟨Ab,k1,k2.trans h2,k3.trans h3⟩
    ·exact .inr k1
   ·exact .inr (k.boxes i _ h1)
  |arr g sz l =>
   rcases h1 with ⟨g',l',h1,h2⟩ | h1
   ·rcases k.boxes i _ h1 with ⟨Ac,Ad,k1,k2⟩ | k1
    ·refine .inl ⟨Ac,Ad,k1,?_⟩;rcases h2 with h2 | ⟨h2,h3,h4⟩ <;> rcases k2 with k2 | ⟨k2,k3,k4⟩
     ·left; omega
     ·left; omega
     ·left; omega
     ·exact .inr ⟨k2.trans h2,k3.trans h3,k4.trans h4⟩
    ·exact .inr k1
   ·exact .inr (k.boxes i _ h1)
  |map es =>
   rcases h1 with ⟨cX,h1,h2⟩ | h1
   ·rcases k.boxes i _ h1 with ⟨Ae,k1,k2⟩ | k1
    ·exact .inl ⟨Ae,k1,k2.trans h2⟩
    ·exact .inr k1
   ·exact .inr (k.boxes i _ h1)
  |gone=>exact k.boxes i _ h1
  |hole=>obtain ⟨b,h1⟩:=h1; exact (k.boxes i b h1).ex
structure dY (c0 c:Cx):Prop where
 lim:∀ b,c0.ax b→b<c0.w.heap.size
 lq:∀ i p,c0.own i=some p→i<c0.heap.length
 ax:∀ b,c0.ax b→c.ax b
 l4:∀ b,c.ax b→c0.ax b∨c0.w.heap.size≤b
 os:c.w.os=c0.w.os
 tape:c.w.tape=c0.w.tape
 output:c.w.output=c0.w.output
 size:c0.w.heap.size≤c.w.heap.size
 keep:∀ b,b<c0.w.heap.size→(∀ i n,c0.own i≠some (b,n))→c.w.heap[b]? = c0.w.heap[b]?
 da:∀ i b n,c.own i=some (b,n)→b<c0.w.heap.size→∃ m,c0.own i=some (b,m)
 boxes:∀ i bx,c0.heap[i]? = some bx→uO c0 c i bx
theorem Rel.x {c0 c:Cx} (h:Rel c0 c) (hb:∀ b,c0.ax b→b<c0.w.heap.size) (ho:∀ i b n,c0.own i=some (b,n)→b<c0.w.heap.size∧i<c0.heap.length):dY c0 c:=⟨hb,fun i p hp=>(ho i p.1 p.2 hp).2,fun b h'=>by rw [h.ax]; exact h',fun b h'=>by rw [h.ax] at h'; exact .inl h',h.os,h.tape,h.output,h.size,h.keep,h.da,h.boxes⟩
theorem dY.step {c0 c c':Cx} (h:dY c0 c) (k:Step c c'):dY c0 c':=by
 have h1:Rel ({ c0 with ax:=c.ax }) c:=⟨rfl,h.os,h.tape,h.output,h.size,h.keep,h.da,fun i bx hi=>by
  have:=h.boxes i bx hi
  cases bx <;> exact this⟩
 have h2:=h1.step k
 exact ⟨h.lim,h.lq,fun b hb=>by rw [k.ax]; exact h.ax b hb,fun b hb=>by rw [k.ax] at hb; exact h.l4 b hb,h2.os,h2.tape,h2.output,h2.size,h2.keep,h2.da,fun i bx hi=>by
  have:=h2.boxes i bx hi
  cases bx <;> exact this⟩
def Cx.o9 (c:Cx) (ax:Nat→Prop):Cx:={ c with ax:=ax }
theorem dY.clean {c0 c:Cx} (h:dY c0 c):Rel c0 (c.o9 c0.ax):=⟨rfl,h.os,h.tape,h.output,h.size,h.keep,h.da,fun i bx hi=>by
 have:=h.boxes i bx hi
 cases bx <;> exact this⟩
theorem kq {c c':Cx} {i:Nat} {bx:ab} (h1:c.heap[i]? = some bx) (h2:c'.heap[i]? = c.heap[i]?) (h3:c'.own i=c.own i):sk c c' i bx:=by
 rw [h1] at h2;cases bx with
 |cells cs=>exact .inl ⟨cs,h2,h3,rfl⟩
 |arr g sz l=>exact .inl ⟨g,l,h2,.inr ⟨rfl,rfl,h3⟩⟩
 |map es=>exact .inl ⟨es,h2,h3⟩
 |gone=>exact h2
 |hole=>exact ⟨_,h2⟩
theorem ia.gen {c c':Cx} (jR:∀ x v,VR c x v→VR c' x v) (eI:∀ x v,VD c.bad c.w x v→VD c'.bad c'.w x v) {i:Nat} {bx:ab} (hb:ia c i bx) (ho:c'.own i=c.own i) (hw:∀ b n,c.own i=some (b,n)→c'.w.heap[b]? = c.w.heap[b]?):ia c' i bx:=by
 cases bx with
 |cells cs =>
  obtain ⟨blk,cap,vs,ty,h1,h2,h3,h4⟩:=hb;exact ⟨blk,cap,vs,ty,ho.trans h1,(hw blk cap h1).trans h2,h3,fun j x v hx hv=>jR x v (h4 j x v hx hv)⟩
 |arr g ts l =>
  obtain ⟨h0,h1,h2⟩:=hb;refine ⟨h0,h1,?_⟩;rcases h2 with ⟨h2,h3⟩ | ⟨blk,cap,vs,h2,h3,h4,h5,h6,h7⟩
  ·exact .inl ⟨ho.trans h2,h3⟩
  ·refine .inr ⟨blk,cap,vs,ho.trans h2,(hw blk cap h2).trans h3,h4,h5,h6,fun i j e x he hx=>?_⟩;obtain ⟨v,h8,uC,h9⟩:=h7 i j e x he hx;exact ⟨v,h8,uC,eI x v h9⟩
 |map es =>
  obtain ⟨blk,cap,en,ck,h1,h2,h3,h4⟩:=hb;exact ⟨blk,cap,en,ck,ho.trans h1,(hw blk cap h1).trans h2,h3,fun j k x m hx hm=>⟨eI _ _ (h4 j k x m hx hm).1,eI _ _ (h4 j k x m hx hm).2⟩⟩
 |gone=>exact ho.trans hb
 |hole=>exact ho.trans hb
theorem EF {c:Cx} {ax:Nat→Prop} (hb:∀ b,ax b→c.ax b) (b:Nat) (_:b<c.w.heap.size) (hn:¬ c.bad b):¬ (c.o9 ax).bad b∧(c.o9 ax).w.heap[b]? = c.w.heap[b]? :=
 ⟨fun h=>hn (h.elim (fun h => .inl (hb b h)) .inr),rfl⟩
theorem AD {c:Cx} {ax:Nat→Prop} (hb:∀ b,ax b→c.ax b) {x:AV} {v:Value} (hv:VR c x v):VR (c.o9 ax) x v:=ql (EF hb) (fun _ _ hi=>kq hi rfl rfl) hv
theorem aC.o9 {G:List (Nat × DV)} {c:Cx} {ax:Nat→Prop} (ho:aC G c) (hb:∀ b,ax b→c.ax b):aC G (c.o9 ax) where
 bG:=fun b h=>ho.bG b (hb b h)
 bk:=ho.bk
 inj:=ho.inj
 sep:=fun i b n hi h=>ho.sep i b n hi (hb b h)
 box:=fun i bx hi=>(ho.box i bx hi).gen (fun _ _=>AD hb) (fun _ _ hv=>hv.mono (EF hb)) rfl (fun _ _ _=>rfl)
 eJ:=fun g e hg=>AD hb (ho.eJ g e hg)
structure Row where
 blk:Nat
 cap:Nat
 ts:Nat × Nat
 l:List DV
structure mT (lim:Nat) (c:Cx) (r:Row):Prop where
 ax:c.ax r.blk
 new:lim≤r.blk
 pos:0<r.ts.2
 len:∀ (i:Nat) (e:DV),r.l[i]? = some e→e.cells.length=r.ts.2
 mem:∃ vs:Array Value,c.w.heap[r.blk]? = some (.cells vs r.ts.1 (0,0))∧vs.size=r.cap*r.ts.2∧r.l.length≤r.cap∧r.cap≤maxLen ∧
  ∀ (i j:Nat) (e x:DV),r.l[i]? = some e→e.cells[j]? = some x→∃ v,vs[i*r.ts.2+j]? = some v∧v.oneCell'=true∧VD c.bad c.w x v
structure Iter where
 bm:Nat
 r:Nat
 en:Array MapEntry
 ck:Nat
 since:Nat
 seen:List Nat
 es:List (DV × DV)
structure jS (lim:Nat) (c:Cx) (i:Iter):Prop where
 AE:c.ax i.bm
 uP:c.ax i.r
 EG:lim≤i.r
 map:c.w.heap[i.bm]? = some (.map i.en i.ck)
 iter:∃ c0,i.since≤c0∧(i.seen≠[]→c0=i.ck)∧c.w.heap[i.r]? = some (.mapIter (some i.bm) i.since ((i.seen.map fun j=>((i.en[j]?).map (·.born)).getD 0).toArray) c0)
 old:∀ x∈i.en.toList,x.born<i.since
 dv:lh i.en i.ck i.es.length
 val:∀ (j:Nat) (k x:DV) (m:MapEntry),i.es[j]? = some (k,x)→i.en[j]? = some m→VD c.bad c.w k m.key∧VD c.bad c.w x m.val
 lt:∀ j∈i.seen,j<i.en.size
structure iP where
 l:Nat
 d:Nat
 st:LoopState
 pe:Option Code
 fn:FuncId
 tm:Array Value
 ps:Array Tmp
 assign:Code
 body:Code
 fY:List AV
def iP.dZ (i:iP):Loop:={ state:=i.st,pending:=i.pe,fn:=i.fn,tmps:=i.tm,params:=i.ps,assign:=i.assign,body:=i.body,defers:=i.d }
structure lr (lim:Nat) (c:Cx) (i:iP):Prop where
 ax:c.ax i.l
 new:lim≤i.l
 mem:c.w.heap[i.l]? = some (.loop i.dZ)
 fY:VS c i.fY i.tm
structure pa (lim:Nat) (c:Cx) (d:Nat):Prop where
 ax:c.ax d
 new:lim≤d
 mem:c.w.heap[d]? = some (.deferred (some []))
inductive bc where
 |row (r:Row)
 |iter (i:Iter)
 |loop (i:iP)
 |mark (d:Nat)
def bc.ca:bc→List Nat
 | .row r=>[r.blk]
 | .iter i=>[i.bm,i.r]
 | .loop i=>[i.l]
 | .mark d=>[d]
def gn (lim:Nat) (c:Cx):bc→Prop
 | .row r=>mT lim c r
 | .iter i=>jS lim c i
 | .loop i=>lr lim c i
 | .mark d=>pa lim c d
structure ff (lim:Nat) (c:Cx) (rows:List bc):Prop where
 each:∀ r∈rows,gn lim c r
 nodup:(rows.flatMap bc.ca).Nodup
theorem ff.nil {lim:Nat} {c:Cx}:ff lim c []:=⟨fun r hr=>by simp at hr,List.nodup_nil⟩
theorem mT.gen {lim:Nat} {c c':Cx} {r:Row} (h:mT lim c r) (hb:c'.ax r.blk) (hw:c'.w.heap[r.blk]? = c.w.heap[r.blk]?) (eI:∀ x v,VD c.bad c.w x v→VD c'.bad c'.w x v):mT lim c' r:=by
 obtain ⟨h1,h2,h3,h4,vs,h5,h6,h7,h8,h9⟩:=h;exact ⟨hb,h2,h3,h4,vs,hw.trans h5,h6,h7,h8,fun i j e x he hx=>by obtain ⟨v,k1,k2,k3⟩:=h9 i j e x he hx; exact ⟨v,k1,k2,eI x v k3⟩⟩
theorem jS.gen {lim:Nat} {c c':Cx} {i:Iter} (h:jS lim c i) (hb:c'.ax i.bm) (hr:c'.ax i.r) (hw:c'.w.heap[i.bm]? = c.w.heap[i.bm]?) (qC:c'.w.heap[i.r]? = c.w.heap[i.r]?) (eI:∀ x v,VD c.bad c.w x v→VD c'.bad c'.w x v):jS lim c' i:=by
 obtain ⟨h1,h2,h3,h4,h5,h6,h7,h8,h9⟩:=h;exact ⟨hb,hr,h3,hw.trans h4,(by obtain ⟨c0,k1,k0,k2⟩:=h5; exact ⟨c0,k1,k0,qC.trans k2⟩),h6,h7,fun j k x m h1 h2=>⟨eI _ _ (h8 j k x m h1 h2).1,eI _ _ (h8 j k x m h1 h2).2⟩,h9⟩
theorem gn.ax {lim:Nat} {c:Cx}:∀ {g:bc},gn lim c g→∀ b∈g.ca,c.ax b
 | .row r,h,b,hb=>by simp [bc.ca] at hb; subst hb; exact mT.ax h
 | .iter i,h,b,hb=>by simp [bc.ca] at hb; rcases hb with rfl | rfl; exact jS.AE h; exact jS.uP h
 | .loop i,h,b,hb=>by simp [bc.ca] at hb; subst hb; exact lr.ax h
 | .mark d,h,b,hb=>by simp [bc.ca] at hb; subst hb; exact pa.ax h
theorem gn.gen {lim:Nat} {c c':Cx} {g:bc} (h:gn lim c g) (hb:∀ b∈g.ca,c'.ax b∧c'.w.heap[b]? = c.w.heap[b]?) (eI:∀ x v,VD c.bad c.w x v→VD c'.bad c'.w x v) (jR:∀ x v,VR c x v→VR c' x v):gn lim c' g:=by
 cases g with
 |loop i =>
  obtain ⟨h1,h2,h3,h4⟩:=h;have:=hb i.l (by simp [bc.ca]);exact ⟨this.1,h2,this.2.trans h3,h4.1,fun j x v hx hv=>jR x v (h4.2 j x v hx hv)⟩
 |mark d =>
  obtain ⟨h1,h2,h3⟩:=h;have:=hb d (by simp [bc.ca]);exact ⟨this.1,h2,this.2.trans h3⟩
 |row r=>exact mT.gen h (hb _ (by simp [bc.ca])).1 (hb _ (by simp [bc.ca])).2 eI
 |iter i=>exact jS.gen h (hb i.bm (by simp [bc.ca])).1 (hb i.r (by simp [bc.ca])).1 (hb i.bm (by simp [bc.ca])).2 (hb i.r (by simp [bc.ca])).2 eI
theorem ff.step {G:List (Nat × DV)} {lim:Nat} {c c':Cx} {rows:List bc} (h:ff lim c rows) (ho:aC G c) (st:Step c c'):ff lim c' rows :=
 ⟨fun r hr=>(h.each r hr).gen (fun b hb=>by
  have h1:=(h.each r hr).ax b hb
  exact ⟨by rw [st.ax]; exact h1,st.keep b (ho.bG _ h1) (fun i n hi=>ho.sep i _ n hi h1)⟩) (fun _ _=>st.vd) (fun _ _=>st.vr),h.nodup⟩
def bc.flat:bc→Prop
 | .loop _=>False
 |_=>True
structure dw (lim:Nat) (c:Cx) (rows loops:List bc):Prop where
 all:ff lim c (rows++loops)
 flat:∀ g∈rows,g.flat
theorem dw.nil {lim:Nat} {c:Cx}:dw lim c [] []:=⟨.nil,fun g h=>by simp at h⟩
theorem dw.step {G:List (Nat × DV)} {lim:Nat} {c c':Cx} {rows loops:List bc} (h:dw lim c rows loops) (ho:aC G c) (st:Step c c'):dw lim c' rows loops:=⟨h.all.step ho st,h.flat⟩
structure FX where
 f0:FuncId
 cy:Option Nat
 aA:List Nat
 cls:List bP
 loops:List bc
 inl:List FuncId
structure cu where
 n:Nat
 Q:AV→List ab→Prop
 rows:List bc
 fx:FX
@[irreducible] def AW (E : Env) (f0 : FuncId) (cur : bP) (cls : List bP) (h : List ab) (R : cu) : Prop :=
 ∀ (c0 c:Cx) (t:Array Value) (ts:List (Array Value)),c0.heap.length=R.n→cur.ok→c.heap=h→aC E.G c→dY c0 c→dw c0.w.heap.size c R.rows R.fx.loops→VS c cur.fY t→CR c cls ts→∀ cs,∃ (c':Cx) (fr:Frame) (r:AV) (v:Value),
  R.Q r c'.heap∧VR c' r v∧aC E.G c'∧dY c0 c'∧Steps E.P (lone (cur.bA t) (ev cls ts++cs) c.w) (lone fr cs c'.w)∧fr.fn=f0∧fr.leaving E.P c'.w (.returned v)
def AF (E:Env) (cur:bP) (cls:List bP) (h:List ab) (cur':bP) (cls':List bP) (h':List ab):Prop :=
 ∀ (c:Cx) (t:Array Value) (ts:List (Array Value)),cur.ok→c.heap=h→aC E.G c→VS c cur.fY t→CR c cls ts→∃ (c':Cx) (t':Array Value) (dD:List (Array Value)),
  cur'.ok∧c'.heap=h'∧aC E.G c'∧VS c' cur'.fY t'∧CR c' cls' dD∧Step c c'∧∀ cs,Steps E.P (lone (cur.bA t) (ev cls ts++cs) c.w) (lone (cur'.bA t') (ev cls' dD++cs) c'.w)
theorem AW.iQ {E:Env} {f0:FuncId} {cur cur':bP} {cls cls':List bP} {h h':List ab} {R:cu} (hl:AF E cur cls h cur' cls' h') (H:AW E f0 cur' cls' h' R):AW E f0 cur cls h R:=by
 unfold AW at H ⊢;intro c0 c t ts h0 h1 h2 h3 hr bE h4 h5 cs;obtain ⟨c',t',dD,k1,k2,k3,k4,k5,k6,k7⟩:=hl c t ts h1 h2 h3 h4 h5;obtain ⟨c2,fr,r,v,e1,e2,e3,e4,e5,e6⟩:=H c0 c' t' dD h0 k1 k2 k3 (hr.step k6) (bE.step h3 k6) k4 k5 cs;exact ⟨c2,fr,r,v,e1,e2,e3,e4,(k7 cs).trans e5,e6⟩
section
variable {E:Env} {f0:FuncId} {af:gm} {k:List aH} {s:List AV} {cls:List bP} {h:List ab} {R:cu}
theorem AF.todo {td AG:List aH} (aJ:(∀ i∈td,i.ok)→∀ i∈AG,i.ok) (hs:∀ (a:Act) (cs:List Frame) (w:World),step E.P (lone ((bf af).atR a (td.map aH.bA)) cs w) = .next (lone ((bf af).atR a (AG.map aH.bA)) cs w)) :
  AF E ⟨af,td,s⟩ cls h ⟨af,AG,s⟩ cls h:=fun c t ts h1 h2 h3 h4 h5 =>
 ⟨c,t,ts,aJ h1,h2,h3,h4,h5,Step.refl c h3.bG,fun _ => .one (hs _ _ _)⟩
theorem dE {i:aH} (h:∀ j∈i::k,j.ok):∀ j∈k,j.ok:=fun j hj=>h j (List.mem_cons_of_mem _ hj)
theorem sH {c:Code}:(aH.code c).ok:=trivial
theorem Lp {n:Nat}:(aH.inBlock n).ok:=trivial
theorem EH {c:Code}:(aH.inLoop c).ok:=trivial
theorem fm {i:aH} (h:i.ok) (hk:∀ j∈k,j.ok):∀ j∈i::k,j.ok:=fun j hj=>by
 rcases List.mem_cons.1 hj with rfl | hj
 ·exact h
 ·exact hk j hj
theorem AW.skip (H:AW E f0 ⟨af,k,s⟩ cls h R):AW E f0 ⟨af,.code .skip::k,s⟩ cls h R := .iQ (.todo dE fun _ _ _=>stepR_skip) H
theorem AW.inBlock {id:Nat} (H:AW E f0 ⟨af,k,s⟩ cls h R):AW E f0 ⟨af,.inBlock id::k,s⟩ cls h R := .iQ (.todo dE fun _ _ _=>stepR_inBlock) H
theorem AW.seq {a b:Code} (H:AW E f0 ⟨af,.code a :: .code b::k,s⟩ cls h R):AW E f0 ⟨af,.code (.seq a b)::k,s⟩ cls h R := .iQ (.todo (fun h=>fm sH (fm sH (dE h))) fun _ _ _=>stepR_seq) H
theorem AW.block {id:Nat} {b:Code} (H:AW E f0 ⟨af,.code b :: .inBlock id::k,s⟩ cls h R):AW E f0 ⟨af,.code (.block id b)::k,s⟩ cls h R := .iQ (.todo (fun h=>fm sH (fm Lp (dE h))) fun _ _ _=>stepR_block) H
theorem AW.loop {b:Code} (H:AW E f0 ⟨af,.code b :: .inLoop b::k,s⟩ cls h R):AW E f0 ⟨af,.code (.loop b)::k,s⟩ cls h R := .iQ (.todo (fun h=>fm sH (fm EH (dE h))) fun _ _ _=>stepR_loop) H
theorem AW.inLoop {b:Code} (H:AW E f0 ⟨af,.code b :: .inLoop b::k,s⟩ cls h R):AW E f0 ⟨af,.inLoop b::k,s⟩ cls h R := .iQ (.todo (fun h=>fm sH (fm EH (dE h))) fun _ _ _=>stepR_inLoop) H
theorem AW.region {id:Nat} {ops:Array Oper} (H:AW E f0 ⟨af,.a8 ops ops.toList::k,s⟩ cls h R):AW E f0 ⟨af,.code (.region id ops false)::k,s⟩ cls h R :=
 .iQ (.todo (fun h=>fm (i := .a8 ops ops.toList) ⟨0,by simp,by simp⟩ (dE h)) fun a cs w=>by
  rw [List.map_cons,List.map_cons];simp only [aH.bA];rw [stepR_region]
  simp) H
theorem AW.Lq {ops:Array Oper} (H:AW E f0 ⟨af,k,s⟩ cls h R):AW E f0 ⟨af,.a8 ops []::k,s⟩ cls h R :=
 .iQ (.todo dE fun a cs w=>by
  rw [List.map_cons];simp only [aH.bA,List.length_nil,Nat.sub_zero]
  rw [List.drop_of_length_le (by simp),stepR_region_end]) H
def kr (id:Nat):List aH→Option (List aH)
 | .inBlock i::r=>match Nat.beq i id with
  |true=>some r
  |false=>kr id r
 |_::r=>kr id r
 | []=>none
theorem qD {id:Nat}:∀ {l r:List aH},kr id l=some r→exitTo id (l.map aH.bA)=some (r.map aH.bA)
 | .inBlock i::l,r,hl=>by
  simp only [kr] at hl;simp only [List.map_cons,aH.bA,exitTo];split at hl
  ·rename_i q; cases hl; rw [if_pos (by simpa using Nat.eq_of_beq_eq_true q)]
  ·rename_i q
   rw [if_neg (by intro hh; have : i = id := by simpa using hh
                  rw [this, Nat.beq_refl] at q; cases q)]
   exact qD hl
 | .code c::l,r,hl=>qD (l:=l) hl
 | .inLoop c::l,r,hl=>qD (l:=l) hl
 | .mR c::l,r,hl=>qD (l:=l) hl
 | .nX::l,r,hl=>qD (l:=l) hl
 | .a8 ops q::l,r,hl=>qD (l:=l) hl
theorem qE {id:Nat}:∀ {l r:List aH},kr id l=some r→(∀ i∈l,i.ok)→∀ i∈r,i.ok
 | .inBlock i::l,r,hl,hk=>by
  simp only [kr] at hl;split at hl
  ·cases hl; exact dE hk
  ·exact qE hl (dE hk)
 | .code c::l,r,hl,hk=>qE (l:=l) hl (dE hk)
 | .inLoop c::l,r,hl,hk=>qE (l:=l) hl (dE hk)
 | .mR c::l,r,hl,hk=>qE (l:=l) hl (dE hk)
 | .nX::l,r,hl,hk=>qE (l:=l) hl (dE hk)
 | .a8 ops q::l,r,hl,hk=>qE (l:=l) hl (dE hk)
theorem AW.exit {id:Nat} {r:List aH} (hr:kr id k=some r) (H:AW E f0 ⟨af,r,s⟩ cls h R):AW E f0 ⟨af,.code (.exit id)::k,s⟩ cls h R :=
 .iQ (.todo (fun h=>qE hr (dE h)) fun _ _ _=>stepR_exit (qD hr)) H
theorem AW.cond {x:Operand} {a b:Code} {t:Bool} (hx:aQ E.G s x (.d (.bool t))) (H:AW E f0 ⟨af,.code (if t then a else b)::k,s⟩ cls h R):AW E f0 ⟨af,.code (.cond x a b)::k,s⟩ cls h R :=
 .iQ (cur':=⟨af,.code (if t then a else b)::k,s⟩) (cls':=cls) (h':=h) (fun c t' ts h1 h2 h3 h4 h5=>⟨c,t',ts,fm sH (dE h1),h2,h3,h4,h5,Step.refl c h3.bG,fun _ => .one (stepR_cond (qw (hx c ⟨t',marks af.aA⟩ h3 h4)))⟩) H
theorem ku {ops:Array Oper} {o:Oper} {l:List Oper} (hk:(aH.a8 ops (o::l)).ok):∃ i,ops[i]? = some o∧(aH.a8 ops (o::l)).bA = .inRegion ops (i::(List.range ops.size).drop (ops.size - l.length))∧(aH.a8 ops l).ok:=by
 obtain ⟨n,h1,h2⟩:=hk;have h3:(ops.toList.drop n).length=l.length+1:=by rw [← h2]; rfl
 have h4:ops.size - n=l.length+1:=by simpa using h3
 have hn:n<ops.size:=by omega
 refine ⟨n,?_,?_,n+1,by omega,?_⟩
 ·have:=congrArg (·[0]?) h2;simp at this
  simpa using this.symm
 ·simp only [aH.bA,List.length_cons]
  congr 1
  rw [show ops.size - (l.length+1)=n by omega,show ops.size - l.length=n+1 by omega];rw [List.drop_eq_getElem_cons (by simpa using hn)];simp
 ·have:=congrArg List.tail h2
  simpa using this
theorem pb {P:Program} {o:Oper} {ρ : Operand→Value} {ro:Option Nat} {w w':World} {n:Next} (h:(execOp ρ o).run P w = .ok n w') (hn:∀ d,n ≠ .defer d):(o.semAt ro ρ).run P w = .ok n w':=by
 rw [Oper.semAt_eq]
 ·exact h
 ·intro c hc;simp only [execOp,hc,Sem.run_bind] at h;cases hr:(resolve ρ c o.type).run P w with
  |ok d w1 =>
   rw [hr] at h;simp only [Result.andThen_ok,Sem.run_pure] at h;cases h;exact hn d rfl
  |halt a b=>rw [hr] at h; cases h
theorem sJ {P:Program} {b:Frame} {a:Act} {k:List Item} {cs:List Frame} {w w':World} {ops:Array Oper} {i:Nat} {rest:List Nat} {o:Oper} {v:Value} (ho:ops[i]? = some o) (hw:Region.wanted o (yielded ops a.tmps)=true) (hd:Eu P o a w v w') :
  step P (lone (b.atR a (.inRegion ops (i::rest)::k)) cs w) = .next (lone (b.atR (a.put o.dst v) (.inRegion ops rest::k)) cs w'):=by
 have hg:=stepGR_op (P:=P) (b:=b) (k:=k) (cs:=cs) (w:=w) (rest:=rest) ho hw;have kv:∀ v,(b.atR a (.inRegion ops (i::rest)::k)).finish v=b.atR (a.put o.dst v) (.inRegion ops rest::k):=by
  intro v; rw [Frame.finish_atR,ho]; rfl
 rcases hd with hr | ⟨hr,rfl⟩
 ·exact step_lone_go (by rw [hg,← kv]; simp [stepG.apply,pb hr])
 ·exact step_lone_go (by rw [hg,← kv]; simp [stepG.apply,pb hr])
def bX (s:List AV) (d:Option Nat) (v:AV):List AV:=match d with
 |some d=>s.set d v
 |none=>s
theorem dF {α:Sort _} (s:List AV) (d:Option Nat) (v:AV) (k:List AV→α):bY s d v k=k (bX s d v):=by
 cases d with
 |none=>rfl
 |some d=>simp only [bY,fK,bX]
theorem VS.bX {c:Cx} {a:Act} (hs:VS c s a.tmps) (d:Option Nat) {x:AV} {v:Value} (hv:VR c x v):VS c (bX s d x) (a.put d v).tmps:=by
 cases d with
 |none=>exact hs
 |some d=>exact hs.put d hv
theorem put_defers (a:Act) (d:Option Nat) (v:Value):(a.put d v)=⟨(a.put d v).tmps,a.defers⟩:=by cases d <;> rfl
def ig (ops:Array Oper) (o:Oper) (s:List AV) (b:Bool):Prop:=∀ (c:Cx) (t:Array Value),VS c s t→Region.wanted o (yielded ops t)=b
theorem fA {ops:Array Oper} {o:Oper} (h:o.guard=none):ig ops o s true:=fun _ _ _=>by simp [Region.wanted,h]
theorem AH {ops:Array Oper} {o oj:Oper} {j d:Nat} {g b:Bool} (h:o.guard=some (j,g)) (hj:ops.toList[j]? = some oj) (hd:oj.dst=some d) (hs:s[d]? = some (.d (.bool b))):ig ops o s (b==g):=fun c t hv=>by
 have gp:d<t.size:=by
  rw [← hv.1];rcases Nat.lt_or_ge d s.length with h | h
  ·exact h
  ·rw [List.getElem?_eq_none h] at hs; cases hs
 have ht:t[d]? = some (.bool b):=by
  rw [Array.getElem?_eq_getElem gp,qw (hv.2 d _ _ hs (Array.getElem?_eq_getElem gp))]
 have dC:ops[j]? = some oj:=by simpa using hj
 simp only [Region.wanted,h,yielded,dC,hd,Option.bind_some,ht];cases b <;> cases g <;> rfl
theorem EI {ops:Array Oper} {o oj:Oper} {j d:Nat} {g:Bool} (h:o.guard=some (j,g)) (hj:ops.toList[j]? = some oj) (hd:oj.dst=some d) (hs:s[d]? = some (.d .undef)):ig ops o s false:=fun c t hv=>by
 have gp:d<t.size:=by
  rw [← hv.1];rcases Nat.lt_or_ge d s.length with h | h
  ·exact h
  ·rw [List.getElem?_eq_none h] at hs; cases hs
 have ht:t[d]? = some Go.undef:=by
  have:=hv.2 d _ _ hs (Array.getElem?_eq_getElem gp);rw [Array.getElem?_eq_getElem gp];generalize t[d]=u at this;cases this with
  |d _ _ hx=>cases hx; rfl
 have dC:ops[j]? = some oj:=by simpa using hj
 simp only [Region.wanted,h,yielded,dC,hd,Option.bind_some,ht];rfl
theorem AW.op {ops:Array Oper} {o:Oper} {l:List Oper} {v:AV} {h':List ab} (hw:ig ops o s true) (ho:bw E o.op s h v h') (H:AW E f0 ⟨af,.a8 ops l::k,bX s o.dst v⟩ cls h' R):AW E f0 ⟨af,.a8 ops (o::l)::k,s⟩ cls h R :=
 .iQ (fun c t ts h1 h2 h3 h4 h5=>by
  obtain ⟨i,hi,hc,aJ⟩:=ku (h1 _ (List.mem_cons_self ..));obtain ⟨c',u,k1,k2,k3,k4,k5⟩:=ho o c ⟨t,marks af.aA⟩ rfl h2 h3 h4;refine ⟨c',((⟨t,marks af.aA⟩:Act).put o.dst u).tmps,ts,fm aJ (dE h1),k2,k3,VS.bX (a:=⟨t,marks af.aA⟩) (k5.vs h4) o.dst k4,k5.cr h5,k5,fun cs => .one ?_⟩;simp only [bP.bA,List.map_cons,hc];rw [sJ hi (hw c t h4) k1,put_defers]
  rfl) H
theorem AW.EJ {ops:Array Oper} {o:Oper} {l:List Oper} (hw:ig ops o s false) (H:AW E f0 ⟨af,.a8 ops l::k,bX s o.dst (.d .undef)⟩ cls h R):AW E f0 ⟨af,.a8 ops (o::l)::k,s⟩ cls h R :=
 .iQ (fun c t ts h1 h2 h3 h4 h5=>by
  obtain ⟨i,hi,hc,aJ⟩:=ku (h1 _ (List.mem_cons_self ..));refine ⟨c,((⟨t,marks af.aA⟩:Act).put o.dst Go.undef).tmps,ts,fm aJ (dE h1),h2,h3,VS.bX (a:=⟨t,marks af.aA⟩) h4 o.dst (.d _ _ .undef),h5,Step.refl c h3.bG,fun cs => .one ?_⟩;simp only [bP.bA,List.map_cons,hc];rw [stepR_op_skip (by simp [hi]; exact hw c t h4)];simp only [hi,Option.bind_some];rw [put_defers]
  rfl) H
end
end Go.aw
end
section
namespace Go.aw
open Go Go.RowKit
def gV (bad:Nat→Prop) (w:World) (l:List DV) (vs:List Value):Prop:=l.length=vs.length∧∀ (j:Nat) (x:DV) (v:Value),l[j]? = some x→vs[j]? = some v→VD bad w x v
def pc (G:List (Nat × DV)) (ax:Nat→Prop) (w:World):Prop:=∀ g e,(g,e)∈G→VR ⟨fun _=>none,[],ax,w⟩ (.bD e 0) (.pointer (some ⟨g,0,none⟩))
def pf (P : Program) (f : FuncId) : Prop := ∃ fn, P.funcs[f]? = some fn ∧ fn.body.isNone = false ∧ (fn.name == "runtime.NumGoroutine") = false
@[irreducible] def au (E : Env) (f : FuncId) (args : List DV) (R : DV → Prop) : Prop :=
 pf E.P f∧∀ (ax:Nat→Prop) (w:World) (vs:List Value),(∀ b,ax b→b<w.heap.size)→pc E.G ax w→gV ax w args vs →
  Calls E.P f vs.toArray w fun e w'=>∃ v r,e = .returned v∧R r∧VD ax w' r v∧Proofs.YtfmdaiojokniiaaGreatDoor.Ext w w'
theorem qF {ax:Nat→Prop} {w:World} {h:List ab} {b:Nat}:(⟨fun _=>none,h,ax,w⟩:Cx).bad b↔ax b :=
 ⟨fun hb=>hb.elim id (fun ⟨_,_,h⟩=>(by cases h)),.inl⟩
theorem qG {ax:Nat→Prop} {w:World} {h:List ab} {x:DV} {v:Value} (hv:VD ax w x v):VD (⟨fun _=>none,h,ax,w⟩:Cx).bad w x v :=
 hv.mono fun _ _ hn=>⟨fun hb=>hn (qF.1 hb),rfl⟩
theorem au.mono {E:Env} {f:FuncId} {args:List DV} {R R':DV→Prop} (H:au E f args R) (hr:∀ r,R r→R' r):au E f args R':=by
 unfold au at H ⊢;exact ⟨H.1,fun ax w vs h1 h2 h3=>(H.2 ax w vs h1 h2 h3).mono fun e w' ⟨v,r,k1,k2,k3,k4⟩=>⟨v,r,k1,hr r k2,k3,k4⟩⟩
def lu (args:List AV) (n:Nat):List AV:=args++List.replicate (n - args.length) (.d .undef)
theorem AI {c:Cx} {args:List AV} {vs:List Value} (n:Nat) (hv:VL c args vs):VS c (lu args n) (vs.toArray++Array.replicate (n - vs.toArray.size) undef):=by
 have hl:=hv.1;refine ⟨by simp [lu,hl],fun i x v hx hu=>?_⟩;simp only [lu] at hx;rcases Nat.lt_or_ge i args.length with hi | hi
 ·rw [List.getElem?_append_left hi] at hx;rw [Array.getElem?_append_left (by simp; omega)] at hu;exact hv.2 i x v hx (by simpa using hu)
 ·rw [List.getElem?_append_right hi,List.getElem?_replicate] at hx;rw [Array.getElem?_append_right (by simp; omega)] at hu;split at hx
  ·cases hx;simp [Array.getElem?_replicate] at hu;obtain ⟨-,rfl⟩:=hu;exact .d _ _ .undef
  ·cases hx
section
variable {E:Env} {f0:FuncId} {af:gm} {k:List aH} {s:List AV} {cls:List bP} {h:List ab} {R:cu}
theorem Rel.ext {c0 c:Cx} (h:Rel c0 c) (hn:∀ i,c0.own i=none):Proofs.YtfmdaiojokniiaaGreatDoor.Ext c0.w c.w:=⟨h.os,h.tape,h.output,h.size,fun b hb=>h.keep b hb (fun i n hi=>by rw [hn i] at hi; cases hi)⟩
@[irreducible] def aq (E : Env) (f : FuncId) (h : List ab) (args : List AV) (Q : AV → List ab → Prop) : Prop :=
 pf E.P f∧sG h∧∀ (c:Cx) (vs:List Value),c.heap=h→aC E.G c→VL c args vs →
  Calls E.P f vs.toArray c.w fun e w'=>∃ (c':Cx) (r:AV) (v:Value),e = .returned v∧c'.w=w'∧Q r c'.heap∧VR c' r v∧aC E.G c'∧Rel c c'
theorem aq.mono {E:Env} {f:FuncId} {h:List ab} {args:List AV} {Q Q':AV→List ab→Prop} (H:aq E f h args Q) (hq:∀ r h,Q r h→Q' r h):aq E f h args Q':=by
 unfold aq at H ⊢;exact ⟨H.1,H.2.1,fun c vs h1 h2 h3=>(H.2.2 c vs h1 h2 h3).mono fun e w' ⟨c',r,v,k1,k2,k3,k4⟩=>⟨c',r,v,k1,k2,hq _ _ k3,k4⟩⟩
theorem aq.EK {f : FuncId} {fn : Func} {body : Code} {args : List AV} {Q : AV → List ab → Prop} (hf : E.P.funcs[f]? = some fn) (hb : fn.body = some body) (hn : (fn.name == "runtime.NumGoroutine") = false) (lv : sG h)
  (H:AW E f ⟨⟨f,none,[]⟩,[.code body],lu args fn.ntmps⟩ [] h ⟨h.length,Q,[],⟨f,none,[],[],[],[]⟩⟩):aq E f h args Q:=by
 unfold AW at H;unfold aq;refine ⟨⟨fn,hf,by rw [hb]; rfl,hn⟩,lv,fun c vs h1 h2 h3=>?_⟩;intro cs;obtain ⟨c',fr,r,v,e1,e2,e3,e4,e5,e6,e7⟩:=H c c _ [] (by rw [h1]) (fun i hi=>by simp at hi; subst hi; trivial) h1 h2 ((Rel.refl c (by rw [h1]; exact lv)).x h2.bG h2.bk) .nil (AI fn.ntmps h3) trivial cs;refine ⟨.returned v,c'.w,fr,⟨c'.o9 c.ax,r,v,rfl,rfl,e1,AD e4.ax e2,e3.o9 e4.ax,e4.clean⟩,?_,e6,e7⟩;have Lr:Frame.enter E.P f vs.toArray .normal=(⟨⟨f,none,[]⟩,[.code body],lu args fn.ntmps⟩:bP).bA (vs.toArray++Array.replicate (fn.ntmps - vs.toArray.size) undef):=by
  simp [Frame.enter,bP.bA,Frame.atR,hf,hb,bf,aH.bA,marks]
 show Steps E.P _ _;rw [Lr];exact e5
theorem uQ {P:Program} {o:Oper} {a:Act} {w:World} {fx:Operand} {args:Array Operand} {ts:Array TypeId} {f:FuncId} {v1 v2:Array Value} (h1:o.op = .call { callee := .value fx,args:=args,argTypes:=ts }) (hf:a.eval fx = .func (.func f) v1 v2) (hb:pf P f) :
  (execOp a.eval o).run P w = .ok (.enter f (v1++args.map a.eval++v2)) w:=by
 obtain ⟨fn,g1,g2,g3⟩:=hb;simp only [execOp,h1,resolve,hf,Deferred.ofValue,invoke,callFunc,Sem.run_bind,Sem.run_pure,Result.andThen_ok,program,Sem.run,g1,g3,g2,Bool.false_eq_true,if_false]
theorem AJ {P:Program} {b:Frame} {a:Act} {k:List Item} {cs:List Frame} {w:World} {ops:Array Oper} {i:Nat} {rest:List Nat} {o:Oper} {f:FuncId} {args:Array Value} (ho:ops[i]? = some o) (hw:Region.wanted o (yielded ops a.tmps)=true)
  (hr:(execOp a.eval o).run P w = .ok (.enter f args) w) :
  step P (lone (b.atR a (.inRegion ops (i::rest)::k)) cs w) = .next (lone (Frame.enter P f args .normal) (b.atR a (.inRegion ops (i::rest)::k)::cs) w):=by
 have hg:=stepGR_op (P:=P) (b:=b) (k:=k) (cs:=cs) (w:=w) (rest:=rest) ho hw;have qH:=pb (ro:=b.roundOf) hr (by simp);exact step_lone_go (by rw [hg]; simp [stepG.apply,qH,Frame.atR])
theorem jn {c:Cx} {f:Fn} {a1 a2:List AV} {v:Value} (hv:VR c (.fn f a1 a2) v):∃ v1 v2:List Value,v = .func f v1.toArray v2.toArray∧VL c a1 v1∧VL c a2 v2:=by
 cases hv with
 |fn _ _ _ v1 v2 h1 h2 h3 h4=>exact ⟨v1.toList,v2.toList,by simp,⟨by simpa using h1,fun j x v hx hu=>h3 j x v hx (by simpa using hu)⟩,⟨by simpa using h2,fun j x v hx hu=>h4 j x v hx (by simpa using hu)⟩⟩
theorem VL.append {c:Cx} {a1 a2:List AV} {v1 v2:List Value} (h1:VL c a1 v1) (h2:VL c a2 v2):VL c (a1++a2) (v1++v2):=by
 refine ⟨by simp [h1.1,h2.1],fun j x v hx hv=>?_⟩;rcases Nat.lt_or_ge j a1.length with hj | hj
 ·rw [List.getElem?_append_left hj] at hx;rw [List.getElem?_append_left (by rw [← h1.1]; exact hj)] at hv;exact h1.2 j x v hx hv
 ·rw [List.getElem?_append_right hj] at hx;rw [List.getElem?_append_right (by rw [← h1.1]; exact hj),← h1.1] at hv;exact h2.2 _ x v hx hv
theorem AW.call {ops:Array Oper} {o:Oper} {l:List Oper} {fx:Operand} {args:Array Operand} {ts:Array TypeId} {f:FuncId} {a1 a2 av:List AV} {ds:List DV} {R1:DV→Prop} (hw:ig ops o s true) (ho:o.op = .call { callee := .value fx,args:=args,argTypes:=ts })
  (hf:aQ E.G s fx (.fn (.func f) a1 a2)) (ha:gS E.G s args.toList av) (hd:a1++av++a2=ds.map .d) (hc:au E f ds R1)
  (H:∀ r,R1 r→AW E f0 ⟨af,.a8 ops l::k,bX s o.dst (.d r)⟩ cls h R):AW E f0 ⟨af,.a8 ops (o::l)::k,s⟩ cls h R:=by
 unfold AW at H ⊢;unfold au at hc;intro c0 c t ts h0 h1 h2 h3 hr bE h4 h5 cs;obtain ⟨i,hi,eB,aJ⟩:=ku (h1 _ (List.mem_cons_self ..));obtain ⟨v1,v2,e1,e2,e3⟩:=jn (hf c ⟨t,marks af.aA⟩ h3 h4);have e4:=ha c ⟨t,marks af.aA⟩ h3 h4;have e5:=(e2.append e4).append e3;rw [hd] at e5;have qI:∀ b,c.bad b→b<c.w.heap.size:=fun b hb=>hb.elim (h3.bG b) fun ⟨j,n,hj⟩=>(h3.bk j b n hj).1;have uR:pc E.G c.bad c.w:=fun g e hg=>by
  have hp:∀ p,VR c (.bD e 0) p→VR ⟨fun _=>none,[],c.bad,c.w⟩ (.bD e 0) p:=fun p hp=>by
   cases hp with
   |bD _ _ blk o' fv k1 k2 k3 k4=>exact .bD _ _ blk o' fv (fun hb=>k1 (qF.1 hb)) k2 k3 (fun j x hx=>qG (k4 j x hx))
  exact hp _ (h3.eJ g e hg)
 obtain ⟨e,w',fr,⟨v,r,rfl,hR,hv,hx⟩,AK,AL,AM⟩:=hc.2 c.bad c.w _ qI uR ⟨by simpa using e5.1,e5.mN⟩ ((bf af).atR ⟨t,marks af.aA⟩ (.inRegion ops (i::(List.range ops.size).drop (ops.size - l.length))::k.map aH.bA)::(ev cls ts++cs));obtain ⟨k1,k2⟩:=h3.grow hx;have l5:VS (c.dL w') (bX s o.dst (.d r)) ((⟨t,marks af.aA⟩:Act).put o.dst v).tmps:=VS.bX (a:=⟨t,marks af.aA⟩) (k2.vs h4) o.dst (.d _ _ hv);obtain ⟨c2,qJ,r2,u2,q1,q2,q3,uS,q4,q5,q6⟩:=H r hR c0 (c.dL w') _ ts h0 (fm aJ (dE h1)) h2 k1 (hr.step k2) (bE.step h3 k2) l5 (k2.cr h5) cs;refine ⟨c2,qJ,r2,u2,q1,q2,q3,uS,?_,q5,q6⟩;have cn:=uQ (P:=E.P) (w:=c.w) (a:=⟨t,marks af.aA⟩) ho e1 hc.1;have gq:(v1.toArray++args.map (⟨t,marks af.aA⟩:Act).eval++v2.toArray)=(v1++args.toList.map (⟨t,marks af.aA⟩:Act).eval++v2).toArray:=by
  apply Array.ext';simp
 rw [gq] at cn;have s1:=AJ (P:=E.P) (b:=bf af) (k:=k.map aH.bA) (cs:=ev cls ts++cs) (rest:=(List.range ops.size).drop (ops.size - l.length)) hi (hw c t h4) cn;have s2:=step_leave_returned (c:=(bf af).atR ⟨t,marks af.aA⟩ (.inRegion ops (i::(List.range ops.size).drop (ops.size - l.length))::k.map aH.bA)) (cs:=ev cls ts++cs) AM;rw [Frame.finish_atR,hi] at s2;have AN:(⟨af,.a8 ops (o::l)::k,s⟩:bP).bA t=(bf af).atR ⟨t,marks af.aA⟩ (.inRegion ops (i::(List.range ops.size).drop (ops.size - l.length))::k.map aH.bA):=by
  simp only [bP.bA,List.map_cons,eB]
 rw [AN];refine .head s1 (Steps.trans AK (.head s2 ?_));have bB:(bf af).atR ((⟨t,marks af.aA⟩:Act).put ((some o).bind (·.dst)) v) (.inRegion ops ((List.range ops.size).drop (ops.size - l.length))::k.map aH.bA)=(⟨af,.a8 ops l::k,bX s o.dst (.d r)⟩:bP).bA ((⟨t,marks af.aA⟩:Act).put o.dst v).tmps:=by
  simp only [bP.bA,List.map_cons,aH.bA,Option.bind_some];rw [put_defers]
 rw [bB];exact q4
end
end Go.aw
end
section
namespace Go.aw
open Go Go.RowKit
section
variable {E:Env} {f0 af:FuncId} {k:List aH} {s:List AV} {cls:List bP} {h:List ab} {R:cu}
def sK (G:List (Nat × DV)) (h:List ab) (x:AV) (r:DV):Prop:=∀ (c:Cx) (v:Value),aC G c→c.heap=h→VR c x v→VD c.ax c.w r v
theorem EL {c:Cx} {x:DV} {v:Value} (hv:VD c.bad c.w x v):VD c.ax c.w x v:=hv.mono fun _ _ hn=>⟨fun hb=>hn (.inl hb),rfl⟩
theorem Ls {G:List (Nat × DV)} (x:DV):sK G h (.d x) x:=fun c v _ _ hv=>by cases hv with | d _ _ hv=>exact EL hv
theorem Lt {G:List (Nat × DV)} {b g:Nat} {ts:Nat × Nat} {l:List DV} (hb:h[b]? = some (.arr g ts l)):sK G h (.own b g) (.sl l):=fun c v ho hh hv=>by
 subst hh;obtain ⟨q0,q1,q2⟩:=ho.box b _ hb;cases hv with
 |own _ _ _ l' blk cap k1 k2 =>
  rw [hb] at k1; cases k1;rcases q2 with ⟨q2,-⟩ | ⟨ib,gR,vs,q2,q3,q4,q5,q6,q7⟩
  ·rw [k2] at q2; cases q2
  ·rw [k2] at q2; cases q2;have bE:=jM q3;refine .sl l blk 0 cap ts.2 (fun i j=>vs.toList.getD (i*ts.2+j) undef) (fun _=>ho.sep b blk cap k2) q0 q5 q1 (fun i j e x he hx=>?_) (fun i j e x he hx=>?_) (fun i j e x he hx=>?_)
   ·obtain ⟨v,g1,-,g2⟩:=q7 i j e x he hx;rw [bE (i*ts.2+j) v (by simpa using g1)];simp [List.getD,g1]
   ·obtain ⟨v,g1,-,g2⟩:=q7 i j e x he hx;simp only [List.getD,Array.getElem?_toList,g1,Option.getD_some];exact EL g2
   ·obtain ⟨v,g1,g2,-⟩:=q7 i j e x he hx;simp only [List.getD,Array.getElem?_toList,g1,Option.getD_some];exact g2
 |fU _ _ _ k1 k2=>rw [hb] at k1; cases k1; exact .slnil
 |iN _ _ g' _ _ _ k1 k2 _=>rw [hb] at k1; cases k1; omega
 |hY _ _ _ k1 _=>rw [hb] at k1; cases k1
 |kn _ _ _ _ _ _ k1 _ _=>rw [hb] at k1; cases k1
def xP {α:Sort _} (h:List ab) (x:AV) (stop:α) (k:DV→α):α :=
 match x with
 | .d x=>k x
 | .own b g=>aI h b stop fun
  | .arr g' _ l=>match Nat.beq g g' with
   |true=>k (.sl l)
   |false=>stop
  |_=>stop
 |_=>stop
theorem EM {G:List (Nat × DV)} {x:AV} {stop:Prop} {k:DV→Prop} (H:xP h x stop k):stop∨∃ r,sK G h x r∧k r:=by
 unfold xP at H;split at H
 ·exact .inr ⟨_,Ls _,H⟩
 ·rcases aS H with h | ⟨bx,hb,H⟩
  ·exact .inl h
  split at H
  ·split at H
   ·rename_i q;have:=Nat.eq_of_beq_eq_true q;subst this;exact .inr ⟨_,Lt hb,H⟩
   ·exact .inl H
  ·exact .inl H
 ·exact .inl H
def uT {α:Sort _} (d:AV→α→(DV→α)→α):List AV→(stop:α)→(List DV→α)→α
 | [],_,k=>k []
 |x::l,stop,k=>d x stop fun r=>uT d l stop fun l'=>k (r::l')
def Lu (G:List (Nat × DV)) (h:List ab) (l:List AV) (r:List DV):Prop:=∀ (c:Cx) (vs:List Value),aC G c→c.heap=h→VL c l vs→gV c.ax c.w r vs
theorem AO {G:List (Nat × DV)} {d:AV→Prop→(DV→Prop)→Prop} (hd:∀ {x:AV} {stop:Prop} {k:DV→Prop},d x stop k→stop∨∃ r,sK G h x r∧k r) {stop:Prop}:∀ {l:List AV} {k:List DV→Prop},uT d l stop k→stop∨∃ r,Lu G h l r∧k r
 | [],k,H => .inr ⟨[],fun c vs _ _ hv=>⟨by simpa using hv.1,fun j x v hx=>by simp at hx⟩,H⟩
 |x::l,k,H=>by
  simp only [uT] at H;rcases hd H with h | ⟨r,hr,H⟩
  ·exact .inl h
  rcases AO hd H with h | ⟨rs,Lv,H⟩
  ·exact .inl h
  refine .inr ⟨r::rs,fun c vs h1 h2 hv=>?_,H⟩;cases vs with
  |nil=>have:=hv.1; simp at this
  |cons v vs =>
   obtain ⟨g1,g2⟩:=hv.head;have g3:=Lv c vs h1 h2 g2;refine ⟨by simp [g3.1],fun j y u hy hu=>?_⟩;cases j with
   |zero=>simp at hy hu; subst hy; subst hu; exact hr c v h1 h2 g1
   |succ j=>exact g3.2 j y u (by simpa using hy) (by simpa using hu)
def xQ {α:Sort _} (h:List ab) (x:AV) (stop:α) (k:DV→α):α :=
 match x with
 | .agg l=>uT (xP h) l stop fun r=>k (.agg r)
 |x=>xP h x stop k
theorem EN {G:List (Nat × DV)} {x:AV} {stop:Prop} {k:DV→Prop} (H:xQ h x stop k):stop∨∃ r,sK G h x r∧k r:=by
 unfold xQ at H;split at H
 ·rcases AO (G:=G) (h:=h) EM H with h | ⟨r,hr,H⟩
  ·exact .inl h
  refine .inr ⟨_,fun c v h1 h2 hv=>?_,H⟩;obtain ⟨vs,rfl,ie⟩:=mO hv;have:=hr c vs h1 h2 ie;exact .agg _ _ (by simpa using this.1) fun j x v hx hu=>this.2 j x v hx (by simpa using hu)
 ·exact EM H
def sL {α:Sort _} (T:List bh) (s:List AV) (h:List ab):List ResultVar→(stop:α)→(List AV→α)→α
 | [],_,k=>k []
 | .tmp t::l,stop,k=>aI s t stop fun v=>sL T s h l stop fun l'=>k (v::l')
 | .cell a t::l,stop,k=>aI T t stop fun i=>aI s a stop fun
  | .ptr b off=>aI h b stop fun
   | .cells c=>jk i c off stop fun v=>sL T s h l stop fun l'=>k (v::l')
   |_=>stop
  |_=>stop
def qK (t:Array Value):ResultVar→Sem Value
 | .tmp t'=>pure (t.getD t' undef)
 | .cell a t'=>do loadVar t' (← asAddr (t.getD a undef))
theorem xR (hE:E.OK) {stop:Prop}:∀ {l:List ResultVar} {k:List AV→Prop},sL E.T s h l stop k→stop∨∃ r,k r∧∀ (c:Cx) (t:Array Value),c.heap=h→aC E.G c→VS c s t→∃ vs:List Value,VL c r vs∧(l.mapM (qK t)).run E.P c.w = .ok vs c.w
 | [],k,H => .inr ⟨[],H,fun c t _ _ hs=>⟨[],.nil,by simp⟩⟩
 | .tmp n::l,k,H=>by
  simp only [sL] at H;rcases aS H with h | ⟨x,hx,H⟩
  ·exact .inl h
  rcases xR hE H with h | ⟨r,hk,hr⟩
  ·exact .inl h
  refine .inr ⟨x::r,hk,fun c t hc ho hs=>?_⟩;obtain ⟨vs,h1,h2⟩:=hr c t hc ho hs;have hl:n<t.size:=by
   rw [← hs.1];rcases Nat.lt_or_ge n s.length with h | h
   ·exact h
   ·rw [List.getElem?_eq_none h] at hx; cases hx
  refine ⟨t[n]::vs,.cons (hs.2 n x _ hx (by simp [hl])) h1,?_⟩;rw [List.mapM_cons];simp only [qK,Sem.run_bind,Sem.run_pure,Result.andThen_ok,h2];simp [hl]
 | .cell a ty::l,k,H=>by
  simp only [sL] at H;rcases aS H with h | ⟨i,hi,H⟩
  ·exact .inl h
  rcases aS H with h | ⟨x,hx,H⟩
  ·exact .inl h
  split at H
  ·rename_i b off;rcases aS H with h1 | ⟨bx,hb,H⟩
   ·exact .inl h1
   split at H
   ·rename_i cs;rcases xH H with h1 | ⟨v,H,hp⟩
    ·exact .inl h1
    rcases xR hE H with h | ⟨r,hk,hr⟩
    ·exact .inl h
    refine .inr ⟨v::r,hk,fun c t hc ho hs=>?_⟩;obtain ⟨vs,h1,h2⟩:=hr c t hc ho hs;subst hc;have hl:a<t.size:=by
     rw [← hs.1];rcases Nat.lt_or_ge a s.length with h | h
     ·exact h
     ·rw [List.getElem?_eq_none h] at hx; cases hx
    obtain ⟨blk,cap,us,Vq,g1,g2,g3⟩:=ho.cells hb;obtain ⟨u,hu,nR⟩:=hp E.P ty c blk 0 us.toList (hE.types ty i hi) g3 (jM g2);have o4:=hs.2 a _ t[a] hx (by simp [hl]);have Lw:t[a] = .pointer (some ⟨blk,0+off,none⟩):=by
     generalize t[a]=p at o4;cases o4 with
     |ptr _ _ cs' ib gR bT cF=>rw [g1] at cF; cases cF; rw [Nat.zero_add]
     |gQ _ _ _ bT _=>rw [hb] at bT; cases bT
    have uU:(loadVar ty ⟨blk,0+off,none⟩).run E.P c.w = .ok u c.w:=hu;refine ⟨u::vs,.cons nR h1,?_⟩;rw [List.mapM_cons];have hg:t.getD a undef = .pointer (some ⟨blk,0+off,none⟩):=by simp [hl,Lw]
    simp only [qK,hg,asAddr,Sem.run_bind,Sem.run_pure,Result.andThen_ok,uU,h2]
   ·exact .inl H
  ·exact .inl H
def packed:List Value→Value
 | [v]=>v
 |vs => .tuple vs.toArray
theorem AP {P:Program} {fn:Func} {t:Array Value} {w:World} {vs:List Value} (h:(fn.results.toList.mapM (qK t)).run P w = .ok vs w) :
  (results fn t).run P w = .ok (packed vs) w:=by
 have e1:results fn t=(do let vs ← fn.results.mapM (qK t); pure (if h:vs.size=1 then vs[0] else .tuple vs)):=by
  rfl
 have e2:(fn.results.mapM (qK t):Sem (Array Value))=List.toArray <$> (fn.results.toList.mapM (qK t)):=by
  rw [Array.mapM_eq_mapM_toList]
 simp only [e1,e2,Sem.run_bind,map_eq_pure_bind,h,Result.andThen_ok,Sem.run_pure];cases vs with
 |nil=>rfl
 |cons v vs=>cases vs with
  |nil=>rfl
  |cons u vs=>simp [packed]
def lx {α:Sort _} (T:List bh) (s:List AV) (h:List ab) (rs:List ResultVar) (stop:α) (k:AV→List ab→α):α :=
 sL T s h rs stop fun
  | [x]=>k x h
  |l=>k (.az l) h
theorem AW.EO (hE:E.OK) {td:List aH} (l6:∀ (a:Act) (cs:List Frame) (w:World),step E.P (lone ((bf ⟨af,none,[]⟩).atR a (td.map aH.bA)) cs w) = .next (lone { (bf ⟨af,none,[]⟩).atR a (td.map aH.bA) with mode := .returning } cs w))
  {fn:Func} (hf:E.P.funcs[af]? = some fn) (H:lx E.T s h fn.results.toList False R.Q):AW E af ⟨⟨af,none,[]⟩,td,s⟩ [] h R:=by
 unfold AW;intro c0 c t ts h0 h1 h2 h3 hr bE h4 h5 cs;unfold lx at H;rcases xR hE H with h' | ⟨l,H,hl⟩
 ·cases h'
 obtain ⟨vs,g1,g2⟩:=hl c t h2 h3 h4;have fin:∀ r v,packed vs=v→R.Q r h→VR c r v→∃ (c':Cx) (fr:Frame) (r:AV) (v:Value),
   R.Q r c'.heap∧VR c' r v∧aC E.G c'∧dY c0 c'∧Steps E.P (lone ((⟨⟨af,none,[]⟩,td,s⟩:bP).bA t) (ev [] ts++cs) c.w) (lone fr cs c'.w)∧fr.fn=af∧fr.leaving E.P c'.w (.returned v):=fun r v e1 e2 e3=>by
  refine ⟨c,_,r,v,by rw [h2]; exact e2,e3,h3,hr,.one (l6 ⟨t,[]⟩ cs c.w),rfl,rfl,rfl,rfl,fn,hf,?_⟩;rw [← e1];exact AP g2
 split at H
 ·rename_i x;cases vs with
  |nil=>have:=g1.1; simp at this
  |cons v vs=>cases vs with
   |cons u vs=>have:=g1.1; simp at this
   |nil=>exact fin x v rfl H g1.head.1
 ·rename_i aE;refine fin (.az l) (.tuple vs.toArray) ?_ H (.az _ _ (by simpa using g1.1) fun j x v hx hu=>g1.2 j x v hx (by simpa using hu));cases vs with
  |nil=>rfl
  |cons v vs=>cases vs with
   |nil =>
    have:=g1.1;cases l with
    |nil=>simp at this
    |cons x l=>cases l with
     |nil=>exact absurd rfl (aE x)
     |cons y l=>simp at this
   |cons u vs=>rfl
def sM (R:DV→Prop) (x:AV) (h:List ab):Prop :=
 match x with
 | .az l=>uT (xQ h) l False fun r=>R (.az r)
 |x=>xQ h x False R
theorem Lx {G:List (Nat × DV)} {R:DV→Prop} {x:AV} (H:sM R x h):∃ r,sK G h x r∧R r:=by
 unfold sM at H;split at H
 ·rcases AO (G:=G) (h:=h) EN H with h' | ⟨r,hr,H⟩
  ·cases h'
  refine ⟨_,fun c v h1 h2 hv=>?_,H⟩;cases hv with
  |az _ vs hl bH =>
   have:=hr c vs.toList h1 h2 ⟨by simpa using hl,fun j x v hx hv=>bH j x v hx (by simpa using hv)⟩;exact .az _ _ (by simpa using this.1) fun j x v hx hu=>this.2 j x v hx (by simpa using hu)
 ·rcases EN (G:=G) H with h' | h'
  ·cases h'
  ·exact h'
theorem au.Ly {f:FuncId} {args:List DV} {R:DV→Prop} (H:aq E f [] (args.map .d) (sM R)):au E f args R:=by
 unfold aq at H;unfold au;refine ⟨H.1,fun ax w vs h1 h2 h3=>?_⟩
 let c:Cx:=⟨fun _=>none,[],ax,w⟩
 have hv:VL c (args.map .d) vs := .qx h3.1 fun j x v hx hu=>qG (h3.2 j x v hx hu);have ho:aC E.G c:=⟨h1,fun i b n hi=>(by cases hi),fun i j b n m hi=>(by cases hi),fun i b n hi=>(by cases hi),fun i bx hi=>(by simp [c] at hi),h2⟩;refine (H.2.2 c vs rfl ho hv).mono fun e w' ⟨c',r,v,k1,k2,k3,k4,k5,k6⟩=>?_;obtain ⟨d,hd,hR⟩:=Lx (G:=E.G) k3;subst k2;have:=hd c' v k5 rfl k4;rw [k6.ax] at this;exact ⟨v,d,k1,hR,this,k6.ext fun _=>rfl⟩
theorem AW.ret (hE:E.OK) {fn:Func} (hf:E.P.funcs[af]? = some fn) (H:lx E.T s h fn.results.toList False R.Q):AW E af ⟨⟨af,none,[]⟩,.code .ret::k,s⟩ [] h R := .EO hE (fun _ _ _=>stepR_ret rfl) hf H
theorem AW.LA (hE:E.OK) {fn:Func} (hf:E.P.funcs[af]? = some fn) (H:lx E.T s h fn.results.toList False R.Q):AW E af ⟨⟨af,none,[]⟩,[],s⟩ [] h R := .EO hE (fun _ _ _=>stepR_end rfl) hf H
end
end Go.aw
end
section
namespace Go.aw
open Go Go.RowKit
@[irreducible] def need (C K : Prop) : Prop := C ∧ K
theorem bp {C K:Prop} (h:C) (k:K):need C K:=by unfold need; exact ⟨h,k⟩
theorem kx {C K:Prop} (h:need C K):C∧K:=by unfold need at h; exact h
def ly (b:UInt8):DV := .int .u8 b.toNat
def two {β:Type} (l:List β) (stop:Prop) (k:β→β→Prop):Prop :=
 match l with
 | [a,b]=>k a b
 |_=>stop
theorem EP {β:Type} {l:List β} {stop:Prop} {k:β→β→Prop} (H:two l stop k):stop∨∃ a b,l=[a,b]∧k a b:=by
 unfold two at H;split at H
 ·exact .inr ⟨_,_,rfl,H⟩
 ·exact .inl H
def xS (e:Nat) (ei:bh) (h:List ab) (a:AV) (m:List DV) (stop:Prop) (k:AV→List ab→Prop):Prop :=
 match a with
 | .d .aD=>need (m.length≤2147483648∧∀ e∈m,e.cells.length=ei.size) (lg h (.arr 1 (e,ei.size) m) 0 fun h' n=>k (.own n 1) h')
 | .own b g=>aI h b stop fun
  | .arr g' ts l=>match Nat.beq g g',Nat.beq ts.1 e,Nat.beq ts.2 ei.size with
   |true,true,true=>need (l.length+m.length≤2147483648∧∀ e∈m,e.cells.length=ei.size) (fe h b (.arr (g+1) ts (l++m)) fun h'=>k (.own b (g+1)) h')
   |_,_,_=>stop
  |_=>stop
 |_=>stop
def qL (T:List bh) (G:List (Nat × DV)) (o:Op) (s:List AV) (h:List ab) (stop:Prop) (k:AV→List ab→Prop):Prop :=
 match o with
 | .call { callee := .builtin .append,args:=args,argTypes:=ts }=>two args.toList stop fun x y=>two ts.toList stop fun t0 t1=>aI T t0 stop fun i0=>aI T t1 stop fun i1 =>
  match i0.k with
  | .slice e=>aI T e stop fun ei=>match Nat.beq ei.zero.length ei.size,Nat.blt 0 ei.size,Nat.ble ei.bytes 65536 with
   |true,true,true=>bR G s x stop fun a=>bR G s y stop fun b =>
    match i1.k,b with
    | .slice _,.d (.sl m)=>xS e ei h a m stop k
    | .string,.d (.str z)=>match ei.k with
     | .int .u8=>xS e ei h a (z.map ly) stop k
     |_=>stop
    |_,_=>stop
   |_,_,_=>stop
  |_=>stop
 | .makeSlice t n c=>aI T t stop fun i=>match i.k with
  | .slice e=>aI T e stop fun ei=>match Nat.beq ei.zero.length ei.size,Nat.blt 0 ei.size,Nat.ble ei.bytes 65536,ei.zero.all DV.ek with
   |true,true,true,true=>bR G s n stop fun
    | .d (.int _ a)=>bR G s c stop fun
     | .d (.int _ b) =>
      match ei.zero with
      | [z]=>need (0≤a∧a≤b∧b≤2147483648) (lg h (.arr 0 (e,ei.size) (List.replicate a.toNat z)) 0 fun h' n=>k (.own n 0) h')
      |zl=>need (0≤a∧a≤b∧b≤2147483648) (lg h (.arr 0 (e,ei.size) (List.replicate a.toNat (.agg zl))) 0 fun h' n=>k (.own n 0) h')
     |_=>stop
    |_=>stop
   |_,_,_,_=>stop
  |_=>stop
 |_=>stop
theorem aP {β:Type} {l:List β} {n:Nat} {e:β} (h:l[n]? = some e):n<l.length:=by
 rcases Nat.lt_or_ge n l.length with h' | h'
 ·exact h'
 ·rw [List.getElem?_eq_none h'] at h; cases h
section
variable {E:Env} {s:List AV} {h:List ab} {c:Cx} {G:List (Nat × DV)} {P:Program}
structure Src (P:Program) (size:Nat) (w:World) (x:Value) (n:Nat) (news:List Value):Prop where
 len:∀ w,(Builtin.lenOf x).run P w = .ok n w
 cells:∀ d:Nat,(Builtin.firstCells size n x).run P { w with drawn:=d } = .ok news.toArray { w with drawn:=d }
 one:∀ v∈news,v.oneCell'=true
 size:news.length=n*size
theorem LB {t0 t1 e:TypeId} {i:TypeInfo} {d1:TypeDesc} (h0:P.underlying t0=some (.slice e)) (h1:P.underlying t1=some d1) (ky:∀ k,d1 ≠ .int k) (hi:P.info? e=some i) {w:World} {g n m cap:Nat} {cur:Array Value} {x:Value} {news:List Value}
  (hg:w.heap[g]? = some (.cells cur e (0,0))) (hs:Src P i.size w x m news) (qM:n+m≤cap) (fV:n*i.size+news.length≤cur.size) (ty:TypeId) :
  (Builtin.append_ #[t0,t1] ty #[.slice (some ⟨g,0,none⟩) n cap,x]).run P w = .ok (.slice (some ⟨g,0,none⟩) (n+m) cap) (w.setCells g (n*i.size) news):=by
 have aV:=run_storeCells_cells (P:=P) g (n*i.size) news 0 w (fun j hj=>by
   simp only [World.cell?,hg]
   simp; omega) (fun j hj=>by simp [World.frozen?,hg]) hs.one
 simp only [Nat.add_zero] at aV;have hc:=hs.cells w.drawn;simp [Builtin.append_,run_underlying h0,run_underlying h1,Go.sizeOf,typeInfo,hi,hs.len,qM,hc,lj,aV]
theorem LC {t0 t1 e:TypeId} {i:TypeInfo} {d1:TypeDesc} (h0:P.underlying t0=some (.slice e)) (h1:P.underlying t1=some d1) (ky:∀ k,d1 ≠ .int k) (hi:P.info? e=some i) {w:World} {n cap:Nat} {b:Option Addr} {x:Value}
  (hs:Src P i.size w x 0 []) (qM:n≤cap) (ty:TypeId):(Builtin.append_ #[t0,t1] ty #[.slice b n cap,x]).run P w = .ok (.slice b n cap) w:=by
 have hc:=hs.cells w.drawn;cases b <;> simp [Builtin.append_,run_underlying h0,run_underlying h1,Go.sizeOf,typeInfo,hi,hs.len,qM,hc,storeCells]
theorem LD {t0 t1 e:TypeId} {i:TypeInfo} {z:Value} {d1:TypeDesc} (h0:P.underlying t0=some (.slice e)) (h1:P.underlying t1=some d1) (ky:∀ k,d1 ≠ .int k) (hi:P.info? e=some i) (hz:i.zero=some z) {w:World} {n m cap:Nat} {b:Option Addr} {x:Value} {mU news:List Value}
  (hold:∀ d:Nat,(Builtin.firstCells i.size n (.slice b n cap)).run P { w with drawn:=d } = .ok mU.toArray { w with drawn:=d }) (hs:Src P i.size w x m news) (hg:cap<n+m) (LF:n+m≤2147483648) (nY:i.bytes≤65536) (ty:TypeId) :
  (Builtin.append_ #[t0,t1] ty #[.slice b n cap,x]).run P w = .ok (.slice (some ⟨w.heap.size,0,none⟩) (n+m) (grownCap w (n+m) cap e)) (w.drew.alloc (.cells (mU.toArray++news.toArray++Builtin.zeroCells z.cells (grownCap w (n+m) cap e - (n+m))) e)):=by
 have hn:¬ (n+m≤cap):=by omega
 have LG:¬ (9223372036854775807<((n:Int)+(m:Int))):=by omega
 have fV:(n+m)*i.bytes≤140737488355328:=by
  calc (n+m)*i.bytes≤2147483648*65536:=Nat.mul_le_mul LF nY
   _=140737488355328:=by decide
 have LH:¬ (281474976710656<Builtin.nextslicecap (n+m) cap*i.bytes):=by
  have:=growslice_fits (old:=cap) (need:=n+m) (bytes:=i.bytes) (by omega) fV;omega
 have hc:=hs.cells w.drew.drawn;have ho:=hold w.drew.drawn;have uV:(Builtin.firstCells i.size m x).run P w.drew = .ok news.toArray w.drew:=hc;have cF:(Builtin.firstCells i.size n (.slice b n cap)).run P w.drew = .ok mU.toArray w.drew:=ho;simp [Builtin.append_,run_underlying h0,run_underlying h1,Go.sizeOf,typeInfo,zeroValue,hi,hz,hs.len,hn,LG,LH,Question.forced,uV,cF,newRow,grownCap]
 congr 2
 apply Array.ext';simp [List.append_assoc]
theorem ER {c:Cx} {m:List DV} {x:Value} {sz:Nat} (bK:0<sz) (hm:∀ e∈m,e.cells.length=sz) (hv:VD c.bad c.w (.sl m) x):∃ news:List Value,Src P sz c.w x m.length news∧(∀ (j:Nat) (y:DV) (v:Value),(flat m)[j]? = some y→news[j]? = some v→VD c.bad c.w y v):=by
 have dB:fW sz m:=fun i e he=>hm e (List.mem_of_getElem? he);cases hv with
 |slnil=>exact ⟨[],⟨fun _=>rfl,fun _=>rfl,fun v hv=>by simp at hv,by simp⟩,fun j y v hy=>by simp [flat] at hy⟩
 |ji a=>exact ⟨[],⟨fun _=>rfl,fun _=>by simp [Builtin.firstCells,loadCells,loadCellsFrom],fun v hv=>by simp at hv,by simp⟩,fun j y v hy=>by simp [flat] at hy⟩
 |sl _ blk off cap cH f hb xT hX hlen cT bH cd =>
  by_cases aE:m=[]
  ·subst aE;exact ⟨[],⟨fun _=>rfl,fun _=>by simp [Builtin.firstCells,loadCells,loadCellsFrom],fun v hv=>by simp at hv,by simp⟩,fun j y v hy=>by simp [flat] at hy⟩
  obtain ⟨e0,r,hr⟩:=List.exists_cons_of_ne_nil aE;have ln:cH=sz:=(hlen 0 e0 (by rw [hr]; rfl)).symm.trans (hm e0 (by rw [hr]; simp));subst ln;have at_:∀ (idx:Nat),idx<m.length*cH→∃ (i j:Nat) (e y:DV),idx=i*cH+j∧j<cH∧m[i]? = some e∧e.cells[j]? = some y∧idx / cH=i∧idx % cH=j:=fun idx mV=>by
   have hd:idx / cH<m.length:=Nat.div_lt_of_lt_mul (by rw [Nat.mul_comm]; exact mV);have mW:idx % cH<cH:=Nat.mod_lt _ bK;have hl:idx % cH<m[idx / cH].cells.length:=by rw [hlen _ _ (List.getElem?_eq_getElem hd)]; exact mW
   exact ⟨idx / cH,idx % cH,m[idx / cH],m[idx / cH].cells[idx % cH],by rw [Nat.mul_comm]; exact (Nat.div_add_mod idx cH).symm,mW,List.getElem?_eq_getElem hd,List.getElem?_eq_getElem hl,rfl,rfl⟩
  have dQ:∀ (j:Nat) (v:Value),((List.range (m.length*cH)).map fun idx=>f (idx / cH) (idx % cH))[j]? = some v→j<m.length*cH∧v=f (j / cH) (j % cH):=fun j v hv=>by
   have hj:j<m.length*cH:=by have:=aP hv; simpa using this
   simp [hj] at hv;exact ⟨hj,hv.symm⟩
  refine ⟨(List.range (m.length*cH)).map fun idx=>f (idx / cH) (idx % cH),⟨fun _=>rfl,fun d=>?_,fun v hv=>?_,by simp⟩,fun j y v hy hv=>?_⟩
  ·have:=run_loadCells_list (P:=P) { c.w with drawn:=d } ⟨blk,off,none⟩ ((List.range (m.length*cH)).map fun idx=>f (idx / cH) (idx % cH)) (fun j v hv=>by
    obtain ⟨hj,rfl⟩:=dQ j v hv;obtain ⟨i,jj,e,y,e1,e2,e3,e4,e5,e6⟩:=at_ j hj;rw [lj,e5,e6,e1]
    exact cT i jj e y e3 e4)
   simpa [Builtin.firstCells] using this
  ·obtain ⟨j,LI⟩:=List.getElem?_of_mem hv;obtain ⟨hj,rfl⟩:=dQ j v LI;obtain ⟨i,jj,e,y,e1,e2,e3,e4,e5,e6⟩:=at_ j hj;rw [e5,e6];exact cd i jj e y e3 e4
  ·obtain ⟨hj,rfl⟩:=dQ j v hv;obtain ⟨i,jj,e,y',e1,e2,e3,e4,e5,e6⟩:=at_ j hj;have:=flat_get dB e3 e2;rw [← e1,hy,e4] at this;cases this;rw [e5,e6];exact bH i jj e y e3 e4
theorem ES {c:Cx} {z:List UInt8}:Src P 1 c.w (.string ⟨z.toArray⟩) (z.map ly).length (z.map fun b=>Value.int .u8 b.toNat)∧(∀ (j:Nat) (y:DV) (v:Value),(flat (z.map ly))[j]? = some y→(z.map fun b=>Value.int .u8 b.toNat)[j]? = some v→VD c.bad c.w y v):=by
 have LJ:flat (z.map ly)=z.map ly:=by
  induction z with
  |nil=>rfl
  |cons b z ih=>simp only [List.map_cons,flat,List.flatMap_cons] at ih ⊢; rw [ih]; rfl
 refine ⟨⟨fun _=>by simp [Builtin.lenOf,ByteArray.size],fun d=>?_,fun v hv=>?_,by simp⟩,fun j y v hy hv=>?_⟩
 ·simp [Builtin.firstCells]
 ·obtain ⟨b,-,rfl⟩:=List.mem_map.1 hv; rfl
 ·rw [LJ] at hy;rw [List.getElem?_map] at hy hv;cases hz:z[j]? with
  |none=>rw [hz] at hy; cases hy
  |some b=>rw [hz] at hy hv; cases hy; cases hv; exact .int _ _
def jo (c:Cx) (l:List DV) (vs:List Value):Prop:=∀ (idx:Nat) (y:DV),(flat l)[idx]? = some y→∃ v,vs[idx]? = some v∧v.oneCell'=true∧VD c.bad c.w y v
theorem jo.ij {c:Cx} {l:List DV} {vs:Array Value} {sz:Nat} (dB:fW sz l) (h:jo c l vs.toList):∀ (i j:Nat) (e x:DV),l[i]? = some e→e.cells[j]? = some x→∃ v,vs[i*sz+j]? = some v∧v.oneCell'=true∧VD c.bad c.w x v:=fun i j e x he hx=>by
 have hj:j<sz:=by rw [← dB i e he]; exact aP hx
 obtain ⟨v,h1,h2⟩:=h (i*sz+j) x (by rw [flat_get dB he hj]; exact hx);exact ⟨v,by simpa using h1,h2⟩
theorem jo.LK {c:Cx} {l:List DV} {vs:Array Value} {sz:Nat} (bK:0<sz) (dB:fW sz l) (h:∀ (i j:Nat) (e x:DV),l[i]? = some e→e.cells[j]? = some x→∃ v,vs[i*sz+j]? = some v∧v.oneCell'=true∧VD c.bad c.w x v):jo c l vs.toList:=fun idx y hy=>by
 have ah:=aP hy;rw [lp dB] at ah;have hd:idx / sz<l.length:=Nat.div_lt_of_lt_mul (by rw [Nat.mul_comm]; exact ah);have mW:idx % sz<sz:=Nat.mod_lt _ bK;have h1:=flat_get dB (List.getElem?_eq_getElem hd) mW;have e1:idx / sz*sz+idx % sz=idx:=by rw [Nat.mul_comm]; exact Nat.div_add_mod idx sz
 rw [e1,hy] at h1;obtain ⟨v,h2,h3⟩:=h (idx / sz) (idx % sz) _ y (List.getElem?_eq_getElem hd) h1.symm;rw [e1] at h2;exact ⟨v,by simpa using h2,h3⟩
theorem jo.append {c:Cx} {l m:List DV} {vs news:List Value} {tail:List Value} {sz:Nat} (dB:fW sz l) (hl:jo c l vs) (eu:l.length*sz≤vs.length) (cd:∀ v∈news,v.oneCell'=true) (hlen:news.length=(flat m).length) (hn:∀ (j:Nat) (y:DV) (v:Value),(flat m)[j]? = some y→news[j]? = some v→VD c.bad c.w y v) :
  jo c (l++m) (vs.take (l.length*sz)++news++tail):=fun idx y hy=>by
 rw [Az] at hy;have qN:=lp dB;have LL:(vs.take (l.length*sz)).length=l.length*sz:=by simp; omega
 rcases Nat.lt_or_ge idx (l.length*sz) with h | h
 ·rw [List.getElem?_append_left (by omega)] at hy;obtain ⟨v,h1,h2⟩:=hl idx y hy;refine ⟨v,?_,h2⟩;rw [List.append_assoc,List.getElem?_append_left (by omega),List.getElem?_take,if_pos h];exact h1
 ·rw [List.getElem?_append_right (by omega),qN] at hy;have ah:=aP hy;have mV:idx - l.length*sz<news.length:=by omega
  refine ⟨news[idx - l.length*sz],?_,cd _ (List.getElem_mem mV),hn _ y _ hy (by simp [mV])⟩;rw [List.append_assoc,List.getElem?_append_right (by omega),LL,List.getElem?_append_left mV];simp [mV]
theorem jo.step {c c':Cx} (hs:Step c c') {l:List DV} {vs:List Value} (h:jo c l vs):jo c' l vs:=fun idx y hy=>by
 obtain ⟨v,h1,h2,h3⟩:=h idx y hy;exact ⟨v,h1,h2,hs.vd h3⟩
theorem LM {sz:Nat} {l m:List DV} (hl:fW sz l) (hm:∀ e∈m,e.cells.length=sz):fW sz (l++m):=fun i e he=>by
 rcases Nat.lt_or_ge i l.length with h | h
 ·rw [List.getElem?_append_left h] at he; exact hl i e he
 ·rw [List.getElem?_append_right h] at he; exact hm e (List.mem_of_getElem? he)
def Cx.gW (c:Cx) (b g:Nat) (ts:Nat × Nat) (l:List DV) (own:Option (Nat × Nat)) (w:World):Cx:={ c with own:=fun i=>if i=b then own else c.own i,heap:=c.heap.set b (.arr g ts l),w:=w }
theorem aC.gW {G:List (Nat × DV)} (ho:aC G c) {b g:Nat} {ts:Nat × Nat} {l l':List DV} (hb:c.heap[b]? = some (.arr g ts l)) {w:World} (own:Option (Nat × Nat)) (AQ:w.os=c.w.os) (LN:w.tape=c.w.tape) (LO:w.output=c.w.output) (fg:c.w.heap.size≤w.heap.size)
  (pg:∀ k,k<c.w.heap.size→(∀ n,c.own b≠some (k,n))→w.heap[k]? = c.w.heap[k]?) (bz:∀ k n,own=some (k,n)→k<w.heap.size∧(k<c.w.heap.size→∃ m,c.own b=some (k,m))) :
  let c':=c.gW b (g+1) ts l' own w
  Step c c'∧((fW ts.2 l'∧((own=none∧l'=[])∨∃ (blk cap:Nat) (vs:Array Value),own=some (blk,cap)∧w.heap[blk]? = some (.cells vs ts.1 (0,0))∧vs.size=cap*ts.2∧l'.length≤cap∧cap≤maxLen∧jo c' l' vs.toList))→aC G c'):=by
 intro c';have eo:=aP hb
 have aV:Step c c':={
  ax:=rfl
  bG:=ho.bG
  os:=AQ
  tape:=LN
  output:=LO
  size:=fg
  keep:=fun x hx hn=>pg x hx (fun n=>hn b n)
  da:=fun i x n hi hx=>by
   simp only [c',Cx.gW] at hi;split at hi
   ·rename_i bq; subst bq; exact (bz x n hi).2 hx
   ·exact ⟨n,hi⟩
  boxes:=fun i bx hi=>by
   by_cases bq:i=b
   ·subst bq;rw [hb] at hi;cases hi;exact .inl ⟨g+1,l',by show (c.heap.set i _)[i]? = _; rw [List.getElem?_set_self eo],.inl (Nat.lt_succ_self _)⟩
   ·have h':c'.heap[i]? = some bx:=by show (c.heap.set b _)[i]? = _; rw [List.getElem?_set_ne (Ne.symm bq)]; exact hi
    have nT:c'.own i=c.own i:=by simp only [c',Cx.gW]; rw [if_neg bq]
    cases bx with
    |cells cs=>exact .inl ⟨cs,h',nT,rfl⟩
    |arr g sz l=>exact .inl ⟨g,l,h',.inr ⟨rfl,rfl,nT⟩⟩
    |map es=>exact .inl ⟨es,h',nT⟩
    |gone=>exact h'
    |hole=>exact ⟨_,h'⟩ }
 refine ⟨aV,fun cM=>ho.next aV ?_ ?_ ?_⟩
 ·intro i x n hi;have hl:c'.heap.length=c.heap.length:=by simp [c',Cx.gW]
  rw [hl];simp only [c',Cx.gW] at hi;split at hi
  ·rename_i bq; subst bq; exact ⟨(bz x n hi).1,eo⟩
  ·have:=ho.bk i x n hi; exact ⟨Nat.lt_of_lt_of_le this.1 fg,this.2⟩
 ·intro i j x n m hi hj;simp only [c',Cx.gW] at hi hj;split at hi <;> split at hj
  ·omega
  ·rename_i h1 h2;have:=(ho.bk j x m hj).1;obtain ⟨q,hq⟩:=(bz x n hi).2 this;exact absurd (ho.inj j b x m q hj hq) h2
  ·rename_i h1 h2;have:=(ho.bk i x n hi).1;obtain ⟨q,hq⟩:=(bz x m hj).2 this;exact absurd (ho.inj i b x n q hi hq) h1
  ·exact ho.inj i j x n m hi hj
 ·intro i bx hi;by_cases bq:i=b
  ·subst bq;have bS:(c.heap.set i (.arr (g+1) ts l'))[i]? = some bx:=hi;rw [List.getElem?_set_self eo] at bS;cases bS;right;have nZ:c'.own i=own:=by simp [c',Cx.gW]
   obtain ⟨q0,-,-⟩:=ho.box i _ hb;obtain ⟨dB,LP⟩:=cM;refine ⟨q0,dB,?_⟩;rcases LP with ⟨h1,h2⟩ | ⟨blk,cap,vs,h1,h2,h3,h4,h5,h6⟩
   ·exact .inl ⟨nZ.trans h1,h2⟩
   ·exact .inr ⟨blk,cap,vs,nZ.trans h1,h2,h3,h4,h5,h6.ij dB⟩
  ·left;have bS:(c.heap.set b (.arr (g+1) ts l'))[i]? = some bx:=hi;rw [List.getElem?_set_ne (Ne.symm bq)] at bS;refine ⟨bS,by simp only [c',Cx.gW]; rw [if_neg bq],fun x n hn=>pg x (ho.bk i x n hn).1 (fun m hm=>bq (ho.inj i b x n m hn hm))⟩
theorem kz {b g:Nat} {ts:Nat × Nat} {l:List DV} (hb:c.heap[b]? = some (.arr g ts l)) {v:Value} (hv:VR c (.own b g) v):(∃ blk cap,c.own b=some (blk,cap)∧v = .slice (some ⟨blk,0,none⟩) l.length cap)∨(l=[]∧v = .slice none 0 0∧c.own b=none):=by
 cases hv with
 |own _ _ _ l' blk cap k1 k2=>rw [hb] at k1; cases k1; exact .inl ⟨blk,cap,k2,rfl⟩
 |fU _ _ _ k1 k2=>rw [hb] at k1; cases k1; exact .inr ⟨rfl,rfl,k2⟩
 |iN _ _ g' _ _ _ k1 k2 _=>rw [hb] at k1; cases k1; omega
 |hY _ _ _ k1 _=>rw [hb] at k1; cases k1
 |kn _ _ _ _ _ _ k1 _ _=>rw [hb] at k1; cases k1
theorem LQ {β:Type} {vs news:List β} {o:Nat} (h:o+news.length≤vs.length):cR vs o news=vs.take o++news++vs.drop (o+news.length):=by
 have h1:vs=vs.take o++(vs.drop o).take news.length++vs.drop (o+news.length):=by
  rw [List.append_assoc,← List.drop_drop,List.take_append_drop,List.take_append_drop]
 have h2:(vs.take o).length=o:=by simp; omega
 have:=Ay news (vs.take o) ((vs.drop o).take news.length) (vs.drop (o+news.length)) (by simp; omega);rw [← h1,h2] at this;exact this
theorem l7 {n:Nat} (h:n≤2147483648):n≤maxLen:=by unfold maxLen; omega
theorem ET (aJ:aC G c) {t0 t1:TypeId} {i:TypeInfo} {z:Value} {d1:TypeDesc} {ts:Nat × Nat} (h0:P.underlying t0=some (.slice ts.1)) (h1:P.underlying t1=some d1) (ky:∀ k,d1 ≠ .int k) (hi:P.info? ts.1=some i) (hz:i.zero=some z) (gT:z.cells.size=i.size) (fg:i.size=ts.2) (nY:i.bytes≤65536)
  {b g:Nat} {l m:List DV} (hb:c.heap[b]? = some (.arr g ts l)) {v x:Value} (hv:VR c (.own b g) v) {news:List Value} (hs:Src P i.size c.w x m.length news) (hn:∀ (j:Nat) (y:DV) (v:Value),(flat m)[j]? = some y→news[j]? = some v→VD c.bad c.w y v) (hm:∀ e∈m,e.cells.length=ts.2) (pj:l.length+m.length≤2147483648) (ty:TypeId) :
  ∃ (c':Cx) (v':Value),(Builtin.append_ #[t0,t1] ty #[v,x]).run P c.w = .ok v' c'.w∧c'.heap=c.heap.set b (.arr (g+1) ts (l++m))∧aC G c'∧VR c' (.own b (g+1)) v'∧Step c c':=by
 obtain ⟨q0,q1,q2⟩:=aJ.box b _ hb;have eo:=aP hb;have EU:fW ts.2 (l++m):=LM q1 hm;have uW:(flat m).length=m.length*ts.2:=lp (fun i e he=>hm e (List.mem_of_getElem? he));have sN:news.length=(flat m).length:=by rw [hs.size,uW,fg]
 have kA:∀ own w,(c.gW b (g+1) ts (l++m) own w).heap[b]? = some (.arr (g+1) ts (l++m)):=fun own w=>by show (c.heap.set b _)[b]? = _; rw [List.getElem?_set_self eo]
 have AR:∀ own w,(c.gW b (g+1) ts (l++m) own w).own b=own:=fun own w=>by simp [Cx.gW]
 have grown:∀ (mU:List Value) (cap:Nat) (bs:Option Addr),(∀ (idx:Nat) (y:DV),(flat l)[idx]? = some y→∃ v,mU[idx]? = some v∧v.oneCell'=true∧VD c.bad c.w y v)→mU.length=l.length*ts.2→(∀ d:Nat,(Builtin.firstCells i.size l.length (.slice bs l.length cap)).run P { c.w with drawn:=d } = .ok mU.toArray { c.w with drawn:=d })→cap<l.length+m.length→v = .slice bs l.length cap →
   ∃ (c':Cx) (v':Value),(Builtin.append_ #[t0,t1] ty #[v,x]).run P c.w = .ok v' c'.w∧c'.heap=c.heap.set b (.arr (g+1) ts (l++m))∧aC G c'∧VR c' (.own b (g+1)) v'∧Step c c':=by
  intro mU cap bs hold LR LS hX LU;subst LU;have hr:=LD h0 h1 ky hi hz LS hs hX pj nY ty;have aK:=grownCap_ge c.w (l.length+m.length) cap ts.1;have hle:=grownCap_le_maxLen c.w (l.length+m.length) cap ts.1 (l7 pj);generalize grownCap c.w (l.length+m.length) cap ts.1=nc at hr aK hle
  let cells:Array Value:=mU.toArray++news.toArray++Builtin.zeroCells z.cells (nc - (l.length+m.length))
  have hw:(c.w.drew.alloc (.cells cells ts.1)).heap[c.w.heap.size]? = some (.cells cells ts.1 (0,0)):=heap_alloc_new c.w.drew _;obtain ⟨k1,k2⟩:=aJ.gW (l':=l++m) hb (w:=c.w.drew.alloc (.cells cells ts.1)) (some (c.w.heap.size,nc)) rfl rfl rfl (by simp) (fun k hk _=>Below.heap_alloc c.w.drew _ k hk) (fun k n e=>by cases e; exact ⟨by simp,fun h=>by omega⟩);refine ⟨_,_,hr,rfl,k2 ⟨EU,.inr ⟨c.w.heap.size,nc,cells,rfl,hw,?_,by simpa using aK,hle,?_⟩⟩,?_,k1⟩
  ·simp only [cells,Array.size_append,List.size_toArray,size_zeroCells,gT,LR,sN,uW,fg,← Nat.add_mul]
   congr 1
   omega
  ·have:=jo.append (c:=c) (l:=l) (m:=m) (vs:=mU) (news:=news) (tail:=(Builtin.zeroCells z.cells (nc - (l.length+m.length))).toList) q1 hold (by omega) hs.one sN hn;rw [List.take_of_length_le (by omega)] at this;have:=this.step k1
   simpa [cells] using this
  ·have:=VR.own (c:=c.gW b (g+1) ts (l++m) (some (c.w.heap.size,nc)) (c.w.drew.alloc (.cells cells ts.1))) b (g+1) ts (l++m) c.w.heap.size nc (kA _ _) (AR _ _);rw [List.length_append] at this;exact this
 rcases kz hb hv with ⟨blk,cap,r1,rfl⟩ | ⟨rfl,rfl,r1⟩
 ·rcases q2 with ⟨q2,-⟩ | ⟨ib,gR,vs,q2,q3,q4,q5,q6,q7⟩
  ·rw [r1] at q2; cases q2
  rw [r1] at q2; cases q2;have qN:=jo.LK q0 q1 q7;have eu:l.length*ts.2≤vs.size:=by rw [q4]; exact Nat.mul_le_mul_right _ q5
  by_cases qM:l.length+m.length≤cap
  ·have fV:l.length*i.size+news.length≤vs.size:=by
    rw [sN,uW,fg,q4,← Nat.add_mul];exact Nat.mul_le_mul_right _ qM
   have hr:=LB h0 h1 ky hi q3 hs qM fV ty;obtain ⟨e1,e2,e3,e4⟩:=xI blk news (l.length*i.size) c.w;obtain ⟨k1,k2⟩:=aJ.gW (l':=l++m) hb (w:=c.w.setCells blk (l.length*i.size) news) (some (blk,cap)) e1 e2 e3 (Nat.le_of_eq e4.symm) (fun k _ hk=>sy blk news _ c.w k (fun e=>hk cap (by rw [e]; exact r1))) (fun k n e=>by cases e; exact ⟨by rw [e4]; exact (aJ.bk b blk cap r1).1,fun _=>⟨cap,r1⟩⟩);refine ⟨_,_,hr,rfl,k2 ⟨EU,.inr ⟨blk,cap,(cR vs.toList (l.length*i.size) news).toArray,rfl,xJ blk ts.1 (0,0) news _ c.w vs q3,by simp [uF,q4],by simpa using qM,q6,?_⟩⟩,?_,k1⟩
   ·have:=jo.append (c:=c) (l:=l) (m:=m) (vs:=vs.toList) (news:=news) (tail:=vs.toList.drop (l.length*ts.2+news.length)) q1 qN (by simpa using eu) hs.one sN hn;have:=this.step k1;show jo _ (l++m) (cR vs.toList (l.length*i.size) news);rw [LQ (by simp; exact fV)];rw [← fg] at this;exact this
   ·have:=VR.own (c:=c.gW b (g+1) ts (l++m) (some (blk,cap)) (c.w.setCells blk (l.length*i.size) news)) b (g+1) ts (l++m) blk cap (kA _ _) (AR _ _);rw [List.length_append] at this;exact this
  ·have bE:=jM q3;refine grown (vs.toList.take (l.length*ts.2)) cap (some ⟨blk,0,none⟩) (fun idx y hy=>?_) (by simp; omega) (fun d=>?_) (by omega) rfl
   ·obtain ⟨u,g1,g2⟩:=qN idx y hy;have ah:=aP hy;rw [lp q1] at ah;exact ⟨u,by rw [List.getElem?_take,if_pos ah]; exact g1,g2⟩
   ·have:=run_loadCells_list (P:=P) { c.w with drawn:=d } ⟨blk,0,none⟩ (vs.toList.take (l.length*ts.2)) (fun j u hu=>by
     rw [List.getElem?_take] at hu;split at hu
     ·rw [lj]; exact bE j u hu
     ·cases hu)
    have hlen:(vs.toList.take (l.length*ts.2)).length=l.length*i.size:=by simp; rw [fg]; omega
    rw [hlen] at this;exact this
 ·by_cases LV:m.length=0
  ·obtain rfl:m=[]:=List.eq_nil_of_length_eq_zero LV;have n0:news=[]:=List.eq_nil_of_length_eq_zero (by rw [hs.size]; simp);subst n0;have hr:=LC (b:=none) (n:=0) (cap:=0) h0 h1 ky hi hs (Nat.le_refl _) ty;obtain ⟨k1,k2⟩:=aJ.gW (l':=[]++[]) hb (w:=c.w) none rfl rfl rfl (Nat.le_refl _) (fun k _ _=>rfl) (fun k n e=>by cases e);exact ⟨c.gW b (g+1) ts ([]++[]) none c.w,.slice none 0 0,hr,rfl,k2 ⟨fun i e he=>by simp at he,.inl ⟨rfl,rfl⟩⟩,.fU b (g+1) ts (kA _ _) (AR _ _),k1⟩
  ·exact grown [] 0 none (fun idx y hy=>by simp [flat] at hy) (by simp) (fun d=>by simp [Builtin.firstCells]) (by simp; omega) rfl
theorem aC.AS (aJ:aC G c) (ts:Nat × Nat) (gr:0<ts.2):let c':Cx:={ c with heap:=c.heap++[.arr 0 ts []] }
  aC G c'∧Step c c'∧c'.heap[c.heap.length]? = some (.arr 0 ts [])∧VR c' (.own c.heap.length 0) (.slice none 0 0):=by
 intro c';have cj:c.own c.heap.length=none:=by
  cases ho:c.own c.heap.length with
  |none=>rfl
  |some p=>have:=(aJ.bk _ p.1 p.2 ho).2; omega
 have aV:Step c c':=⟨rfl,aJ.bG,rfl,rfl,rfl,Nat.le_refl _,fun _ _ _=>rfl,fun i b n hi _=>⟨n,hi⟩,fun i bx hi=>by
  have h':c'.heap[i]? = some bx:=by show (c.heap++_)[i]? = _; rw [List.getElem?_append_left (aP hi)]; exact hi
  cases bx with
  |cells cs=>exact .inl ⟨cs,h',rfl,rfl⟩
  |arr g sz l=>exact .inl ⟨g,l,h',.inr ⟨rfl,rfl,rfl⟩⟩
  |map es=>exact .inl ⟨es,h',rfl⟩
  |gone=>exact h'
  |hole=>exact ⟨_,h'⟩⟩
 have gu:c'.heap[c.heap.length]? = some (.arr 0 ts []):=by show (c.heap++_)[_]? = _; simp
 refine ⟨aJ.next aV (fun i b n hi=>⟨(aJ.bk i b n hi).1,by have:=(aJ.bk i b n hi).2; show i<(c.heap++_).length; simp; omega⟩) aJ.inj (fun i bx hi=>?_),aV,gu,.fU _ _ ts gu cj⟩;by_cases fy:i=c.heap.length
 ·subst fy;rw [gu] at hi;cases hi;exact .inr ⟨gr,fun i e he=>by simp at he,.inl ⟨cj,rfl⟩⟩
 ·have ah:i<c.heap.length:=by
   have:=aP hi;have h2:c'.heap.length=c.heap.length+1:=by show (c.heap++_).length=_; simp
   omega
  have bS:(c.heap++[.arr 0 ts []])[i]? = some bx:=hi;rw [List.getElem?_append_left ah] at bS;exact .inl ⟨bS,rfl,fun _ _ _=>rfl⟩
theorem EV {o:Oper} {ac:Act} {w w':World} {args:Array Operand} {ts:Array TypeId} {x y:Operand} {t0 t1:Nat} {v v0 v1:Value} (h1:o.op = .call { callee := .builtin .append,args:=args,argTypes:=ts }) (hx:args.toList=[x,y]) (ht:ts.toList=[t0,t1]) (e0:ac.eval x=v0) (e1:ac.eval y=v1)
  (hr:(Builtin.append_ #[t0,t1] o.type #[v0,v1]).run P w = .ok v w'):(execOp ac.eval o).run P w = .ok (.value v) w':=by
 have ha:args.map ac.eval = #[v0,v1]:=by
  apply Array.ext';rw [Array.toList_map,hx];simp [e0,e1]
 have gr:ts = #[t0,t1]:=by apply Array.ext'; rw [ht]
 simp only [execOp,h1,resolve,ha,gr,Sem.run_bind,Sem.run_pure,Result.andThen_ok,invoke,builtin,hr]
theorem EW (hE:E.OK) {args:Array Operand} {qO:Array TypeId} {x y:Operand} {t0 t1 e:Nat} {i0 i1 ei:bh} (hx:args.toList=[x,y]) (xU:qO.toList=[t0,t1]) (jm:E.T[t0]? = some i0) (sO:E.T[t1]? = some i1) (eL:i0.k = .slice e) (dx:∀ k,i1.k ≠ .int k) (bL:E.T[e]? = some ei)
  (hz:ei.zero.length=ei.size) (cB:0<ei.size) (nY:ei.bytes≤65536) {bv:AV} (hy:aQ E.G s y bv) {m:List DV} (hm:∀ e∈m,e.cells.length=ei.size)
  (sP:∀ (c:Cx) (v:Value),VR c bv v→∃ news:List Value,Src E.P ei.size c.w v m.length news∧(∀ (j:Nat) (y:DV) (v:Value),(flat m)[j]? = some y→news[j]? = some v→VD c.bad c.w y v))
  {a:AV} (ha:aQ E.G s x a) {r:AV} {h':List ab}
  (AT:(∃ b g ts l,a = .own b g∧h[b]? = some (.arr g ts l)∧ts.1=e∧ts.2=ei.size∧l.length+m.length≤2147483648∧r = .own b (g+1)∧h'=h.set b (.arr (g+1) ts (l++m)))∨(a = .d .aD∧m.length≤2147483648∧r = .own h.length 1∧h'=h++[.arr 1 (e,ei.size) m])) :
  bw E (.call { callee := .builtin .append,args:=args,argTypes:=qO }) s h r h':=fun o c ac h1 h2 h3 h4=>by
 subst h2;obtain ⟨xK,d0,g1,g2,g3,-⟩:=cg (hE.types _ _ jm);obtain rfl:=jO (eL.symm.trans g3);obtain ⟨Vr,d1,k1,k2,k3,-⟩:=cg (hE.types _ _ sO);obtain ⟨ti,z,q1,q2,q3,q4⟩:=zeroOf (hE.types _ _ bL) hz cB;obtain ⟨uN,d',p1,p2,p3,p4,p5,-⟩:=cg (hE.types _ _ bL);rw [q1] at p1; cases p1;have ky:∀ k,d1 ≠ .int k:=fun k e=>dx k (by rw [k3,e]; rfl);have gT:z.cells.size=ti.size:=by
  obtain ⟨vs,e1,e2⟩:=q4 c;rw [e1];have:=e2.1;simp at this;simp [← this,hz,q3]
 rcases AT with ⟨b,g,ts,l,rfl,hb,rfl,EX,pj,rfl,rfl⟩ | ⟨rfl,pj,rfl,rfl⟩
 ·obtain ⟨news,hs,hn⟩:=sP c _ (hy c ac h3 h4);rw [q3] at hs;obtain ⟨c',v',r1,r2,r3,r4,r5⟩:=ET h3 g2 k2 ky q1 q2 gT (by rw [← q3]; exact EX.symm) (by rw [← p5]; exact nY) hb (ha c ac h3 h4) hs hn (fun e he=>by rw [EX]; exact hm e he) pj o.type;exact ⟨c',v',.inl (EV h1 hx xU rfl rfl r1),r2,r3,r4,r5⟩
 ·obtain ⟨w1,w2,w3,w4⟩:=h3.AS (e,ei.size) cB;have lz:=w2.vr (hy c ac h3 h4);obtain ⟨news,hs,hn⟩:=sP _ _ lz;rw [q3] at hs;have cC:ac.eval x = .slice none 0 0:=by
   have:=ha c ac h3 h4;generalize ac.eval x=u at this;cases this with
   |d _ _ hd=>cases hd; rfl
  obtain ⟨c',v',r1,r2,r3,r4,r5⟩:=ET (ts:=(e,ei.size)) w1 g2 k2 ky q1 q2 gT q3.symm (by rw [← p5]; exact nY) w3 w4 hs hn hm (by simpa using pj) o.type;refine ⟨c',v',.inl (EV h1 hx xU cC rfl r1),?_,r3,r4,w2.trans r5⟩;rw [r2];simp
theorem EY (hE:E.OK) {t e:Nat} {n cc:Operand} {i ei:bh} (hi:E.T[t]? = some i) (hk:i.k = .slice e) (bL:E.T[e]? = some ei) (hz:ei.zero.length=ei.size) (cB:0<ei.size) (nY:ei.bytes≤65536) (gj:∀ y∈ei.zero,y.ek=true) {j j':IntKind} {a b:Int} (hn:aQ E.G s n (.d (.int j a))) (hc:aQ E.G s cc (.d (.int j' b)))
  (ha:0≤a) (sQ:a≤b) (hb:b≤2147483648) {zd:DV} (EZ:zd.cells=ei.zero):bw E (.makeSlice t n cc) s h (.own h.length 0) (h++[.arr 0 (e,ei.size) (List.replicate a.toNat zd)]):=fun o c ac h1 h2 h3 h4=>by
 subst h2;obtain ⟨xK,d0,g1,g2,g3,-⟩:=cg (hE.types _ _ hi);obtain rfl:=jO (hk.symm.trans g3);obtain ⟨ti,z,q1,q2,q3,q4⟩:=zeroOf (hE.types _ _ bL) hz cB;obtain ⟨uN,d',p1,p2,p3,p4,p5,-⟩:=cg (hE.types _ _ bL);rw [q1] at p1; cases p1;obtain ⟨zs,gT,gh⟩:=q4 c;have jQ:zs.length=ei.size:=by rw [← gh.1]; simpa using hz
 have LW:(ti.bytes:Int)*b≤281474976710656:=by
  have h5:(ti.bytes:Int)≤65536:=by rw [← p5]; omega
  calc (ti.bytes:Int)*b≤65536*2147483648:=Int.mul_le_mul h5 hb (by omega) (by omega)
   _≤281474976710656:=by decide
 have hr:=run_make (P:=E.P) c.w t e ti z g2 q1 q2 j j' a b ha sQ LW (by omega);have e1:=dM (hn c ac h3 h4);have e2:=dM (hc c ac h3 h4);obtain ⟨k1,k2⟩:=h3.add (.arr 0 (e,ei.size) (List.replicate a.toNat zd)) b.toNat (.cells (madeCells z.cells (b.toNat*ti.size)) e);have dB:fW ei.size (List.replicate a.toNat zd):=fun i e he=>by
  rw [List.getElem?_replicate] at he;split at he
  ·cases he; rw [EZ,hz]
  ·cases he
 have bz:(c.add (.arr 0 (e,ei.size) (List.replicate a.toNat zd)) b.toNat (.cells (madeCells z.cells (b.toNat*ti.size)) e)).own c.heap.length=some (c.w.heap.size,b.toNat):=by simp [Cx.add]
 have kA:(c.add (.arr 0 (e,ei.size) (List.replicate a.toNat zd)) b.toNat (.cells (madeCells z.cells (b.toNat*ti.size)) e)).heap[c.heap.length]? = some (.arr 0 (e,ei.size) (List.replicate a.toNat zd)):=by simp [Cx.add]
 refine ⟨_,.slice (some ⟨c.w.heap.size,0,none⟩) a.toNat b.toNat,.inl ?_,rfl,k2 ⟨cB,dB,.inr ⟨c.w.heap.size,b.toNat,madeCells z.cells (b.toNat*ti.size),bz,heap_alloc_new _ _,by rw [size_madeCells,q3],by simp; omega,l7 (by omega),?_⟩⟩,?_,k1⟩
 ·simp only [execOp,h1,e1,e2,Sem.run_bind,hr,Result.andThen_ok,Sem.run_pure];rfl
 ·intro i' j2 e' x he hx;have ik:j2<ei.size:=by rw [← dB i' e' he]; exact aP hx
  rw [List.getElem?_replicate] at he;split at he
  ·rename_i ah;cases he;rw [EZ] at hx;have mV:i'*ei.size+j2<b.toNat*ti.size:=by
    rw [← q3];have:(i'+1)*ei.size≤b.toNat*ei.size:=Nat.mul_le_mul_right _ (by omega);rw [Nat.add_mul,Nat.one_mul] at this;omega
   have mW:(i'*ei.size+j2) % ei.size=j2:=by rw [Nat.mul_comm,Nat.mul_add_mod,Nat.mod_eq_of_lt ik]
   have bH:(madeCells z.cells (b.toNat*ti.size))[i'*ei.size+j2]? = some (zs[j2]'(by omega)):=by
    simp [madeCells,mV,gT,jQ,mW,ik]
   have eI:=gh.mN j2 x (zs[j2]'(by omega)) hx (by simp [jQ,ik]);exact ⟨_,bH,uE eI (gj x (List.mem_of_getElem? hx)),k1.vd eI⟩
  ·cases he
 ·have:=VR.own (c:=c.add (.arr 0 (e,ei.size) (List.replicate a.toNat zd)) b.toNat (.cells (madeCells z.cells (b.toNat*ti.size)) e)) c.heap.length 0 (e,ei.size) _ c.w.heap.size b.toNat kA bz;rw [List.length_replicate] at this;exact this
theorem LX (hE:E.OK) {o:Op} {stop:Prop} {k:AV→List ab→Prop} (H:qL E.T E.G o s h stop k):stop∨∃ v h',k v h'∧bw E o s h v h':=by
 unfold qL at H;split at H
 ·rename_i args qO;rcases EP H with h | ⟨x,y,hx,H⟩
  ·exact .inl h
  rcases EP H with h | ⟨t0,t1,ht,H⟩
  ·exact .inl h
  rcases aS H with h | ⟨i0,jm,H⟩
  ·exact .inl h
  rcases aS H with h | ⟨i1,sO,H⟩
  ·exact .inl h
  split at H
  ·rename_i e eL;rcases aS H with h | ⟨ei,bL,H⟩
   ·exact .inl h
   split at H
   ·rename_i q1 q2 q3;rcases bW H with h | ⟨a,ha,H⟩
    ·exact .inl h
    rcases bW H with h | ⟨b,hb,H⟩
    ·exact .inl h
    have fin:∀ (m:List DV),(∀ k,i1.k ≠ .int k)→((∀ e∈m,e.cells.length=ei.size)→∀ (c:Cx) (v:Value),VR c b v→∃ news:List Value,Src E.P ei.size c.w v m.length news∧(∀ (j:Nat) (y:DV) (v:Value),(flat m)[j]? = some y→news[j]? = some v→VD c.bad c.w y v)) →
      xS e ei h a m stop k→stop∨∃ v h',k v h'∧bw E (.call { callee := .builtin .append,args:=args,argTypes:=qO }) s h v h':=by
     intro m dx sP H;have gen:=fun {r h'} (hm:∀ e∈m,e.cells.length=ei.size) AT=>EW (h:=h) (r:=r) (h':=h') hE hx ht jm sO eL dx bL (Nat.eq_of_beq_eq_true q1) (fX q2) (Nat.le_of_ble_eq_true q3) hb hm (sP hm) ha AT;unfold xS at H;split at H
     ·obtain ⟨⟨h1,h2⟩,H⟩:=kx H;rw [o3,Nat.zero_add] at H;exact .inr ⟨_,_,H,gen h2 (.inr ⟨rfl,h1,rfl,rfl⟩)⟩
     ·rcases aS H with h | ⟨bx,gg,H⟩
      ·exact .inl h
      split at H
      ·split at H
       ·rename_i p1 p2 p3;have p1:=Nat.eq_of_beq_eq_true p1;subst p1;obtain ⟨⟨h1,h2⟩,H⟩:=kx H;rw [fK] at H;exact .inr ⟨_,_,H,gen h2 (.inl ⟨_,_,_,_,rfl,gg,Nat.eq_of_beq_eq_true p2,Nat.eq_of_beq_eq_true p3,h1,rfl,rfl⟩)⟩
       ·exact .inl H
      ·exact .inl H
     ·exact .inl H
    split at H
    ·rename_i e' m dx;exact fin m (fun k hk=>by rw [dx] at hk; cases hk) (fun hm c v hv=>by cases hv with | d _ _ hv=>exact ER (fX q2) hm hv) H
    ·rename_i z dx;split at H
     ·refine fin (z.map ly) (fun k hk=>by rw [dx] at hk; cases hk) (fun hm c v hv=>?_) H;have eA:=mM hv;subst eA;by_cases hz:z=[]
      ·subst hz;exact ⟨[],⟨fun _=>by simp [Builtin.lenOf,ByteArray.size],fun d=>by simp [Builtin.firstCells],fun v hv=>by simp at hv,by simp⟩,fun j y v hy=>by simp [flat] at hy⟩
      ·obtain ⟨b0,r,hr⟩:=List.exists_cons_of_ne_nil hz;have h1:1=ei.size:=hm (ly b0) (by rw [hr]; simp);rw [← h1];exact ⟨_,ES.1,(ES (P:=E.P)).2⟩
     ·exact .inl H
    ·exact .inl H
   ·exact .inl H
  ·exact .inl H
 ·rcases aS H with h | ⟨i,hi,H⟩
  ·exact .inl h
  split at H
  ·rename_i e hk;rcases aS H with h | ⟨ei,bL,H⟩
   ·exact .inl h
   split at H
   ·rename_i q1 q2 q3 q4;rcases bW H with h | ⟨a,ha,H⟩
    ·exact .inl h
    split at H
    ·rcases bW H with h | ⟨b,hb,H⟩
     ·exact .inl h
     split at H
     ·split at H
      ·rename_i z jl;obtain ⟨⟨h1,h2,h3⟩,H⟩:=kx H;rw [o3,Nat.zero_add] at H;have gT:z.ek=true:=by rw [jl] at q4; simpa using q4
       exact .inr ⟨_,_,H,EY hE hi hk bL (Nat.eq_of_beq_eq_true q1) (fX q2) (Nat.le_of_ble_eq_true q3) (fun y hy=>List.all_eq_true.1 q4 y hy) ha hb h1 h2 h3 (zd:=z) (by rw [jl]; cases z <;> first | rfl | cases gT)⟩
      ·obtain ⟨⟨h1,h2,h3⟩,H⟩:=kx H;rw [o3,Nat.zero_add] at H;exact .inr ⟨_,_,H,EY hE hi hk bL (Nat.eq_of_beq_eq_true q1) (fX q2) (Nat.le_of_ble_eq_true q3) (fun y hy=>List.all_eq_true.1 q4 y hy) ha hb h1 h2 h3 rfl⟩
     ·exact .inl H
    ·exact .inl H
   ·exact .inl H
  ·exact .inl H
 ·exact .inl H
end
end Go.aw
end
section
namespace Go.aw
open Go Go.RowKit
@[irreducible] def pk (l : List DV) (sz : Nat) (n : Int) (K : DV → Prop) : Prop := ∃ e, 0 ≤ n ∧ l[n.toNat]? = some e ∧ e.cells.length = sz ∧ K e
theorem gv {l:List DV} {sz:Nat} {n:Int} {K:DV→Prop} (e:DV) (h0:0≤n) (he:l[n.toNat]? = some e) (hs:e.cells.length=sz) (k:K e):pk l sz n K:=by unfold pk; exact ⟨e,h0,he,hs,k⟩
theorem AU {l:List DV} {sz:Nat} {n:Int} {K:DV→Prop} (h:pk l sz n K):∃ e,0≤n∧l[n.toNat]? = some e∧e.cells.length=sz∧K e:=by unfold pk at h; exact h
@[irreducible] def uX (s : List UInt8) (n : Int) (K : UInt8 → Prop) : Prop := ∃ b, 0 ≤ n ∧ s[n.toNat]? = some b ∧ K b
theorem l8 {s:List UInt8} {n:Int} {K:UInt8→Prop} (b:UInt8) (h0:0≤n) (hb:s[n.toNat]? = some b) (k:K b):uX s n K:=by unfold uX; exact ⟨b,h0,hb,k⟩
theorem LY {s:List UInt8} {n:Int} {K:UInt8→Prop} (h:uX s n K):∃ b,0≤n∧s[n.toNat]? = some b∧K b:=by unfold uX at h; exact h
@[irreducible] def uY (c : List DV) (len sz : Nat) (n : Int) (K : DV → Prop) : Prop := ∃ e, 0 ≤ n ∧ n < len ∧ 0 < sz ∧ (c.drop (n.toNat * sz)).take sz = e.cells ∧ e.cells.length = sz ∧ K e
theorem LZ {c:List DV} {len sz:Nat} {n:Int} {K:DV→Prop} (e:DV) (h0:0≤n) (h1:n<len) (hz:0<sz) (he:(c.drop (n.toNat*sz)).take sz=e.cells) (hs:e.cells.length=sz) (k:K e):uY c len sz n K:=by unfold uY; exact ⟨e,h0,h1,hz,he,hs,k⟩
theorem L0 {c:List DV} {len sz:Nat} {n:Int} {K:DV→Prop} (h:uY c len sz n K):∃ e,0≤n∧n<len∧0<sz∧(c.drop (n.toNat*sz)).take sz=e.cells∧e.cells.length=sz∧K e:=by unfold uY at h; exact h
def xV (G:List (Nat × DV)) (s:List AV) (x:Option Operand) (stop:Prop) (k:Option Int→Prop):Prop :=
 match x with
 |none=>k none
 |some x=>bR G s x stop fun
  | .d (.int _ n)=>k (some n)
  |_=>stop
def xW (e:DV) (off:Nat) (ds:List DV) (stop:Prop) (k:DV→Prop):Prop :=
 match e with
 | .agg c=>match Nat.ble (off+ds.length) c.length with
  |true=>sq c off ds fun c'=>k (.agg c')
  |false=>stop
 |_=>match off,ds with
  | 0,[d]=>match d.ek with
   |true=>k d
   |false=>stop
  |_,_=>stop
def AX (e:DV) (off:Nat) (vs:List AV) (stop:Prop) (k:DV→Prop):Prop:=nQ vs stop fun ds=>xW e off ds stop k
def n4 (T:List bh) (G:List (Nat × DV)) (o:Op) (s:List AV) (h:List ab) (stop:Prop) (k:AV→List ab→Prop):Prop :=
 match o with
 | .indexAddr t x i=>aI T t stop fun ti=>bR G s x stop fun a=>bR G s i stop fun
  | .d (.int _ n)=>match ti.k with
   | .slice e=>aI T e stop fun ei=>match a with
    | .d (.sl l)=>match Nat.blt 0 ei.size with
     |true=>pk l ei.size n fun e=>k (.bD e 0) h
     |false=>stop
    | .own b g=>aI h b stop fun
     | .arr g' ts l=>match Nat.beq g g',Nat.beq ts.2 ei.size with
      |true,true=>need (0≤n∧n<l.length) (k (.cA b g n.toNat 0) h)
      |_,_=>stop
     |_=>stop
    |_=>stop
   | .array len e=>aI T e stop fun ei=>match a with
    | .bD (.agg c) 0=>uY c len ei.size n fun e'=>k (.bD e' 0) h
    |_=>stop
   |_=>stop
  |_=>stop
 | .index t x i=>aI T t stop fun ti=>bR G s x stop fun a=>bR G s i stop fun
  | .d (.int _ n)=>match ti.k,a with
   | .string,.d (.str l)=>uX l n fun b=>k (.d (.int .u8 b.toNat)) h
   |_,_=>stop
  |_=>stop
 | .slice t x lo hi none=>aI T t stop fun ti=>bR G s x stop fun a=>xV G s lo stop fun l=>xV G s hi stop fun u=>match ti.k,a with
  | .string,.d (.str z)=>need (0≤l.getD 0∧l.getD 0≤u.getD z.length∧u.getD z.length≤z.length) (k (.d (.str ((z.take (u.getD z.length).toNat).drop (l.getD 0).toNat))) h)
  | .slice e,.d (.sl z)=>aI T e stop fun ei=>need (0≤l.getD 0∧l.getD 0≤u.getD z.length∧u.getD z.length≤z.length∧∀ e∈z,e.cells.length=ei.size) (k (.d (.sl ((z.take (u.getD z.length).toNat).drop (l.getD 0).toNat))) h)
  |_,_=>stop
 | .load t x=>aI T t stop fun ti=>bR G s x stop fun
  | .cA b g i off=>aI h b stop fun
   | .arr g' ts l=>match Nat.beq g g' with
    |true=>pk l ts.2 i fun e=>match e with
     | .agg c=>lZ .d c fun c'=>jk ti c' off stop fun v=>k v h
     |e=>jk ti [.d e] off stop fun v=>k v h
    |false=>stop
   |_=>stop
  |_=>stop
 | .store t x y=>aI T t stop fun ti=>bR G s y stop fun v=>bR G s x stop fun
  | .cA b g i off=>aI h b stop fun
   | .arr g' ts l=>match Nat.beq g g' with
    |true=>ss v stop fun vs=>match Nat.beq vs.length ti.size,vs.all AV.ek with
     |true,true=>pk l ts.2 i fun e=>AX e off vs stop fun e'=>fe h b (.arr g ts (l.set i e')) fun h'=>k (.d .undef) h'
     |_,_=>stop
    |false=>stop
   |_=>stop
  |_=>stop
 |o=>qL T G o s h stop k
section
variable {E:Env} {s:List AV} {h:List ab} {c:Cx}
theorem AY {P:Program} {t e:Nat} {i ei:bh} (ht:dX P t=some i) (L1:dX P e=some ei) (hk:i.k = .slice e) {j:IntKind} {n:Int} {b o len cap:Nat} {w:World} (h0:0≤n) (h1:n<len) :
  (Instr.indexAt t (.slice (some ⟨b,o,none⟩) len cap) (.int j n)).run P w = .ok (.pointer (some ⟨b,o+n.toNat*ei.size,none⟩)) w:=by
 obtain ⟨ti,d,g1,g2,g3,-⟩:=cg ht;obtain rfl:=jO (hk.symm.trans g3);simp only [Instr.indexAt,asIntOf,Sem.run_bind,Sem.run_pure,Result.andThen_ok,run_underlying g2,h0,h1,and_self,if_true,run_sizeOf L1,lj]
theorem uZ {P:Program} {o:Oper} {ac:Act} {w:World} {t:Nat} {x i:Operand} {v:Value} (h1:o.op = .indexAddr t x i) (hr:(Instr.indexAt t (ac.eval x) (ac.eval i)).run P w = .ok v w):(execOp ac.eval o).run P w = .ok (.value v) w:=by
 simp only [execOp,h1,Sem.run_bind,hr,Result.andThen_ok,Sem.run_pure]
theorem L2 {l:List DV} {v:Value} (hv:VR c (.d (.sl l)) v) {n sz:Nat} {e:DV} (he:l[n]? = some e) (hs:e.cells.length=sz) (cB:0<sz):∃ blk off cap,v = .slice (some ⟨blk,off,none⟩) l.length cap∧VR c (.bD e 0) (.pointer (some ⟨blk,off+n*sz,none⟩)):=by
 cases hv with
 |d _ _ hd=>cases hd with
  |slnil=>simp at he
  |ji=>simp at he
  |sl _ blk off cap cH f hb bK hX hlen cT bH cd =>
   obtain rfl:cH=sz:=(hlen n e he).symm.trans hs;refine ⟨blk,off,cap,rfl,?_⟩;have aE:l≠[]:=fun h0=>by subst h0; simp at he
   have:=VR.bD (c:=c) e 0 blk (off+n*cH) (fun j=>f n j) (hb aE) (fun h0=>by rw [h0] at hs; simp at hs; omega) (fun j x hx=>by rw [Nat.add_assoc]; exact cT n j e x he hx) (fun j x hx=>bH n j e x he hx);exact this
theorem L3 (hE:E.OK) {t e:Nat} {x i:Operand} {ti ei:bh} (bJ:E.T[t]? = some ti) (bL:E.T[e]? = some ei) (hk:ti.k = .slice e) {l:List DV} {j:IntKind} {n:Int} (hx:aQ E.G s x (.d (.sl l))) (hi:aQ E.G s i (.d (.int j n))) (cB:0<ei.size) {y:DV} (h0:0≤n) (hy:l[n.toNat]? = some y) (hs:y.cells.length=ei.size) :
  bw E (.indexAddr t x i) s h (.bD y 0) h := .quiet fun o c ac h1 _ h3 h4=>by
 obtain ⟨blk,off,cap,e1,e2⟩:=L2 (hx c ac h3 h4) hy hs cB;refine ⟨_,uZ h1 ?_,e2⟩;rw [e1,dM (hi c ac h3 h4)];have:=aP hy;exact AY (hE.types t ti bJ) (hE.types e ei bL) hk h0 (by omega)
theorem E0 {b g i off:Nat} {ts:Nat × Nat} {l:List DV} (hb:c.heap[b]? = some (.arr g ts l)) {v:Value} (hv:VR c (.cA b g i off) v):∃ blk cap,c.own b=some (blk,cap)∧v = .pointer (some ⟨blk,i*ts.2+off,none⟩)∧i<l.length:=by
 cases hv with
 |cA _ _ _ _ _ l' blk cap k1 k2 k3=>rw [hb] at k1; cases k1; exact ⟨blk,cap,k2,rfl,k3⟩
 |jJ _ _ g' _ _ _ _ _ k1 k2 _=>rw [hb] at k1; cases k1; omega
 |jK _ _ _ _ _ k1 _=>rw [hb] at k1; cases k1
theorem L4 (hE:E.OK) {t e:Nat} {x i:Operand} {ti ei:bh} (bJ:E.T[t]? = some ti) (bL:E.T[e]? = some ei) (hk:ti.k = .slice e) {b g:Nat} {ts:Nat × Nat} {l:List DV} (hb:h[b]? = some (.arr g ts l)) (gr:ts.2=ei.size) {j:IntKind} {n:Int} (hx:aQ E.G s x (.own b g)) (hi:aQ E.G s i (.d (.int j n))) (h0:0≤n) (h1:n<l.length) :
  bw E (.indexAddr t x i) s h (.cA b g n.toNat 0) h := .quiet fun o c ac e1 e2 h3 h4=>by
 subst e2;rcases kz hb (hx c ac h3 h4) with ⟨blk,cap,q1,q2⟩ | ⟨rfl,-,-⟩
 ·refine ⟨_,uZ e1 (v := .pointer (some ⟨blk,0+n.toNat*ei.size,none⟩)) ?_,?_⟩
  ·rw [q2,dM (hi c ac h3 h4)];exact AY (hE.types t ti bJ) (hE.types e ei bL) hk h0 h1
  ·have:=VR.cA (c:=c) b g n.toNat 0 ts l blk cap hb q1 (by omega);rw [gr] at this
   simpa using this
 ·simp at h1; omega
theorem L5 (hE:E.OK) {t e len:Nat} {x i:Operand} {ti ei:bh} (bJ:E.T[t]? = some ti) (bL:E.T[e]? = some ei) (hk:ti.k = .array len e) {cs:List DV} {j:IntKind} {n:Int} (hx:aQ E.G s x (.bD (.agg cs) 0)) (hi:aQ E.G s i (.d (.int j n))) {y:DV} (h0:0≤n) (h1:n<len) (cB:0<ei.size) (hy:(cs.drop (n.toNat*ei.size)).take ei.size=y.cells) (hs:y.cells.length=ei.size) :
  bw E (.indexAddr t x i) s h (.bD y 0) h := .quiet fun o c ac e1 _ h3 h4=>by
 obtain ⟨kB,d,g1,g2,g3,-⟩:=cg (hE.types t ti bJ);obtain rfl:=uG (hk.symm.trans g3);have key:∀ p,VR c (.bD (.agg cs) 0) p→∃ blk o',p = .pointer (some ⟨blk,o',none⟩)∧VR c (.bD y 0) (.pointer (some ⟨blk,o'+n.toNat*ei.size,none⟩)):=fun p hp=>by
  cases hp with
  |bD _ _ blk o' f k1 k2 k3 k4 =>
   have dQ:∀ (jj:Nat) (z:DV),y.cells[jj]? = some z→cs[n.toNat*ei.size+jj]? = some z:=fun jj z hz=>by
    rw [← hy,List.getElem?_take] at hz;split at hz
    ·simpa using hz
    ·cases hz
   exact ⟨blk,o'+0,rfl,VR.bD y 0 blk (o'+0+n.toNat*ei.size) (fun jj=>f (n.toNat*ei.size+jj)) k1 (fun hh=>by rw [hh] at hs; simp at hs; omega) (fun jj z hz=>by rw [Nat.add_zero,Nat.add_assoc]; exact k3 _ z (dQ jj z hz)) (fun jj z hz=>k4 _ z (dQ jj z hz))⟩
 obtain ⟨blk,o',q1,q2⟩:=key _ (hx c ac h3 h4);refine ⟨_,uZ e1 ?_,q2⟩;rw [q1,dM (hi c ac h3 h4)];simp only [Instr.indexAt,asIntOf,Sem.run_bind,Sem.run_pure,Result.andThen_ok,run_underlying g2,Instr.sureAddr,h0,h1,and_self,if_true,run_sizeOf (hE.types e ei bL),lj]
theorem L6 (hE:E.OK) {t:Nat} {x i:Operand} {ti:bh} (bJ:E.T[t]? = some ti) (hk:ti.k = .string) {l:List UInt8} {j:IntKind} {n:Int} (hx:aQ E.G s x (.d (.str l))) (hi:aQ E.G s i (.d (.int j n))) {b:UInt8} (h0:0≤n) (hb:l[n.toNat]? = some b) :
  bw E (.index t x i) s h (.d (.int .u8 b.toNat)) h := .quiet fun o c ac e1 _ h3 h4=>by
 obtain ⟨kB,d,g1,g2,g3,-⟩:=cg (hE.types t ti bJ);obtain rfl:=o6 (hk.symm.trans g3);have ah:=aP hb;have dQ:(ByteArray.mk l.toArray)[n.toNat]? = some b:=by
  have hs:n.toNat<(ByteArray.mk l.toArray).size:=by simpa [ByteArray.size] using ah
  rw [getElem?_pos (ByteArray.mk l.toArray) n.toNat hs];have:=List.getElem?_eq_getElem ah;rw [hb] at this
  simpa [ByteArray.getElem_eq_getElem_data] using this.symm
 refine ⟨.int .u8 b.toNat,?_,.d _ _ (.int _ _)⟩;simp only [execOp,e1,mM (hx c ac h3 h4),dM (hi c ac h3 h4),Instr.index,asIntOf,Sem.run_bind,Sem.run_pure,Result.andThen_ok,run_underlying g2,h0,if_true,dQ]
def va (G:List (Nat × DV)) (s:List AV) (x:Option Operand) (n:Option Int):Prop:=∀ (c:Cx) (a:Act),aC G c→VS c s a.tmps→match n with
 |none=>x.map a.eval=none
 |some n=>∃ j,x.map a.eval=some (.int j n)
theorem E1 {x:Option Operand} {stop:Prop} {k:Option Int→Prop} (H:xV E.G s x stop k):stop∨∃ n,va E.G s x n∧k n:=by
 unfold xV at H;split at H
 ·exact .inr ⟨none,fun _ _ _ _=>rfl,H⟩
 ·rcases bW H with h | ⟨v,hv,H⟩
  ·exact .inl h
  split at H
  ·rename_i j n;refine .inr ⟨some n,fun c a h1 h2=>?_,H⟩;show ∃ j,_=some (Value.int j n);exact ⟨j,by simp [dM (hv c a h1 h2)]⟩
  ·exact .inl H
theorem E2 {P:Program} {w:World} {isSlice:Bool} {len cap:Nat} {lo hi:Option Value} {l u:Option Int} (hl:match l with | none=>lo=none | some n=>∃ j,lo=some (.int j n)) (hu:match u with | none=>hi=none | some n=>∃ j,hi=some (.int j n))
  (h0:0≤l.getD 0) (h1:l.getD 0≤u.getD len) (h2:u.getD len≤len) (hc:len≤cap) :
  (Instr.sliceBounds isSlice len cap lo hi none).run P w = .ok ((l.getD 0).toNat,(u.getD len).toNat,cap) w:=by
 cases l with
 |none =>
  simp only at hl;subst hl;cases u with
  |none =>
   simp only at hu;subst hu;simp only [Instr.sliceBounds,Sem.run_bind,Sem.run_pure,Result.andThen_ok,Option.getD_none,Int.toNat_natCast,Int.toNat_zero]
  |some n =>
   obtain ⟨j,rfl⟩:=hu;simp only [Option.getD_some,Option.getD_none] at h1 h2;simp only [Instr.sliceBounds,Sem.run_bind,Sem.run_pure,Result.andThen_ok,Option.getD_none,Option.getD_some,Int.toNat_zero,run_sliceBound w j n cap _ h1 (by omega)]
 |some m =>
  obtain ⟨i,rfl⟩:=hl;cases u with
  |none =>
   simp only at hu;subst hu;simp only [Option.getD_some,Option.getD_none] at h0 h1;simp only [Instr.sliceBounds,Sem.run_bind,Sem.run_pure,Result.andThen_ok,Option.getD_none,Option.getD_some,Int.toNat_natCast,run_sliceBound w i m len _ h0 h1]
  |some n =>
   obtain ⟨j,rfl⟩:=hu;simp only [Option.getD_some] at h0 h1 h2;simp only [Instr.sliceBounds,Sem.run_bind,Sem.run_pure,Result.andThen_ok,Option.getD_some,run_sliceBound w j n cap _ (by omega) (by omega),run_sliceBound w i m n.toNat _ h0 (by omega)]
theorem L7 (l:List UInt8) (a b:Nat):(ByteArray.mk l.toArray).extract a b=ByteArray.mk ((l.take b).drop a).toArray:=by
 apply ByteArray.ext;simp [List.extract_eq_take_drop,List.drop_take]
theorem L8 (hE:E.OK) {t:Nat} {x:Operand} {lo hi:Option Operand} {ti:bh} (bJ:E.T[t]? = some ti) (hk:ti.k = .string) {z:List UInt8} {l u:Option Int} (hx:aQ E.G s x (.d (.str z))) (hl:va E.G s lo l) (hu:va E.G s hi u)
  (h0:0≤l.getD 0) (h1:l.getD 0≤u.getD z.length) (h2:u.getD z.length≤z.length):bw E (.slice t x lo hi none) s h (.d (.str ((z.take (u.getD z.length).toNat).drop (l.getD 0).toNat))) h := .quiet fun o c ac e1 _ h3 h4=>by
 obtain ⟨kB,d,g1,g2,g3,-⟩:=cg (hE.types t ti bJ);obtain rfl:=o6 (hk.symm.trans g3);have bK:(ByteArray.mk z.toArray).size=z.length:=by simp [ByteArray.size]
 have hb:=E2 (P:=E.P) (w:=c.w) (isSlice:=false) (len:=z.length) (cap:=z.length) (hl c ac h3 h4) (hu c ac h3 h4) h0 h1 h2 (Nat.le_refl _);refine ⟨_,?_,.d _ _ (.str _)⟩;simp only [execOp,e1,mM (hx c ac h3 h4),Instr.sliceAt,Instr.slice,Sem.run_bind,Sem.run_pure,Result.andThen_ok,run_underlying g2,Option.map_none,Option.isSome_none,Bool.false_eq_true,if_false,bK,hb,L7]
theorem E3 {bad:Nat→Prop} {w:World} {z:List DV} {v:Value} (hv:VD bad w (.sl z) v) {lo hi sz:Nat} (h1:lo≤hi) (h2:hi≤z.length) (bK:∀ e∈z,e.cells.length=sz):∃ a cap,v = .slice a z.length cap∧z.length≤cap∧VD bad w (.sl ((z.take hi).drop lo)) (.slice (if cap=lo then a else a.map (·.add (lo*sz))) (hi - lo) (cap - lo)):=by
 have hlen:((z.take hi).drop lo).length=hi - lo:=by simp; omega
 cases hv with
 |slnil =>
  simp at h2;subst h2;simp at h1;subst h1;exact ⟨none,0,rfl,Nat.le_refl _,by simpa using VD.slnil⟩
 |ji a =>
  simp at h2;subst h2;simp at h1;subst h1;exact ⟨some a,0,rfl,Nat.le_refl _,by simpa using VD.ji a⟩
 |sl _ blk off cap cH f hb xT hX jq cT bH cd =>
  refine ⟨some ⟨blk,off,none⟩,cap,rfl,hX,?_⟩;by_cases hc:cap=lo
  ·have:hi=lo:=by omega
   subst this;have e:(z.take hi).drop hi=[]:=by simp
   rw [e,if_pos hc,Nat.sub_self];exact .sl [] blk off (cap - hi) cH f (fun h=>absurd rfl h) xT (Nat.zero_le _) (fun i e he=>by simp at he) (fun i j e x he=>by simp at he) (fun i j e x he=>by simp at he) (fun i j e x he=>by simp at he)
  ·rw [if_neg hc,← hlen];simp only [Option.map_some,lj];have dQ:∀ (i:Nat) (e:DV),((z.take hi).drop lo)[i]? = some e→z[lo+i]? = some e:=fun i e he=>by
    simp only [List.getElem?_drop,List.getElem?_take] at he;split at he
    ·exact he
    ·cases he
   by_cases aE:(z.take hi).drop lo=[]
   ·rw [aE];exact .sl [] blk _ (cap - lo) cH f (fun h=>absurd rfl h) xT (Nat.zero_le _) (fun i e he=>by simp at he) (fun i j e x he=>by simp at he) (fun i j e x he=>by simp at he) (fun i j e x he=>by simp at he)
   ·obtain ⟨e0,r,hr⟩:=List.exists_cons_of_ne_nil aE;have AZ:=dQ 0 e0 (by rw [hr]; rfl);have ln:cH=sz:=(jq _ _ AZ).symm.trans (bK e0 (List.mem_of_getElem? AZ));subst ln;refine .sl _ blk (off+lo*cH) (cap - lo) cH (fun i j=>f (lo+i) j) (fun _=>hb (fun h=>by subst h; simp at AZ)) xT (by rw [hlen]; omega) (fun i e he=>jq _ _ (dQ i e he)) (fun i j e x he hx=>?_) (fun i j e x he hx=>bH _ _ _ _ (dQ i e he) hx) (fun i j e x he hx=>cd _ _ _ _ (dQ i e he) hx);have:=cT _ _ _ _ (dQ i e he) hx;rw [Nat.add_mul] at this;rw [show off+lo*cH+(i*cH+j)=off+(lo*cH+i*cH+j) by omega];exact this
theorem L9 (hE:E.OK) {t e:Nat} {x:Operand} {lo hi:Option Operand} {ti ei:bh} (bJ:E.T[t]? = some ti) (bL:E.T[e]? = some ei) (hk:ti.k = .slice e) {z:List DV} {l u:Option Int} (hx:aQ E.G s x (.d (.sl z))) (hl:va E.G s lo l) (hu:va E.G s hi u)
  (h0:0≤l.getD 0) (h1:l.getD 0≤u.getD z.length) (h2:u.getD z.length≤z.length) (bK:∀ e∈z,e.cells.length=ei.size):bw E (.slice t x lo hi none) s h (.d (.sl ((z.take (u.getD z.length).toNat).drop (l.getD 0).toNat))) h := .quiet fun o c ac e1 _ h3 h4=>by
 obtain ⟨kB,d,g1,g2,g3,-⟩:=cg (hE.types t ti bJ);obtain rfl:=jO (hk.symm.trans g3);have hv:=hx c ac h3 h4;generalize A0:ac.eval x=v at hv;cases hv with
 |d _ _ hv =>
  obtain ⟨a,cap,rfl,hX,hd⟩:=E3 hv (lo:=(l.getD 0).toNat) (hi:=(u.getD z.length).toNat) (by omega) (by omega) bK;have hb:=E2 (P:=E.P) (w:=c.w) (isSlice:=true) (len:=z.length) (cap:=cap) (hl c ac h3 h4) (hu c ac h3 h4) h0 h1 h2 hX;refine ⟨_,?_,.d _ _ hd⟩;simp only [execOp,e1,A0,Instr.sliceAt,Instr.slice,Sem.run_bind,Sem.run_pure,Result.andThen_ok,run_underlying g2,Option.map_none,hb,run_sizeOf (hE.types e ei bL)]
theorem aC.elem {G:List (Nat × DV)} (ho:aC G c) {b g:Nat} {ts:Nat × Nat} {l:List DV} (hb:c.heap[b]? = some (.arr g ts l)) {blk cap:Nat} (bz:c.own b=some (blk,cap)) {i:Nat} {e:DV} (he:l[i]? = some e) :
  ∃ (vs:Array Value) (us:List Value),c.w.heap[blk]? = some (.cells vs ts.1 (0,0))∧us.length=ts.2∧xG c.w blk (i*ts.2) us∧VL c (e.cells.map .d) us∧i*ts.2+ts.2≤vs.size:=by
 obtain ⟨q0,q1,q2⟩:=ho.box b _ hb;rcases q2 with ⟨q2,-⟩ | ⟨ib,gR,vs,q2,q3,q4,q5,q6,q7⟩
 ·rw [bz] at q2; cases q2
 ·rw [bz] at q2; cases q2;have hlen:=q1 i e he;have hi:=aP he;have fV:i*ts.2+ts.2≤vs.size:=by
   rw [q4]
   calc i*ts.2+ts.2=(i+1)*ts.2:=by rw [Nat.add_mul,Nat.one_mul]
    _≤cap*ts.2:=Nat.mul_le_mul_right _ (by omega)
  refine ⟨vs,(vs.toList.drop (i*ts.2)).take ts.2,q3,by simp; omega,fun j v hv=>?_,.qx (by simp [hlen]; omega) (fun j x v hx hv=>?_),fV⟩
  ·rw [List.getElem?_take] at hv;split at hv
   ·rw [List.getElem?_drop] at hv;have:=jM q3 (i*ts.2+j) v hv
    simpa using this
   ·cases hv
  ·obtain ⟨u,k1,-,k2⟩:=q7 i j e x he hx;rw [List.getElem?_take] at hv;split at hv
   ·rw [List.getElem?_drop] at hv;have:vs[i*ts.2+j]? = some v:=by simpa using hv
    rw [k1] at this; cases this;exact k2
   ·cases hv
theorem E4 (hE:E.OK) {t:Nat} {x:Operand} {ti:bh} (bJ:E.T[t]? = some ti) {b g i off:Nat} {ts:Nat × Nat} {l:List DV} (hb:h[b]? = some (.arr g ts l)) (hx:aQ E.G s x (.cA b g i off)) {e:DV} (he:l[i]? = some e) {stop:Prop} {k:AV→Prop} {cs:List AV} (jT:cs=e.cells.map .d) (H:jk ti cs off stop k) :
  stop∨∃ v,k v∧bw E (.load t x) s h v h:=by
 rcases xH H with h1 | ⟨v,hk,hp⟩
 ·exact .inl h1
 refine .inr ⟨v,hk,.quiet fun o c ac h1 h2 h3 h4=>?_⟩;subst h2;obtain ⟨blk,cap,q1,q2,q3⟩:=E0 hb (hx c ac h3 h4);obtain ⟨vs,us,r1,r2,r3,r4,r5⟩:=h3.elem hb q1 he;obtain ⟨u,hu,nR⟩:=hp E.P t c blk (i*ts.2) us (hE.types t ti bJ) (by rw [jT]; exact r4) r3;refine ⟨u,?_,nR⟩;simp only [execOp,h1,q2,Sem.run_bind,hu,Result.andThen_ok,Sem.run_pure]
theorem aC.Ma {G:List (Nat × DV)} (ho:aC G c) {b g blk cap:Nat} {ts:Nat × Nat} {l:List DV} {vs:Array Value} (hb:c.heap[b]? = some (.arr g ts l)) (bz:c.own b=some (blk,cap)) (hblk:c.w.heap[blk]? = some (.cells vs ts.1 (0,0)))
  {i off:Nat} {e e':DV} (he:l[i]? = some e) (hs:e'.cells.length=ts.2) {us:List Value} (fV:off+us.length≤ts.2) (cd:∀ u∈us,u.oneCell'=true)
  (hv:∀ (j:Nat) (x:DV),e'.cells[j]? = some x→(off≤j∧∃ v,us[j - off]? = some v∧VD c.bad c.w x v)∨((j<off∨off+us.length≤j)∧e.cells[j]? = some x)) :
  let c':Cx:={ c with heap:=c.heap.set b (.arr g ts (l.set i e')),w:=c.w.setCells blk (i*ts.2+off) us }
  aC G c'∧Step c c':=by
 intro c';obtain ⟨e1,e2,e3,e4⟩:=xI blk us (i*ts.2+off) c.w;have eo:b<c.heap.length:=(ho.bk b blk cap bz).2
 have aV:Step c c':={
  ax:=rfl
  bG:=ho.bG
  os:=e1
  tape:=e2
  output:=e3
  size:=Nat.le_of_eq e4.symm
  keep:=fun x _ hn=>sy blk us _ c.w x (fun e=>hn b cap (by rw [e]; exact bz))
  da:=fun i x n hi _=>⟨n,hi⟩
  boxes:=fun k bx hk=>by
   by_cases n':k=b
   ·subst n';rw [hb] at hk;cases hk;exact .inl ⟨g,l.set i e',by show (c.heap.set k _)[k]? = _; rw [List.getElem?_set_self eo],.inr ⟨rfl,by simp,rfl⟩⟩
   ·have h':c'.heap[k]? = some bx:=by show (c.heap.set b _)[k]? = _; rw [List.getElem?_set_ne (Ne.symm n')]; exact hk
    cases bx with
    |cells cs=>exact .inl ⟨cs,h',rfl,rfl⟩
    |arr g sz l=>exact .inl ⟨g,l,h',.inr ⟨rfl,rfl,rfl⟩⟩
    |map es=>exact .inl ⟨es,h',rfl⟩
    |gone=>exact h'
    |hole=>exact ⟨_,h'⟩ }
 refine ⟨ho.next aV (fun k x n hk=>⟨by show x<(c.w.setCells blk _ us).heap.size; rw [e4]; exact (ho.bk k x n hk).1,by show k<(c.heap.set b _).length; rw [List.length_set]; exact (ho.bk k x n hk).2⟩) ho.inj (fun k bx hk=>?_),aV⟩;by_cases n':k=b
 ·subst n';have il:(c.heap.set k (.arr g ts (l.set i e')))[k]? = some bx:=hk;rw [List.getElem?_set_self eo] at il;cases il;right;obtain ⟨q0,q1,q2⟩:=ho.box k _ hb;rcases q2 with ⟨q2,-⟩ | ⟨ib,gR,vs',q2,q3,q4,q5,q6,q7⟩
  ·rw [bz] at q2; cases q2
  ·rw [bz] at q2; cases q2;rw [hblk] at q3; cases q3;have fy:=aP he;have A2:fW ts.2 (l.set i e'):=fW.set q1 i hs;refine ⟨q0,A2,.inr ⟨blk,cap,(cR vs.toList (i*ts.2+off) us).toArray,bz,xJ blk ts.1 (0,0) us _ c.w vs hblk,by simp [uF,q4],by simpa using q5,q6,fun i' j e2 x h2 hx=>?_⟩⟩;have hj:j<ts.2:=by rw [← A2 i' e2 h2]; exact aP hx
   have dQ:∀ (p:Nat),(cR vs.toList (i*ts.2+off) us)[p]? = if i*ts.2+off≤p∧p<i*ts.2+off+us.length∧p<vs.size then us[p - (i*ts.2+off)]? else vs[p]? := by
    intro p;have gen:∀ (us:List Value) (o:Nat) (q:List Value),(cR q o us)[p]? = if o≤p∧p<o+us.length∧p<q.length then us[p - o]? else q[p]? := by
     intro us
     induction us with
     |nil=>intro o q; rw [if_neg (by simp; omega)]; rfl
     |cons u us ih =>
      intro o q;rw [cR,ih];by_cases hp:o=p
      ·subst hp;rw [if_neg (by omega)];by_cases hq:o<q.length
       ·rw [if_pos (by simp; omega),List.getElem?_set_self hq]; simp
       ·rw [if_neg (by omega),List.getElem?_eq_none (by simp; omega),List.getElem?_eq_none (by omega)]
      ·by_cases hc:o+1≤p∧p<o+1+us.length∧p<q.length
       ·rw [if_pos (by simpa using hc),if_pos (by simp; omega)];rw [show p - o=(p - (o+1))+1 by omega];simp
       ·rw [if_neg (by simpa using hc),if_neg (by simp; omega),List.getElem?_set_ne hp]
    have:=gen us (i*ts.2+off) vs.toList
    simpa using this
   have Vs:i*ts.2+ts.2≤vs.size:=by
    rw [q4]
    calc i*ts.2+ts.2=(i+1)*ts.2:=by rw [Nat.add_mul,Nat.one_mul]
     _≤cap*ts.2:=Nat.mul_le_mul_right _ (by omega)
   show ∃ v,(cR vs.toList (i*ts.2+off) us).toArray[i'*ts.2+j]? = some v∧_;rw [List.getElem?_toArray,dQ];by_cases A3:i'=i
   ·subst A3;rw [List.getElem?_set_self fy] at h2;cases h2;rcases hv j x hx with ⟨k1,v,k2,k3⟩ | ⟨k1,k2⟩
    ·have:=aP k2;rw [if_pos (by omega)];exact ⟨v,by rw [show i'*ts.2+j - (i'*ts.2+off)=j - off by omega]; exact k2,cd v (List.mem_of_getElem? k2),aV.vd k3⟩
    ·rw [if_neg (by omega)];obtain ⟨v,r1,r2,r3⟩:=q7 i' j e x he k2;exact ⟨v,r1,r2,aV.vd r3⟩
   ·rw [List.getElem?_set_ne (Ne.symm A3)] at h2;obtain ⟨v,r1,r2,r3⟩:=q7 i' j e2 x h2 hx;rw [if_neg ?_]
    ·exact ⟨v,r1,r2,aV.vd r3⟩
    ·rintro ⟨k1,k2,-⟩;rcases Nat.lt_or_gt_of_ne A3 with ah | qP
     ·have:(i'+1)*ts.2≤i*ts.2:=Nat.mul_le_mul_right _ ah;rw [Nat.add_mul,Nat.one_mul] at this;omega
     ·have:(i+1)*ts.2≤i'*ts.2:=Nat.mul_le_mul_right _ qP;rw [Nat.add_mul,Nat.one_mul] at this;omega
 ·left;have il:(c.heap.set b (.arr g ts (l.set i e')))[k]? = some bx:=hk;rw [List.getElem?_set_ne (Ne.symm n')] at il;exact ⟨il,rfl,fun x n hn=>sy blk us _ c.w x (fun e=>n' (ho.inj k b blk n cap (by rw [← e]; exact hn) bz))⟩
theorem Mb {β:Type} (us:List β) (o:Nat) (q:List β) (p:Nat):(cR q o us)[p]? = if o≤p∧p<o+us.length∧p<q.length then us[p - o]? else q[p]? := by
 induction us generalizing o q with
 |nil=>rw [if_neg (by simp; omega)]; rfl
 |cons u us ih =>
  rw [cR,ih];by_cases hp:o=p
  ·subst hp;rw [if_neg (by omega)];by_cases hq:o<q.length
   ·rw [if_pos (by simp; omega),List.getElem?_set_self hq]; simp
   ·rw [if_neg (by omega),List.getElem?_eq_none (by simp; omega),List.getElem?_eq_none (by omega)]
  ·by_cases hc:o+1≤p∧p<o+1+us.length∧p<q.length
   ·rw [if_pos (by simpa using hc),if_pos (by simp; omega)];rw [show p - o=(p - (o+1))+1 by omega];simp
   ·rw [if_neg (by simpa using hc),if_neg (by simp; omega),List.getElem?_set_ne hp]
theorem E5 {e:DV} (h:e.ek=true):e.cells=[e]:=by cases e <;> first | rfl | cases h
def A4 (e:DV) (off:Nat) (ds:List DV) (e':DV):Prop:=e'.cells.length=e.cells.length∧off+ds.length≤e.cells.length ∧
 ∀ (j:Nat) (x:DV),e'.cells[j]? = some x→(off≤j∧ds[j - off]? = some x)∨((j<off∨off+ds.length≤j)∧e.cells[j]? = some x)
theorem Mc {e:DV} {off:Nat} {ds:List DV} {stop:Prop} {k:DV→Prop} (H:xW e off ds stop k):stop∨∃ e',k e'∧A4 e off ds e':=by
 unfold xW at H;split at H
 ·rename_i cs;split at H
  ·rename_i q;rw [Ah] at H;have hq:=Nat.le_of_ble_eq_true q;refine .inr ⟨.agg (cR cs off ds),H,by simp [DV.cells,uF],hq,fun j x hx=>?_⟩;simp only [DV.cells] at hx;rw [Mb] at hx;split at hx
   ·rename_i hc; exact .inl ⟨hc.1,hx⟩
   ·rename_i hc;refine .inr ⟨?_,hx⟩;have hj:=aP hx;omega
  ·exact .inl H
 ·rename_i nS;split at H
  ·rename_i d;split at H
   ·rename_i hd;have kp:e.cells=[e]:=by cases e <;> first | rfl | exact absurd rfl (nS _)
    refine .inr ⟨d,H,by rw [kp,E5 hd]; rfl,by rw [kp]; simp,fun j x hx => .inl ⟨Nat.zero_le _,by rw [E5 hd] at hx; simpa using hx⟩⟩
   ·exact .inl H
  ·exact .inl H
theorem Md {e:DV} {off:Nat} {vs:List AV} {stop:Prop} {k:DV→Prop} (H:AX e off vs stop k):stop∨∃ (ds:List DV) (e':DV),vs=ds.map .d∧k e'∧A4 e off ds e':=by
 unfold AX at H;rcases uB vs stop (fun ds=>xW e off ds stop k) with ⟨ds,h1,h2⟩ | h2
 ·rw [h2] at H;rcases Mc H with h | ⟨e',h3,h4⟩
  ·exact .inl h
  ·exact .inr ⟨ds,e',h1,h3,h4⟩
 ·rw [h2] at H; exact .inl H
theorem Me (hE:E.OK) {t:Nat} {x y:Operand} {ti:bh} (bJ:E.T[t]? = some ti) {b g i off:Nat} {ts:Nat × Nat} {l:List DV} (hb:h[b]? = some (.arr g ts l)) (hx:aQ E.G s x (.cA b g i off)) {v:AV} (hy:aQ E.G s y v) {ds:List DV} (hv:Ap v (ds.map .d)) (bK:ds.length=ti.size) (Mf:(ds.map AV.d).all AV.ek=true)
  {e e':DV} (he:l[i]? = some e) (jP:e.cells.length=ts.2) (hp:A4 e off ds e'):bw E (.store t x y) s h (.d .undef) (h.set b (.arr g ts (l.set i e'))):=fun o c ac h1 h2 h3 h4=>by
 subst h2;obtain ⟨blk,cap,q1,q2,q3⟩:=E0 hb (hx c ac h3 h4);obtain ⟨vs,Vt,r1,r2,r3,r4,r5⟩:=h3.elem hb q1 he;obtain ⟨us,qy,iO⟩:=hv c _ (hy c ac h3 h4);have hlen:us.length=ds.length:=by rw [← iO.1]; simp
 obtain ⟨p1,p2,p3⟩:=hp;have cd:∀ u∈us,u.oneCell'=true:=fun u hu=>by
  obtain ⟨j,hj,rfl⟩:=List.getElem_of_mem hu;have lk:j<(ds.map AV.d).length:=by rw [iO.1]; exact hj
  exact Ao (iO.2 j _ us[j] (List.getElem?_eq_getElem lk) (by simp [hj])) (List.all_eq_true.1 Mf _ (List.getElem_mem lk))
 have cn:=Ev (P:=E.P) (w:=c.w) (b:=blk) (o:=i*ts.2+off) (hE.types t ti bJ) qy (by omega) r1 (by omega) cd
 obtain ⟨w1,w2⟩:=h3.Ma (i:=i) (off:=off) (e':=e') (us:=us) hb q1 r1 he (by omega) (by omega) cd (fun j x hx=>by
  rcases p3 j x hx with ⟨k1,k2⟩ | ⟨k1,k2⟩
  ·have ah:=aP k2;exact .inl ⟨k1,us[j - off]'(by omega),by simp [show j - off<us.length by omega],iO.mN (j - off) x _ k2 (by simp [show j - off<us.length by omega])⟩
  ·exact .inr ⟨by omega,k2⟩)
 refine ⟨_,Go.undef,.inr ⟨?_,rfl⟩,rfl,w1,.d _ _ .undef,w2⟩;simp only [execOp,h1,q2,Sem.run_bind,cn,Result.andThen_ok,Sem.run_pure]
theorem Mg (hE:E.OK) {o:Op} {stop:Prop} {k:AV→List ab→Prop} (H:n4 E.T E.G o s h stop k):stop∨∃ v h',k v h'∧bw E o s h v h':=by
 unfold n4 at H;split at H
 ·
  rcases aS H with h | ⟨ti,bJ,H⟩
  ·exact .inl h
  rcases bW H with h | ⟨a,ha,H⟩
  ·exact .inl h
  rcases bW H with h | ⟨b,hb,H⟩
  ·exact .inl h
  split at H
  ·split at H
   ·rename_i e hk;rcases aS H with h | ⟨ei,bL,H⟩
    ·exact .inl h
    split at H
    ·split at H
     ·rename_i q;obtain ⟨y,h0,h1,h2,H⟩:=AU H;exact .inr ⟨_,_,H,L3 hE bJ bL hk ha hb (fX q) h0 h1 h2⟩
     ·exact .inl H
    ·rcases aS H with h | ⟨bx,gg,H⟩
     ·exact .inl h
     split at H
     ·split at H
      ·rename_i q1 q2;have:=Nat.eq_of_beq_eq_true q1;subst this;obtain ⟨⟨h0,h1⟩,H⟩:=kx H;exact .inr ⟨_,_,H,L4 hE bJ bL hk gg (Nat.eq_of_beq_eq_true q2) ha hb h0 h1⟩
      ·exact .inl H
     ·exact .inl H
    ·exact .inl H
   ·rename_i len e hk;rcases aS H with h | ⟨ei,bL,H⟩
    ·exact .inl h
    split at H
    ·obtain ⟨y,h0,h1,h2,h3,h4,H⟩:=L0 H;exact .inr ⟨_,_,H,L5 hE bJ bL hk ha hb h0 h1 h2 h3 h4⟩
    ·exact .inl H
   ·exact .inl H
  ·exact .inl H
 ·
  rcases aS H with h | ⟨ti,bJ,H⟩
  ·exact .inl h
  rcases bW H with h | ⟨a,ha,H⟩
  ·exact .inl h
  rcases bW H with h | ⟨b,hb,H⟩
  ·exact .inl h
  split at H
  ·split at H
   ·have hk:ti.k = .string:=by assumption
    obtain ⟨y,h0,h1,H⟩:=LY H;exact .inr ⟨_,_,H,L6 hE bJ hk ha hb h0 h1⟩
   ·exact .inl H
  ·exact .inl H
 ·
  rcases aS H with h | ⟨ti,bJ,H⟩
  ·exact .inl h
  rcases bW H with h | ⟨a,ha,H⟩
  ·exact .inl h
  rcases E1 H with h | ⟨l,hl,H⟩
  ·exact .inl h
  rcases E1 H with h | ⟨u,hu,H⟩
  ·exact .inl h
  split at H
  ·have hk:ti.k = .string:=by assumption
   obtain ⟨⟨h0,h1,h2⟩,H⟩:=kx H;exact .inr ⟨_,_,H,L8 hE bJ hk ha hl hu h0 h1 h2⟩
  ·rcases aS H with h | ⟨ei,bL,H⟩
   ·exact .inl h
   obtain ⟨⟨h0,h1,h2,h3⟩,H⟩:=kx H;exact .inr ⟨_,_,H,L9 hE bJ bL (by assumption) ha hl hu h0 h1 h2 h3⟩
  ·exact .inl H
 ·
  rcases aS H with h | ⟨ti,bJ,H⟩
  ·exact .inl h
  rcases bW H with h | ⟨a,ha,H⟩
  ·exact .inl h
  split at H
  ·rcases aS H with h | ⟨bx,gg,H⟩
   ·exact .inl h
   split at H
   ·split at H
    ·rename_i q;have:=Nat.eq_of_beq_eq_true q;subst this;obtain ⟨e,h0,h1,h2,H⟩:=AU H;rw [Int.toNat_natCast] at h1;split at H
     ·rw [qp] at H;rcases E4 hE bJ gg ha h1 rfl H with h | ⟨v,H,hv⟩
      ·exact .inl h
      ·exact .inr ⟨_,_,H,hv⟩
     ·rename_i nS;rcases E4 hE bJ gg ha h1 (by cases e <;> first | rfl | exact absurd rfl (nS _)) H with h | ⟨v,H,hv⟩
      ·exact .inl h
      ·exact .inr ⟨_,_,H,hv⟩
    ·exact .inl H
   ·exact .inl H
  ·exact .inl H
 ·
  rcases aS H with h | ⟨ti,bJ,H⟩
  ·exact .inl h
  rcases bW H with h | ⟨v,hv,H⟩
  ·exact .inl h
  rcases bW H with h | ⟨a,ha,H⟩
  ·exact .inl h
  split at H
  ·rcases aS H with h | ⟨bx,gg,H⟩
   ·exact .inl h
   split at H
   ·split at H
    ·rename_i q;have:=Nat.eq_of_beq_eq_true q;subst this;rcases xE H with h | ⟨vs,eu,H⟩
     ·exact .inl h
     split at H
     ·rename_i q1 q2;obtain ⟨e,h0,h1,h2,H⟩:=AU H;rw [Int.toNat_natCast] at h1;rcases Md H with h | ⟨ds,e',rfl,H,hp⟩
      ·exact .inl h
      rw [fK] at H;exact .inr ⟨_,_,H,Me hE bJ gg ha hv eu (by have:=Nat.eq_of_beq_eq_true q1; simpa using this) q2 h1 h2 hp⟩
     ·exact .inl H
    ·exact .inl H
   ·exact .inl H
  ·exact .inl H
 ·exact LX hE H
end
end Go.aw
end
section
namespace Go.aw
open Go Go.RowKit
def A5 (op:BinOp) (j:IntKind) (a b:Int):Int :=
 let x:=BitVec.ofInt j.bits a
 let y:=BitVec.ofInt j.bits b
 match op with
 | .and=>j.wrap (x &&& y).toNat
 | .or=>j.wrap (x ||| y).toNat
 | .xor=>j.wrap (x ^^^ y).toNat
 |_=>j.wrap (x &&& ~~~y).toNat
def oa (op:BinOp) (j:IntKind) (a:Int) (n:Nat):Int:=match op with
 | .shl=>j.wrap (a*2 ^ min n j.bits)
 |_=>a.fdiv (2 ^ min n j.bits)
def E6:BinOp→Bool
 | .and | .or | .xor | .andNot=>true
 |_=>false
def E7:BinOp→Bool
 | .shl | .shr=>true
 |_=>false
def E8:BinOp→Bool
 | .quo | .rem=>true
 |_=>false
def A6 (op:BinOp) (j:IntKind) (a b:Int):Int:=match op with
 | .quo=>j.wrap (a.tdiv b)
 |_=>a.tmod b
def vb (d:Nat):List Nat→Bool
 | []=>false
 |a::l=>match Nat.beq a d with
  |true=>true
  |false=>vb d l
theorem vc {a b:Nat} (h:Nat.blt a b=true):a<b:=Nat.le_of_ble_eq_true h
theorem xX {d:Nat}:∀ {l:List Nat},vb d l=true→d∈l
 | [],h=>by cases h
 |a::l,h=>by
  unfold vb at h;split at h
  ·rename_i q; rw [Nat.eq_of_beq_eq_true q]; exact List.mem_cons_self ..
  ·exact List.mem_cons_of_mem _ (xX h)
section
variable {E:Env} {s:List AV} {h:List ab} {c:Cx} {G:List (Nat × DV)}
theorem Mh {op:BinOp} (bZ:E6 op=true) {t t':TypeId} {x y:Operand} {j:IntKind} {a b:Int} (hx:aQ E.G s x (.d (.int j a))) (hy:aQ E.G s y (.d (.int j b))):bw E (.binOp op t x y t') s h (.d (.int j (A5 op j a b))) h :=
 .quiet fun o c ac h1 _ h3 h4=>by
  have e1:=dM (hx c ac h3 h4);have e2:=dM (hy c ac h3 h4);refine ⟨.int j (A5 op j a b),nU h1 (by rw [e1,e2]; exact sA ..) ?_,.d _ _ (.int _ _)⟩;rw [e1,e2];cases op <;> first | (simp only [binOp,ne_eq,not_true_eq_false,if_false,Op.intBits]; rfl) | cases bZ
theorem Mi {op:BinOp} (bZ:E7 op=true) {t t':TypeId} {x y:Operand} {j j':IntKind} {a:Int} {b:Int} (hb:0≤b) (hx:aQ E.G s x (.d (.int j a))) (hy:aQ E.G s y (.d (.int j' b))):bw E (.binOp op t x y t') s h (.d (.int j (oa op j a b.toNat))) h :=
 .quiet fun o c ac h1 _ h3 h4=>by
  have e1:=dM (hx c ac h3 h4);have e2:=dM (hy c ac h3 h4);refine ⟨.int j (oa op j a b.toNat),nU h1 (by rw [e1,e2]; exact sA ..) ?_,.d _ _ (.int _ _)⟩;rw [e1,e2];have hn:¬ (b<0):=by omega
  cases op <;> first | (simp only [binOp,Op.shift,hn,if_false]; rfl) | cases bZ
def pn {α:Sort _} (kd:TK) (a b:DV) (stop:α) (k:Bool→α):α :=
 match kd,a,b with
 | .int _,.int j m,.int j' n=>match IntKind.same j j' with
  |true=>k (m==n)
  |false=>stop
 | .string,.str m,.str n=>k (m==n)
 | .bool,.bool m,.bool n=>k (m==n)
 |_,_,_=>stop
def lA {α:Sort _} (T:List bh):Nat→List (Nat × Nat)→List DV→List DV→(stop:α)→(Bool→α)→α
 |_,[],[],[],_,k=>k true
 |n,f::fs,a::l,b::m,stop,k=>match Nat.beq f.1 n with
  |true=>aI T f.2 stop fun i=>pn i.k a b stop fun p=>lA T (n+1) fs l m stop fun q=>k (p&&q)
  |false=>stop
 |_,_,_,_,stop,_=>stop
theorem Mj {kd:TK} {a b:DV} {stop:Prop} {k:Bool→Prop} (H:pn kd a b stop k):stop∨∃ p,k p:=by
 unfold pn at H;split at H
 ·split at H
  ·exact .inr ⟨_,H⟩
  ·exact .inl H
 ·exact .inr ⟨_,H⟩
 ·exact .inr ⟨_,H⟩
 ·exact .inl H
theorem E9 {T:List bh} {stop:Prop}:∀ {n:Nat} {fs:List (Nat × Nat)} {l m:List DV} {k:Bool→Prop},lA T n fs l m stop k→stop∨∃ p,k p
 |_,[],[],[],_,H => .inr ⟨_,H⟩
 |_,[],[],_::_,_,H => .inl H
 |_,[],_::_,_,_,H => .inl H
 |_,_::_,[],_,_,H => .inl H
 |_,_::_,_::_,[],_,H => .inl H
 |n,f::fs,a::l,b::m,k,H=>by
  simp only [lA] at H;split at H
  ·rcases aS H with H | ⟨i,-,H⟩
   ·exact .inl H
   rcases Mj H with H | ⟨p,H⟩
   ·exact .inl H
   rcases E9 H with H | ⟨q,H⟩
   ·exact .inl H
   ·exact .inr ⟨_,H⟩
  ·exact .inl H
theorem Mk {P:Program} {ft:Nat} {i:bh} (ht:dX P ft=some i) {a b:DV} {stop:Prop} {k:Bool→Prop} (H:pn i.k a b stop k):stop∨∃ p,k p∧i.k.agg=false ∧
  ∀ (bad:Nat→Prop) (w w':World) (u v:Value) (d:Nat),VD bad w a u→VD bad w b v→(Op.equalIn (d+1) ft u v).run P w' = .ok p w':=by
 obtain ⟨ti,td,g1,g2,g3,-⟩:=cg ht;unfold pn at H;split at H
 ·rename_i hk;split at H
  ·rename_i hs;obtain rfl:=o5 hs;refine .inr ⟨_,H,by rw [hk]; rfl,fun bad w w' u v d hu hv=>?_⟩;cases hu; cases hv;obtain rfl:=sB (hk.symm.trans g3);exact run_equalIn_int w' d ft _ _ _ _ g2
  ·exact .inl H
 ·rename_i hk;refine .inr ⟨_,H,by rw [hk]; rfl,fun bad w w' u v d hu hv=>?_⟩;cases hu; cases hv;obtain rfl:=o6 (hk.symm.trans g3);rw [run_equalIn_string w' d ft _ _ g2];simp
 ·rename_i hk;refine .inr ⟨_,H,by rw [hk]; rfl,fun bad w w' u v d hu hv=>?_⟩;cases hu; cases hv;have:td = .bool:=by rw [hk] at g3; cases td <;> first | rfl | cases g3
  subst this;exact run_equalIn_bool' w' _ ft _ _ g2
 ·exact .inl H
theorem E' {P : Program} {T : List bh} (hT : ∀ (t : Nat) (i : bh), T[t]? = some i → dX P t = some i) {stop : Prop} : ∀ {n : Nat} {fl : List Field} {l m : List DV} {k : Bool → Prop}, lA T n (fl.map fun f => (f.offset, f.type)) l m stop k → (∀ f ∈ fl, f.name ≠ "_") → stop ∨ ∃ p, k p ∧
  ∀ (bad:Nat→Prop) (w w':World) (xs ys:List Value) (d:Nat),(∀ (j:Nat) (x:DV),l[j]? = some x→∃ u,xs[n+j]? = some u∧VD bad w x u)→(∀ (j:Nat) (x:DV),m[j]? = some x→∃ u,ys[n+j]? = some u∧VD bad w x u)→(Op.eqFields (d+1) xs.toArray ys.toArray fl).run P w' = .ok p w':=by
 intro n fl
 induction fl generalizing n with
 |nil =>
  intro l m k H _;cases l with
  |nil=>cases m with
   |nil=>exact .inr ⟨true,H,fun bad w w' xs ys d _ _=>by simp only [Op.eqFields,Sem.run_pure]⟩
   |cons b m=>exact .inl H
  |cons a l=>exact .inl H
 |cons f fl ih =>
  intro l m k H hn;cases l with
  |nil=>exact .inl H
  |cons a l=>cases m with
   |nil=>exact .inl H
   |cons b m =>
    simp only [List.map_cons,lA] at H;split at H
    ·rename_i q;have q:=Nat.eq_of_beq_eq_true q;rcases aS H with H | ⟨i,hi,H⟩
     ·exact .inl H
     rcases Mk (hT _ i hi) H with H | ⟨p,H,eH,hp⟩
     ·exact .inl H
     rcases ih H (fun g hg=>hn g (List.mem_cons_of_mem _ hg)) with H | ⟨p',H,o4⟩
     ·exact .inl H
     refine .inr ⟨p&&p',H,fun bad w w' xs ys d hx hy=>?_⟩;obtain ⟨u,u1,u2⟩:=hx 0 a rfl;obtain ⟨v,v1,v2⟩:=hy 0 b rfl;rw [Nat.add_zero] at u1 v1;have xY:=hn f (List.mem_cons_self ..);simp only [Op.eqFields,ne_eq,xY,not_false_eq_true,if_true,Sem.run_bind];rw [q,xL (hT _ i hi) w' xs n u u1 eH,Result.andThen_ok,xL (hT _ i hi) w' ys n v v1 eH,Result.andThen_ok,hp bad w w' u v d u2 v2,Result.andThen_ok];cases p with
     |false=>simp
     |true =>
      simp only [Bool.not_true,Bool.false_eq_true,if_false,Bool.true_and];exact o4 bad w w' xs ys d (fun j x hj=>by rw [show n+1+j=n+(j+1) by omega]; exact hx (j+1) x (by simpa using hj)) (fun j x hj=>by rw [show n+1+j=n+(j+1) by omega]; exact hy (j+1) x (by simpa using hj))
    ·exact .inl H
theorem Fa (hE:E.OK) {op:BinOp} {t:Nat} {t':TypeId} {x y:Operand} {i:bh} (hi:E.T[t]? = some i) (hQ:t∈E.Q) {fs:List (Nat × Nat)} (hk:i.k = .struct fs) {l m:List DV} (hx:aQ E.G s x (.d (.agg l))) (hy:aQ E.G s y (.d (.agg m))) {stop:Prop} {k:Bool→Prop} (H:lA E.T 0 fs l m stop k) :
  stop∨∃ p,k p∧(op = .eql→∀ h,bw E (.binOp op t x y t') s h (.d (.bool p)) h)∧(op = .neq→∀ h,bw E (.binOp op t x y t') s h (.d (.bool !p)) h):=by
 obtain ⟨ti,d,g1,g2,g3,-⟩:=cg (hE.types t i hi);obtain ⟨fl,rfl,rfl⟩:=nV (hk.symm.trans g3);have hq:=hE.eqs t hQ;simp only [xy,g2,Bool.and_eq_true,Bool.not_eq_true',List.all_eq_true,bne_iff_ne,ne_eq] at hq;obtain ⟨⟨q1,q2⟩,q3⟩:=hq;rcases E' hE.types H q3 with h | ⟨p,H,hp⟩
 ·exact .inl h
 have gw:E.P.fieldsOf t=fl:=by simp [Program.fieldsOf,g2]
 have val:∀ (c:Cx) (ac:Act),aC E.G c→VS c s ac.tmps→∃ xs ys:List Value,ac.eval x = .agg xs.toArray∧ac.eval y = .agg ys.toArray∧(Op.equalIn 10000 t (.agg xs.toArray) (.agg ys.toArray)).run E.P c.w = .ok p c.w:=by
  intro c ac h3 h4;have eK:=hx c ac h3 h4;have eM:=hy c ac h3 h4;generalize ac.eval x=u at eK;generalize ac.eval y=v at eM;cases eK with
  |d _ _ eK=>cases eK with
   |agg _ xs x1 x2=>cases eM with
    |d _ _ eM=>cases eM with
     |agg _ ys y1 y2 =>
      refine ⟨xs.toList,ys.toList,by simp,by simp,?_⟩;rw [run_equalIn_struct c.w 9999 t _ _ (by rw [gw]; exact g2) q1,gw];refine hp c.bad c.w c.w xs.toList ys.toList 9998 (fun j z hz=>?_) (fun j z hz=>?_)
      ·have hj:=aP hz;rw [x1] at hj;exact ⟨xs[j],by simp [hj],x2 j z _ hz (by simp [hj])⟩
      ·have hj:=aP hz;rw [y1] at hj;exact ⟨ys[j],by simp [hj],y2 j z _ hz (by simp [hj])⟩
 have guard:∀ (op:BinOp) (xs ys:Array Value) (w:World),(eqGuard op t x y (.agg xs) (.agg ys)).run E.P w = .ok () w:=fun op xs ys w=>run_eqGuard_agg w op t x y xs ys q2;refine .inr ⟨p,H,fun e h=>?_,fun e h=>?_⟩
 ·subst e;refine .quiet fun o c ac h1 _ h3 h4=>⟨.bool p,?_,.d _ _ (.bool _)⟩;obtain ⟨xs,ys,e1,e2,e3⟩:=val c ac h3 h4;simp only [execOp,h1,e1,e2,Sem.run_bind,guard,Result.andThen_ok,run_eql_struct,e3,Sem.run_pure]
 ·subst e;refine .quiet fun o c ac h1 _ h3 h4=>⟨.bool !p,?_,.d _ _ (.bool _)⟩;obtain ⟨xs,ys,e1,e2,e3⟩:=val c ac h3 h4;simp only [execOp,h1,e1,e2,Sem.run_bind,guard,Result.andThen_ok,run_neq_struct,e3,Sem.run_pure]
theorem Ml (hE:E.OK) {t0 t e:Nat} {x:Operand} {i0 i ei:bh} (jm:E.T[t0]? = some i0) (hi:E.T[t]? = some i) (bL:E.T[e]? = some ei) (hk:i.k = .slice e) (A7:ei.k = .int .u8) {l:List UInt8} (hx:aQ E.G s x (.d (.str l))) :
  bw E (.convert t0 t x) s h (.d (.sl (l.map ly))) h:=fun o c ac h1 h2 h3 h4=>by
 obtain ⟨xK,d0,k1,k2,-⟩:=cg (hE.types t0 i0 jm);obtain ⟨ti,d,g1,g2,g3,-⟩:=cg (hE.types t i hi);obtain rfl:=jO (hk.symm.trans g3);obtain ⟨tie,de,q1,q2,q3,-⟩:=cg (hE.types e ei bL);obtain rfl:=sB (A7.symm.trans q3);have ex:=mM (hx c ac h3 h4);have cn:=Lib.run_convert_string_bytes (P:=E.P) c.w t0 t e ⟨l.toArray⟩ k2 g2 q2;have Mm:Proofs.YtfmdaiojokniiaaGreatDoor.Ext c.w (Lib.bytesWorld c.w e ⟨l.toArray⟩):=⟨rfl,rfl,rfl,by rw [Lib.bytesWorld_size]; omega,fun b hb=>Lib.bytesWorld_at_old c.w e _ b hb⟩;obtain ⟨r1,r2⟩:=h3.grow Mm;refine ⟨c.dL (Lib.bytesWorld c.w e ⟨l.toArray⟩),_,.inl (by simp only [execOp,h1,ex,Sem.run_bind,cn,Result.andThen_ok,Sem.run_pure]; rfl),h2,r1,.d _ _ ?_,r2⟩;have bK:(ByteArray.mk l.toArray).size=(l.map ly).length:=by simp [ByteArray.size]
 rw [bK];have cT:∀ (j:Nat) (b:UInt8),l[j]? = some b→(Lib.bytesWorld c.w e ⟨l.toArray⟩).cell? ⟨c.w.heap.size,0+(j*1+0),none⟩=some (.int .u8 b.toNat):=fun j b hb=>by
  have hj:=aP hb;rw [show 0+(j*1+0)=j by omega,Lib.bytesWorld_cell c.w e _ j (by simp [ByteArray.size]; exact hj)];simp [List.getD,hb]
 have key:∀ (i j:Nat) (a y:DV),(l.map ly)[i]? = some a→a.cells[j]? = some y→∃ b,l[i]? = some b∧j=0∧y = .int .u8 b.toNat:=fun i j a y ha hy=>by
  rw [List.getElem?_map] at ha;cases hb:l[i]? with
  |none=>rw [hb] at ha; cases ha
  |some b =>
   rw [hb] at ha;cases ha;simp only [ly,DV.cells] at hy;cases j with
   |zero=>simp at hy; exact ⟨b,rfl,rfl,hy.symm⟩
   |succ j=>simp at hy
 refine .sl _ c.w.heap.size 0 _ 1 (fun i _ => .int .u8 (l.getD i 0).toNat) (fun _ hb=>?_) (by omega) ?_ (fun i a ha=>?_) (fun i j a y ha hy=>?_) (fun i j a y ha hy=>?_) (fun i j a y ha hy=>rfl)
 ·rcases hb with hb | ⟨i,n,hi⟩
  ·have:=h3.bG _ hb; omega
  ·have:=(h3.bk i _ n hi).1; omega
 ·rw [List.length_map];have:=grownCap_ge c.w l.length 0 e
  simpa [ByteArray.size] using this
 ·rw [List.getElem?_map] at ha;cases hb:l[i]? with
  |none=>rw [hb] at ha; cases ha
  |some b=>rw [hb] at ha; cases ha; rfl
 ·obtain ⟨b,hb,rfl,rfl⟩:=key i j a y ha hy;refine (cT i b hb).trans ?_;simp [List.getD,hb]
 ·obtain ⟨b,hb,rfl,rfl⟩:=key i j a y ha hy;simp only [List.getD,hb,Option.getD_some];exact .int _ _
theorem Mn {op:BinOp} (bZ:E8 op=true) {t t':TypeId} {x y:Operand} {j:IntKind} {a b:Int} (hb:b≠0) (hx:aQ E.G s x (.d (.int j a))) (hy:aQ E.G s y (.d (.int j b))):bw E (.binOp op t x y t') s h (.d (.int j (A6 op j a b))) h :=
 .quiet fun o c ac h1 _ h3 h4=>by
  have e1:=dM (hx c ac h3 h4);have e2:=dM (hy c ac h3 h4);refine ⟨.int j (A6 op j a b),nU h1 (by rw [e1,e2]; exact sA ..) ?_,.d _ _ (.int _ _)⟩;rw [e1,e2];cases op <;> first | (simp only [binOp,ne_eq,not_true_eq_false,if_false,Op.intDiv,hb]; rfl) | cases bZ
theorem Mo {t t':TypeId} {x y:Operand} {a b:List UInt8} (hl:a.length+b.length≤9223372036854775807) (hx:aQ E.G s x (.d (.str a))) (hy:aQ E.G s y (.d (.str b))):bw E (.binOp .add t x y t') s h (.d (.str (a++b))) h :=
 .quiet fun o c ac h1 _ h3 h4=>by
  have e1:=mM (hx c ac h3 h4);have e2:=mM (hy c ac h3 h4);have e:(⟨a.toArray⟩:ByteArray)++⟨b.toArray⟩=⟨(a++b).toArray⟩:=by
   apply ByteArray.ext;simp
  refine ⟨.string ⟨(a++b).toArray⟩,nU h1 (by rw [e1,e2]; rfl) ?_,.d _ _ (.str _)⟩;rw [e1,e2];have hn:¬ (((ByteArray.mk a.toArray).size+(ByteArray.mk b.toArray).size:Nat):Int)>IntKind.i64.max:=by
   simp [ByteArray.size,IntKind.max,IntKind.bits,IntKind.signed];omega
  simp only [binOp,Op.stringOp,hn,if_false,e];rfl
def ve (E:Env) (o:Op) (s:List AV) (stop:Prop) (k:AV→Prop):Prop :=
 match o with
 | .binOp op t x y _=>aI E.T t stop fun i=>bR E.G s x stop fun a=>bR E.G s y stop fun b =>
  match a,b with
  | .d (.int j m),.d (.int j' n)=>match E6 op with
   |true=>match IntKind.same j j' with
    |true=>k (.d (.int j (A5 op j m n)))
    |false=>stop
   |false=>stop
  | .d (.agg l),.d (.agg m)=>match i.k,vb t E.Q with
   | .struct fs,true=>lA E.T 0 fs l m stop fun p=>match op with
    | .eql=>k (.d (.bool p))
    | .neq=>k (.d (.bool !p))
    |_=>stop
   |_,_=>stop
  |_,_=>stop
 | .convert t0 t x=>aI E.T t0 stop fun _=>aI E.T t stop fun i=>bR E.G s x stop fun v=>match i.k,v with
  | .slice e,.d (.str l)=>aI E.T e stop fun ei=>match ei.k with
   | .int .u8=>k (.d (.sl (l.map ly)))
   |_=>stop
  |_,_=>stop
 |_=>stop
theorem Fb (hE:E.OK) {o:Op} {stop:Prop} {k:AV→Prop} (H:ve E o s stop k):stop∨∃ v,k v∧∀ h,bw E o s h v h:=by
 unfold ve at H;split at H
 ·rename_i op t x y t';rcases aS H with h | ⟨i,hi,H⟩
  ·exact .inl h
  rcases bW H with h | ⟨a,ha,H⟩
  ·exact .inl h
  rcases bW H with h | ⟨b,hb,H⟩
  ·exact .inl h
  split at H
  ·split at H
   ·rename_i q;split at H
    ·rename_i p;obtain rfl:=o5 p;exact .inr ⟨_,H,fun h=>Mh q ha hb⟩
    ·exact .inl H
   ·exact .inl H
  ·split at H
   ·rename_i fs hk hq;by_cases he:op = .eql
    ·subst he;rcases Fa (op := .eql) (t':=t') (s:=s) hE hi (xX hq) hk ha hb H with h | ⟨p,H,h1,-⟩
     ·exact .inl h
     ·exact .inr ⟨_,H,fun h=>h1 rfl h⟩
    ·by_cases sR:op = .neq
     ·subst sR;rcases Fa (op := .neq) (t':=t') (s:=s) hE hi (xX hq) hk ha hb H with h | ⟨p,H,-,h1⟩
      ·exact .inl h
      ·exact .inr ⟨_,H,fun h=>h1 rfl h⟩
     ·refine .inl ?_;rcases E9 H with h | ⟨p,h⟩
      ·exact h
      ·split at h
       ·exact absurd rfl he
       ·exact absurd rfl sR
       ·exact h
   ·exact .inl H
  ·exact .inl H
 ·rename_i t0 t x;rcases aS H with h | ⟨i0,jm,H⟩
  ·exact .inl h
  rcases aS H with h | ⟨i,hi,H⟩
  ·exact .inl h
  rcases bW H with h | ⟨v,hv,H⟩
  ·exact .inl h
  split at H
  ·rename_i e l hk;rcases aS H with h | ⟨ei,bL,H⟩
   ·exact .inl h
   split at H
   ·rename_i A7;exact .inr ⟨_,H,fun h=>Ml hE jm hi bL hk A7 hv⟩
   ·exact .inl H
  ·exact .inl H
 ·exact .inl H
def A8 (E:Env) (o:Op) (s:List AV) (stop:Prop) (k:AV→Prop):Prop :=
 match o with
 | .binOp op _ x y _=>bR E.G s x stop fun a=>bR E.G s y stop fun b =>
  match a,b with
  | .d (.int j m),.d (.int j' n)=>match E7 op with
   |true=>need (0≤n) (k (.d (.int j (oa op j m n.toNat))))
   |false=>match E8 op,IntKind.same j j' with
    |true,true=>need (n≠0) (k (.d (.int j (A6 op j m n))))
    |_,_=>stop
  | .d (.str l),.d (.str m)=>match op with
   | .add=>need (l.length+m.length≤9223372036854775807) (k (.d (.str (l++m))))
   |_=>stop
  |_,_=>stop
 |_=>stop
theorem Mp {o:Op} {stop:Prop} {k:AV→Prop} (H:A8 E o s stop k):stop∨∃ v,k v∧∀ h,bw E o s h v h:=by
 unfold A8 at H;split at H
 ·rename_i op t x y t';rcases bW H with h | ⟨a,ha,H⟩
  ·exact .inl h
  rcases bW H with h | ⟨b,hb,H⟩
  ·exact .inl h
  split at H
  ·split at H
   ·rename_i q;obtain ⟨h0,H⟩:=kx H;exact .inr ⟨_,H,fun h=>Mi q h0 ha hb⟩
   ·split at H
    ·rename_i q p;obtain rfl:=o5 p;obtain ⟨h0,H⟩:=kx H;exact .inr ⟨_,H,fun h=>Mn q h0 ha hb⟩
    ·exact .inl H
  ·split at H
   ·obtain ⟨h0,H⟩:=kx H;exact .inr ⟨_,H,fun h=>Mo h0 ha hb⟩
   ·exact .inl H
  ·exact .inl H
 ·exact .inl H
theorem Mq (hE:E.OK) {t e len:Nat} {x i:Operand} {ti ei:bh} (bJ:E.T[t]? = some ti) (bL:E.T[e]? = some ei) (hk:ti.k = .array len e) {b off:Nat} {cs:List AV} (hb:h[b]? = some (.cells cs)) {j:IntKind} {m:Nat} (hx:aQ E.G s x (.ptr b off)) (hi:aQ E.G s i (.d (.int j (.ofNat m)))) (h1:m<len) :
  bw E (.indexAddr t x i) s h (.ptr b (off+m*ei.size)) h := .quiet fun o c ac e1 e2 h3 h4=>by
 subst e2;obtain ⟨kB,d,g1,g2,g3,-⟩:=cg (hE.types t ti bJ);obtain rfl:=uG (hk.symm.trans g3);have key:∀ p,VR c (.ptr b off) p→∃ blk,p = .pointer (some ⟨blk,off,none⟩)∧VR c (.ptr b (off+m*ei.size)) (.pointer (some ⟨blk,off+m*ei.size,none⟩)):=fun p hp=>by
  cases hp with
  |ptr _ _ cs' blk cap k1 k2=>exact ⟨blk,rfl,.ptr _ _ cs' blk cap k1 k2⟩
  |gQ _ _ _ k1 _=>rw [hb] at k1; cases k1
 obtain ⟨blk,q1,q2⟩:=key _ (hx c ac h3 h4);refine ⟨_,uZ e1 ?_,q2⟩;rw [q1,dM (hi c ac h3 h4)];have h0:(0:Int)≤Int.ofNat m:=Int.natCast_nonneg m;have Fc:Int.ofNat m<(len:Int):=by simpa using h1
 simp only [Instr.indexAt,asIntOf,Sem.run_bind,Sem.run_pure,Result.andThen_ok,run_underlying g2,Instr.sureAddr,h0,Fc,and_self,if_true,run_sizeOf (hE.types e ei bL),lj];rfl
theorem Mr (hE:E.OK) {t e len:Nat} {x:Operand} {ti ei:bh} (bJ:E.T[t]? = some ti) (bL:E.T[e]? = some ei) (hk:ti.k = .array len e) (cB:0<len) {b:Nat} {ds:List DV} (hb:h[b]? = some (.cells (ds.map .d))) (hlen:ds.length=len) (gj:ds.all DV.ek=true) (hx:aQ E.G s x (.ptr b 0)) :
  bw E (.slice t x none none none) s h (.d (.sl ds)) (h.set b .gone):=fun o c ac h1 h2 h3 h4=>by
 subst h2;obtain ⟨kB,d,g1,g2,g3,-⟩:=cg (hE.types t ti bJ);obtain rfl:=uG (hk.symm.trans g3);have eo:=aP hb;have key:∀ p,VR c (.ptr b 0) p→∃ blk cap,p = .pointer (some ⟨blk,0,none⟩)∧c.own b=some (blk,cap):=fun p hp=>by
  cases hp with
  |ptr _ _ cs' blk cap k1 k2=>exact ⟨blk,cap,rfl,k2⟩
  |gQ _ _ _ k1 _=>rw [hb] at k1; cases k1
 obtain ⟨blk,cap,q1,q2⟩:=key _ (hx c ac h3 h4);obtain ⟨ib,gR,vs,ty,p1,p2,p3⟩:=h3.cells hb;rw [q2] at p1; cases p1
 let c':Cx:={ c with own:=fun i=>if i=b then none else c.own i,heap:=c.heap.set b .gone }
 have ea:c'.heap[b]? = some .gone:=by show (c.heap.set b .gone)[b]? = _; rw [List.getElem?_set_self eo]
 have im:∀ i,i≠b→c'.heap[i]? = c.heap[i]? := fun i hi=>by show (c.heap.set b .gone)[i]? = _; rw [List.getElem?_set_ne (Ne.symm hi)]
 have bz:∀ i,i≠b→c'.own i=c.own i:=fun i hi=>by simp only [c',if_neg hi]
 have gX:∀ i p,c'.own i=some p→i≠b∧c.own i=some p:=fun i p hp=>by
  simp only [c'] at hp;split at hp
  ·cases hp
  ·rename_i q; exact ⟨q,hp⟩
 have aV:Step c c':=⟨rfl,h3.bG,rfl,rfl,rfl,Nat.le_refl _,fun _ _ _=>rfl,fun i x n hi _=>⟨n,(gX i _ hi).2⟩,fun i bx hi=>by
  by_cases bq:i=b
  ·subst bq;cases bx with
   |cells cs=>exact .inr ea
   |arr g sz l=>exact .inr ea
   |map es=>exact .inr ea
   |gone=>exact ea
   |hole=>exact ⟨_,ea⟩
  ·rw [← im i bq] at hi;cases bx with
   |cells cs=>exact .inl ⟨cs,hi,bz i bq,rfl⟩
   |arr g sz l=>exact .inl ⟨g,l,hi,.inr ⟨rfl,rfl,bz i bq⟩⟩
   |map es=>exact .inl ⟨es,hi,bz i bq⟩
   |gone=>exact hi
   |hole=>exact ⟨_,hi⟩⟩
 have aJ:aC E.G c':=by
  refine h3.next aV (fun i x n hi=>?_) (fun i j x n m hi hj=>h3.inj i j x n m (gX i _ hi).2 (gX j _ hj).2) (fun i bx hi=>?_)
  ·have:=h3.bk i x n (gX i _ hi).2;refine ⟨this.1,?_⟩;show i<(c.heap.set b .gone).length;rw [List.length_set];exact this.2
  ·by_cases bq:i=b
   ·subst bq;rw [ea] at hi;cases hi;right;show c'.own i=none;simp [c']
   ·rw [im i bq] at hi;exact .inl ⟨hi,bz i bq,fun _ _ _=>rfl⟩
 have bH:∀ (j:Nat) (y:DV),ds[j]? = some y→∃ v,vs[j]? = some v∧v.oneCell'=true∧VD c.bad c.w y v:=fun j y hy=>by
  have hj:=aP hy;have hl:=p3.1;simp at hl;have hv:vs.toList[j]? = some vs[j]:=by simp
  have:=p3.2 j (.d y) _ (by simp [hy]) hv;cases this with
  |d _ _ hd=>exact ⟨_,by simp,uE hd (List.all_eq_true.1 gj y (List.mem_of_getElem? hy)),hd⟩
 refine ⟨c',.slice (some ⟨blk,0,none⟩) ds.length ds.length,.inl ?_,rfl,aJ,.d _ _ ?_,aV⟩
 ·have A9:(Instr.sliceBounds false len len none none none).run E.P c.w = .ok (0,len,len) c.w:=rfl;have aE:¬ (len=0):=by omega
  simp only [execOp,h1,q1,Instr.sliceAt,Sem.run_bind,Sem.run_pure,Result.andThen_ok,run_underlying g2,Instr.sureAddr,Option.map_none,A9,run_sizeOf (hE.types e ei bL),aE,if_false,Nat.zero_mul,lj,Nat.sub_zero,hlen];rfl
 ·have one:∀ (i j:Nat) (y z:DV),ds[i]? = some y→y.cells[j]? = some z→j=0∧z=y:=fun i j y z hy hz=>by
   have:=List.all_eq_true.1 gj y (List.mem_of_getElem? hy);have hc:y.cells=[y]:=by cases y <;> first | rfl | cases this
   rw [hc] at hz;cases j with
   |zero=>simp at hz; exact ⟨rfl,hz.symm⟩
   |succ j=>simp at hz
  refine .sl ds blk 0 ds.length 1 (fun i j=>(vs[i]?).getD undef) (fun _ fL=>?_) (by omega) (Nat.le_refl _) (fun i y hy=>?_) (fun i j y z hy hz=>?_) (fun i j y z hy hz=>?_) (fun i j y z hy hz=>?_)
  ·rcases fL with fL | ⟨i,n,hi⟩
   ·exact h3.sep b blk cap q2 fL
   ·obtain ⟨k1,k2⟩:=gX i _ hi;exact k1 (h3.inj i b blk n cap k2 q2)
  ·have:=List.all_eq_true.1 gj y (List.mem_of_getElem? hy);cases y <;> first | rfl | cases this
  ·obtain ⟨rfl,rfl⟩:=one i j y z hy hz;obtain ⟨v,r1,r2,r3⟩:=bH i z hy;rw [r1,Option.getD_some];have:=jM p2 i v (by simpa using r1)
   simpa using this
  ·obtain ⟨rfl,rfl⟩:=one i j y z hy hz;obtain ⟨v,r1,r2,r3⟩:=bH i z hy;simp only [r1,Option.getD_some];exact aV.vd r3
  ·obtain ⟨rfl,rfl⟩:=one i j y z hy hz;obtain ⟨v,r1,r2,r3⟩:=bH i z hy;simp only [r1,Option.getD_some];exact r2
theorem Ms (hE:E.OK) {t e:Nat} {ti ei:bh} (bJ:E.T[t]? = some ti) (bL:E.T[e]? = some ei) (hk:ti.k = .slice e) (cB:0<ei.size) {parts:Array (Nat × Operand)} (hp:parts.toList=[]) :
  bw E (.buildSlice t 0 parts) s h (.own h.length 0) (h++[.arr 0 (e,ei.size) []]):=fun o c ac h1 h2 h3 h4=>by
 subst h2;obtain ⟨kB,d,g1,g2,g3,-⟩:=cg (hE.types t ti bJ);obtain rfl:=jO (hk.symm.trans g3);obtain ⟨k1,k2⟩:=h3.add (.arr 0 (e,ei.size) []) 0 (.cells #[] e);have bz:(c.add (.arr 0 (e,ei.size) []) 0 (.cells #[] e)).own c.heap.length=some (c.w.heap.size,0):=by simp [Cx.add]
 have kA:(c.add (.arr 0 (e,ei.size) []) 0 (.cells #[] e)).heap[c.heap.length]? = some (.arr 0 (e,ei.size) []):=by simp [Cx.add]
 refine ⟨_,.slice (some ⟨c.w.heap.size,0,none⟩) 0 0,.inl ?_,rfl,k2 ⟨cB,fun i e he=>by simp at he,.inr ⟨c.w.heap.size,0,#[],bz,heap_alloc_new _ _,by simp,by simp,by simp,fun i j e x he=>by simp at he⟩⟩,.own c.heap.length 0 (e,ei.size) [] c.w.heap.size 0 kA bz,k1⟩;have o4:parts = #[]:=by apply Array.ext'; simpa using hp
 subst o4;have hn:¬ ((0:Nat)>2 ^ 24):=by decide
 simp only [execOp,h1,Instr.buildSlice,Sem.run_bind,Sem.run_pure,Result.andThen_ok,run_underlying g2,run_sizeOf (hE.types e ei bL),Nat.zero_mul,Array.map_empty,hn,if_false,if_true];simp [Instr.fill,newRow,show Array.range 0 = #[] from rfl];rfl
def vf (E:Env) (o:Op) (s:List AV) (h:List ab) (stop:Prop) (k:AV→List ab→Prop):Prop :=
 match o with
 | .indexAddr t x i=>aI E.T t stop fun ti=>match ti.k with
  | .array len e=>aI E.T e stop fun ei=>bR E.G s x stop fun
   | .ptr b off=>aI h b stop fun
    | .cells _=>bR E.G s i stop fun
     | .d (.int _ n)=>match n with
      | .ofNat m=>match Nat.blt m len with
       |true=>k (.ptr b (off+m*ei.size)) h
       |false=>stop
      |_=>stop
     |_=>stop
    |_=>stop
   |_=>stop
  |_=>stop
 | .slice t x none none none=>aI E.T t stop fun ti=>match ti.k with
  | .array len e=>aI E.T e stop fun _=>match Nat.blt 0 len with
   |true=>bR E.G s x stop fun
    | .ptr b 0=>aI h b stop fun
     | .cells cs=>nQ cs stop fun ds=>match Nat.beq ds.length len,ds.all DV.ek with
      |true,true=>fe h b .gone fun h'=>k (.d (.sl ds)) h'
      |_,_=>stop
     |_=>stop
    |_=>stop
   |_=>stop
  |_=>stop
 | .buildSlice t len parts=>match len with
  | 0=>aI E.T t stop fun ti=>match ti.k with
   | .slice e=>aI E.T e stop fun ei=>match Nat.blt 0 ei.size,parts.toList with
    |true,[]=>lg h (.arr 0 (e,ei.size) []) 0 fun h' n=>k (.own n 0) h'
    |_,_=>stop
   |_=>stop
  |_=>stop
 |_=>stop
theorem Fe (hE:E.OK) {o:Op} {stop:Prop} {k:AV→List ab→Prop} (H:vf E o s h stop k):stop∨∃ v h',k v h'∧bw E o s h v h':=by
 unfold vf at H;split at H
 ·rename_i t x i;rcases aS H with h | ⟨ti,bJ,H⟩
  ·exact .inl h
  split at H
  ·rename_i len e hk;rcases aS H with h | ⟨ei,bL,H⟩
   ·exact .inl h
   rcases bW H with h | ⟨a,ha,H⟩
   ·exact .inl h
   split at H
   ·rename_i b off;rcases aS H with h | ⟨bx,hb,H⟩
    ·exact .inl h
    split at H
    ·rcases bW H with h | ⟨n,hn,H⟩
     ·exact .inl h
     split at H
     ·split at H
      ·split at H
       ·rename_i q;exact .inr ⟨_,_,H,Mq hE bJ bL hk hb ha hn (vc q)⟩
       ·exact .inl H
      ·exact .inl H
     ·exact .inl H
    ·exact .inl H
   ·exact .inl H
  ·exact .inl H
 ·rename_i t x;rcases aS H with h | ⟨ti,bJ,H⟩
  ·exact .inl h
  split at H
  ·rename_i len e hk;rcases aS H with h | ⟨ei,bL,H⟩
   ·exact .inl h
   split at H
   ·rename_i q2;rcases bW H with h | ⟨a,ha,H⟩
    ·exact .inl h
    split at H
    ·rename_i b;rcases aS H with h | ⟨bx,hb,H⟩
     ·exact .inl h
     split at H
     ·rename_i cs
      rcases uB cs stop (fun ds=>match Nat.beq ds.length len,ds.all DV.ek with
       |true,true=>fe h b .gone fun h'=>k (.d (.sl ds)) h'
       |_,_=>stop) with ⟨ds,e1,e2⟩ | e2
      ·rw [e2] at H;split at H
       ·rename_i p1 p2;rw [fK] at H;subst e1;exact .inr ⟨_,_,H,Mr hE bJ bL hk (vc q2) hb (Nat.eq_of_beq_eq_true p1) p2 ha⟩
       ·exact .inl H
      ·rw [e2] at H; exact .inl H
     ·exact .inl H
    ·exact .inl H
   ·exact .inl H
  ·exact .inl H
 ·rename_i t len parts;split at H
  ·rcases aS H with h | ⟨ti,bJ,H⟩
   ·exact .inl h
   split at H
   ·rename_i e hk;rcases aS H with h | ⟨ei,bL,H⟩
    ·exact .inl h
    split at H
    ·rename_i q1 q2;rw [o3,Nat.zero_add] at H;exact .inr ⟨_,_,H,Ms hE bJ bL hk (vc q1) q2⟩
    ·exact .inl H
   ·exact .inl H
  ·exact .inl H
 ·exact .inl H
def vg (E:Env) (o:Op) (s:List AV) (h:List ab) (stop:Prop) (k:AV→List ab→Prop):Prop:=ve E o s (vf E o s h stop k) fun v=>k v h
theorem Ff (hE:E.OK) {o:Op} {stop:Prop} {k:AV→List ab→Prop} (H:vg E o s h stop k):stop∨∃ v h',k v h'∧bw E o s h v h':=by
 rcases Fb hE H with H | ⟨v,H,ho⟩
 ·exact Fe hE H
 ·exact .inr ⟨v,h,H,ho h⟩
end
end Go.aw
end
section
namespace Go.aw
open Go Go.RowKit
def ob:DV→DV→Bool
 | .int j m,.int k n=>IntKind.same j k&&(m==n)
 | .str a,.str b=>a==b
 | .bool a,.bool b=>a==b
 |_,_=>false
def qQ:List DV→List DV→Bool
 | [],[]=>true
 |a::l,b::m=>ob a b&&qQ l m
 |_,_=>false
def dR:DV→DV→Bool
 | .agg l,.agg m=>qQ l m
 |a,b=>ob a b
def eb (k:DV):List (DV × DV)→Option Nat
 | []=>none
 |p::l=>if dR k p.1 then some 0 else (eb k l).map (· + 1)
def findD (k:DV):List (DV × DV)→Option DV
 | []=>none
 |p::l=>if dR k p.1 then some p.2 else findD k l
def bI (k v:DV):List (DV × DV)→List (DV × DV)
 | []=>[(k,v)]
 |p::l=>if dR k p.1 then (k,v)::l else p::bI k v l
def lB:TK→DV→Prop
 | .int j,x=>∃ n,x = .int j n
 | .string,x=>∃ s,x = .str s
 | .bool,x=>∃ b,x = .bool b
 |_,_=>False
def qR (T:List bh):Nat→List (Nat × Nat)→List DV→Prop
 |_,[],[]=>True
 |n,f::fs,a::l=>f.1=n∧(∃ i,T[f.2]? = some i∧lB i.k a)∧qR T (n+1) fs l
 |_,_,_=>False
def cS (T:List bh) (k:TK) (x:DV):Prop:=match k with
 | .struct fs=>∃ l,x = .agg l∧qR T 0 fs l
 |k=>lB k x
def fh:DV→Value
 | .int j n => .int j n
 | .str s => .string ⟨s.toArray⟩
 | .bool b => .bool b
 | .agg l => .agg (l.map fun
  | .int j n => .int j n
  | .str s => .string ⟨s.toArray⟩
  | .bool b => .bool b
  |_=>undef).toArray
 |_=>undef
def sS:DV→Prop
 | .int _ _=>True
 | .str _=>True
 | .bool _=>True
 |_=>False
theorem lB.flat {k:TK} {x:DV} (h:lB k x):sS x:=by
 cases k <;> first | (obtain ⟨_,rfl⟩:=h; trivial) | exact h.elim
theorem qR.flat {T:List bh}:∀ {n:Nat} {fs:List (Nat × Nat)} {l:List DV},qR T n fs l→∀ x∈l,sS x
 |_,[],[],_,x,hx=>by simp at hx
 |_,_::_,[],h,_,_=>h.elim
 |_,[],_::_,h,_,_=>h.elim
 |n,f::fs,a::l,h,x,hx=>by
  rcases List.mem_cons.1 hx with rfl | hx
  ·obtain ⟨-,⟨i,-,h⟩,-⟩:=h;exact h.flat
  ·exact h.2.2.flat x hx
theorem xZ {bad:Nat→Prop} {w:World} {x:DV} {v:Value} (hf:sS x) (h:VD bad w x v):v=fh x:=by
 cases x <;> first | exact hf.elim | (cases h; rfl)
theorem cS.cases {T:List bh} {k:TK} {x:DV} (h:cS T k x):sS x∨∃ l,x = .agg l∧∀ y∈l,sS y:=by
 unfold cS at h;split at h
 ·obtain ⟨l,rfl,h⟩:=h;exact .inr ⟨l,rfl,h.flat⟩
 ·exact .inl h.flat
theorem qS {T:List bh} {k:TK} {bad:Nat→Prop} {w:World} {x:DV} {v:Value} (hf:cS T k x) (h:VD bad w x v):v=fh x:=by
 rcases hf.cases with gY | ⟨l,rfl,gY⟩
 ·exact xZ gY h
 ·cases h with
  |agg _ vs hl hv =>
   simp only [fh]
   congr 1
   apply Array.ext
   ·simpa using hl.symm
   ·intro j h1 h2;have hj:j<l.length:=by omega
    have e:=hv j l[j] vs[j] (by simp) (by simp [h1]);have:=xZ (gY _ (List.getElem_mem hj)) e;rw [this];simp only [List.getElem_toArray,List.getElem_map];have qN:=gY _ (List.getElem_mem hj);generalize l[j]=y at qN;cases y <;> first | rfl | exact qN.elim
theorem A' (j:IntKind):IntKind.same j j=true:=by cases j <;> rfl
theorem Fg {a b:DV} (h:ob a b=true):a=b:=by
 unfold ob at h;split at h
 ·simp only [Bool.and_eq_true,beq_iff_eq] at h;obtain rfl:=o5 h.1;rw [h.2]
 ·simp at h; rw [h]
 ·simp at h; rw [h]
 ·cases h
theorem Fh:∀ {a b:List DV},qQ a b=true→a=b
 | [],[],_=>rfl
 | [],_::_,h=>by cases h
 |_::_,[],h=>by cases h
 |x::a,y::b,h=>by
  simp only [qQ,Bool.and_eq_true] at h;rw [Fg h.1,Fh h.2]
theorem Fi {a b:DV} (h:dR a b=true):a=b:=by
 unfold dR at h;split at h
 ·rw [Fh h]
 ·exact Fg h
theorem Ba (a b:List UInt8):((⟨a.toArray⟩:ByteArray)==⟨b.toArray⟩)=(a==b):=by
 show (a.toArray==b.toArray)=_;simp
theorem Bb {α:Type}:∀ {l:List α} {p:α × α},p∈l.zip l→p.1=p.2∧p.1∈l
 | [],p,h=>by simp at h
 |a::l,p,h=>by
  rcases List.mem_cons.1 h with rfl | h
  ·exact ⟨rfl,List.mem_cons_self ..⟩
  ·exact ⟨(Bb h).1,List.mem_cons_of_mem _ (Bb h).2⟩
theorem Mt (n:Nat) {x:DV} (h:sS x):Instr.sameBits n (fh x) (fh x)=true:=by
 cases x <;> first | exact h.elim | (cases n <;> simp [fh,Instr.sameBits,Ba])
theorem Fj {T:List bh} {k:TK} {x:DV} (h:cS T k x):Instr.sameBits 10000 (fh x) (fh x)=true:=by
 rcases h.cases with h1 | ⟨l,rfl,h1⟩
 ·exact Mt _ h1
 ·show Instr.sameBits (9999+1) _ _=true;simp only [fh,Instr.sameBits,beq_self_eq_true,Bool.true_and,List.all_eq_true];intro p hp;obtain ⟨e1,e2⟩:=Bb hp;obtain ⟨p1,p2⟩:=p;simp only at e1 e2;subst e1;obtain ⟨y,hy,rfl⟩:=List.mem_map.1 e2;have:=h1 y hy;cases y <;> first | exact this.elim | simp [Instr.sameBits,Ba]
def vh (bad:Nat→Prop) (w:World) (es:List (DV × DV)) (en:List MapEntry):Prop:=en.length=es.length∧∀ (j:Nat) (k x:DV) (m:MapEntry),es[j]? = some (k,x)→en[j]? = some m→VD bad w k m.key∧VD bad w x m.val
theorem vh.cons {bad:Nat→Prop} {w:World} {p:DV × DV} {m:MapEntry} {es:List (DV × DV)} {en:List MapEntry} (h:vh bad w (p::es) (m::en)):VD bad w p.1 m.key∧VD bad w p.2 m.val∧vh bad w es en:=by
 obtain ⟨h1,h2⟩:=h;have:=h2 0 p.1 p.2 m rfl rfl;exact ⟨this.1,this.2,by simpa using h1,fun j k x m' hk hm=>h2 (j+1) k x m' (by simpa using hk) (by simpa using hm)⟩
theorem x4 {k:DV}:∀ {es:List (DV × DV)} {j:Nat},eb k es=some j→∃ p,es[j]? = some p∧dR k p.1=true∧findD k es=some p.2
 | [],_,h=>by cases h
 |p::es,j,h=>by
  unfold eb at h;split at h
  ·rename_i q;cases h;exact ⟨p,rfl,q,by simp [findD,q]⟩
  ·rename_i q;cases hf:eb k es with
   |none=>rw [hf] at h; cases h
   |some i =>
    rw [hf] at h;cases h;obtain ⟨p',h1,h2,h3⟩:=x4 hf;exact ⟨p',by simpa using h1,h2,by simp [findD,q,h3]⟩
theorem Bc {k:DV}:∀ {es:List (DV × DV)},eb k es=none→findD k es=none
 | [],_=>rfl
 |p::es,h=>by
  unfold eb at h;split at h
  ·cases h
  ·rename_i q;cases hf:eb k es with
   |none=>simp [findD,q,Bc hf]
   |some i=>rw [hf] at h; cases h
theorem vi {k v:DV}:∀ {es:List (DV × DV)} {j:Nat},eb k es=some j→bI k v es=es.set j (k,v)
 | [],_,h=>by cases h
 |p::es,j,h=>by
  unfold eb at h;split at h
  ·rename_i q;cases h;simp [bI,q]
  ·rename_i q;cases hf:eb k es with
   |none=>rw [hf] at h; cases h
   |some i =>
    rw [hf] at h;cases h;simp [bI,q,vi hf]
theorem vj {k v:DV}:∀ {es:List (DV × DV)},eb k es=none→bI k v es=es++[(k,v)]
 | [],_=>rfl
 |p::es,h=>by
  unfold eb at h;split at h
  ·cases h
  ·rename_i q;cases hf:eb k es with
   |none=>simp [bI,q,vj hf]
   |some i=>rw [hf] at h; cases h
theorem oc {P:Program} {w:World} {r:Nat} {es:Array MapEntry} {clock:Nat} (hb:w.heap[r]? = some (.map es clock)):(getObj r).run P w = .ok (.map es clock) w:=by
 simp [getObj,Sem.run,hb]
theorem vk {P:Program} {w:World} {r:Nat} {es:Array MapEntry} {clock:Nat} (o:Obj) (hb:w.heap[r]? = some (.map es clock)):(setObj r o).run P w = .ok () { w with heap:=w.heap.setIfInBounds r o }:=by
 simp [setObj,Sem.run,hb]
theorem Mu {P:Program} {w:World} {kt:TypeId} {d:TypeDesc} {k:Value} {l:List MapEntry} {a:Option (Nat × Value)} (hd:P.underlying kt=some d) (h:Instr.findNow d k l 0=some a):(Instr.findKey kt k l).run P w = .ok a w:=by
 simp [Instr.findKey,run_underlying hd,Result.andThen,h]
section
variable {E:Env}
def Bd:TK→Prop
 | .int _=>True
 | .string=>True
 | .bool=>True
 |_=>False
inductive po (E:Env) (t:Nat):TK→Prop
 |plain (i:bh) (hi:E.T[t]? = some i) (h:Bd i.k):po E t i.k
 |struct (i:bh) (hi:E.T[t]? = some i) (fs:List (Nat × Nat)) (hk:i.k = .struct fs) (hq:t∈E.Q):po E t (.struct fs)
theorem Fk {T:List bh}:∀ {n:Nat} {fs:List (Nat × Nat)} {l m:List DV},qR T n fs l→qR T n fs m→lA T n fs l m False (· = qQ l m)
 |_,[],[],[],_,_=>rfl
 |_,_::_,[],_,h,_=>h.elim
 |_,[],_::_,_,h,_=>h.elim
 |_,_::_,_::_,[],_,h=>h.elim
 |_,[],[],_::_,_,h=>h.elim
 |n,f::fs,a::l,b::m,h,h'=>by
  obtain ⟨e1,⟨i,hi,ha⟩,hl⟩:=h;obtain ⟨-,⟨i',bS,hb⟩,hm⟩:=h';rw [hi] at bS;cases bS;simp only [lA];have:Nat.beq f.1 n=true:=by rw [e1]; exact Nat.beq_refl n
  rw [this];simp only;rw [xz hi];have key:∀ (K:Bool→Prop),K (ob a b)→pn i.k a b False K:=fun K hK=>by
   unfold lB at ha hb;split at ha
   ·rename_i j hk;obtain ⟨x,rfl⟩:=ha;rw [hk] at hb ⊢;obtain ⟨y,rfl⟩:=hb;simp only [pn,A']
    simpa [ob,A'] using hK
   ·rename_i hk;obtain ⟨x,rfl⟩:=ha;rw [hk] at hb ⊢;obtain ⟨y,rfl⟩:=hb;exact hK
   ·rename_i hk;obtain ⟨x,rfl⟩:=ha;rw [hk] at hb ⊢;obtain ⟨y,rfl⟩:=hb;exact hK
   ·exact ha.elim
  refine key _ ?_;have ih:=Fk hl hm;have mono:∀ {n:Nat} {fs:List (Nat × Nat)} {l m:List DV} {K K':Bool→Prop},(∀ p,K p→K' p)→lA T n fs l m False K→lA T n fs l m False K':=by
   intro n fs
   induction fs generalizing n with
   |nil=>intro l m K K' hk H; cases l <;> cases m <;> first | exact hk _ H | exact H
   |cons f fs Be =>
    intro l m K K' hk H;cases l with
    |nil=>exact H
    |cons a l=>cases m with
     |nil=>exact H
     |cons b m =>
      simp only [lA] at H ⊢;split at H
      ·rcases aS H with H | ⟨i,hi,H⟩
       ·exact H.elim
       rw [xz hi];unfold pn at H ⊢;split at H
       ·split at H
        ·exact Be (fun p hp=>hk _ hp) H
        ·exact H
       ·exact Be (fun p hp=>hk _ hp) H
       ·exact Be (fun p hp=>hk _ hp) H
       ·exact H
      ·exact H
  refine mono (fun p hp=>?_) ih;rw [hp,qQ]
theorem Mv (hE:E.OK) {t:Nat} {i:bh} (hi:E.T[t]? = some i) {fs:List (Nat × Nat)} (hk:i.k = .struct fs) (hq:t∈E.Q) {x y:DV} (hx:cS E.T (.struct fs) x) (hy:cS E.T (.struct fs) y) {bad:Nat→Prop} {w:World} {u v:Value} (hu:VD bad w x u) (hv:VD bad w y v) :
  (Op.equal t u v).run E.P w = .ok (dR x y) w:=by
 obtain ⟨l,rfl,hl⟩:=hx;obtain ⟨m,rfl,hm⟩:=hy;obtain ⟨ti,d,g1,g2,g3,-⟩:=cg (hE.types t i hi);obtain ⟨fl,rfl,rfl⟩:=nV (hk.symm.trans g3);have sU:=hE.eqs t hq;simp only [xy,g2,Bool.and_eq_true,Bool.not_eq_true',List.all_eq_true,bne_iff_ne,ne_eq] at sU;obtain ⟨⟨q1,q2⟩,q3⟩:=sU;rcases E' hE.types (Fk hl hm) q3 with h | ⟨p,rfl,hp⟩
 ·exact h.elim
 have gw:E.P.fieldsOf t=fl:=by simp [Program.fieldsOf,g2]
 cases hu with
 |agg _ xs x1 x2=>cases hv with
  |agg _ ys y1 y2 =>
   show (Op.equalIn (9999+1) t _ _).run E.P w=_;rw [run_equalIn_struct w 9999 t _ _ (by rw [gw]; exact g2) q1,gw];have:=hp bad w w xs.toList ys.toList 9998 (fun j z hz=>?_) (fun j z hz=>?_)
   ·simpa [dR] using this
   ·have hj:=aP hz;rw [x1] at hj;exact ⟨xs[j],by simp [hj],x2 j z _ hz (by simp [hj])⟩
   ·have hj:=aP hz;rw [y1] at hj;exact ⟨ys[j],by simp [hj],y2 j z _ hz (by simp [hj])⟩
theorem Mw {td:TypeDesc} {k:TK} (hk:k=tk td) (hp:Bd k) {x y:DV} (hx:lB k x) (hy:lB k y):Instr.sameNow td (fh x) (fh y)=some (dR x y):=by
 subst hk;cases td <;> simp only [tk,Bd] at hp hx hy
 ·obtain ⟨a,rfl⟩:=hx; obtain ⟨b,rfl⟩:=hy; rfl
 ·obtain ⟨a,rfl⟩:=hx; obtain ⟨b,rfl⟩:=hy;simp [Instr.sameNow,fh,dR,ob,A']
 ·obtain ⟨a,rfl⟩:=hx; obtain ⟨b,rfl⟩:=hy;simp [Instr.sameNow,fh,dR,ob,Ba]
def jr (k:DV) (es:List (DV × DV)) (en:List MapEntry) (i:Nat):Option (Nat × Value):=(eb k es).bind fun j=>(en[j]?).map fun m=>(i+j,m.val)
theorem Fl {k:DV} {p:DV × DV} {m:MapEntry} {es:List (DV × DV)} {en:List MapEntry} {i:Nat}:jr k (p::es) (m::en) i=if dR k p.1 then some (i,m.val) else jr k es en (i+1):=by
 simp only [jr,eb];split
 ·simp
 ·cases eb k es with
  |none=>rfl
  |some j =>
   simp;cases en[j]? with
   |none=>rfl
   |some m=>simp; omega
theorem Bf (hE:E.OK) {t:Nat} {k:TK} (hT:po E t k) {x:DV} (hx:cS E.T k x) {bad:Nat→Prop} {w:World} {u:Value} (hu:VD bad w x u) {es:List (DV × DV)} {en:List MapEntry} (jP:∀ p∈es,cS E.T k p.1) (sV:vh bad w es en) :
  (Instr.findKey t u en).run E.P w = .ok (jr x es en 0) w:=by
 cases hT with
 |plain i hi h =>
  obtain ⟨ti,d,g1,g2,g3,-⟩:=cg (hE.types t i hi);refine Mu g2 ?_;have hF:∀ y,cS E.T i.k y→lB i.k y:=fun y hy=>by
   unfold cS at hy;split at hy
   ·rename_i q; rw [q] at h; exact h.elim
   ·exact hy
  obtain rfl:=qS hx hu;generalize 0=n
  induction es generalizing en n with
  |nil =>
   obtain rfl:en=[]:=List.eq_nil_of_length_eq_zero (by simpa using sV.1);rfl
  |cons p es ih=>cases en with
   |nil=>have:=sV.1; simp at this
   |cons m en =>
    obtain ⟨h1,h2,h3⟩:=sV.cons;have hp:=jP p (List.mem_cons_self ..);have e1:=qS hp h1;rw [Fl,Instr.findNow,e1,Mw g3 h (hF _ hx) (hF _ hp)];cases dR x p.1 with
    |true=>rfl
    |false =>
     have ha:∀ q∈es,cS E.T i.k q.1:=fun q hq=>jP q (List.mem_cons_of_mem _ hq);first | exact ih ha h3 (n+1) | exact ih h3 ha (n+1) | exact ih h3 (n+1) ha
 |struct i hi fs hk hq =>
  obtain ⟨ti,d,g1,g2,g3,-⟩:=cg (hE.types t i hi);obtain ⟨fl,rfl,-⟩:=nV (hk.symm.trans g3);rw [run_findKey_eq w (by rw [g2]) u en];generalize 0=n
  induction es generalizing en n with
  |nil =>
   obtain rfl:en=[]:=List.eq_nil_of_length_eq_zero (by simpa using sV.1);simp [Instr.findAsking,jr,eb]
  |cons p es ih=>cases en with
   |nil=>have:=sV.1; simp at this
   |cons m en =>
    obtain ⟨h1,h2,h3⟩:=sV.cons;have hp:=jP p (List.mem_cons_self ..);rw [Fl];simp only [Instr.findAsking,Sem.run_bind,Mv hE hi hk hq hx hp hu h1,Result.andThen_ok];cases dR x p.1 with
    |true=>simp
    |false =>
     simp only [Bool.false_eq_true,if_false];have ha:∀ q∈es,cS E.T (.struct _) q.1:=fun q hq=>jP q (List.mem_cons_of_mem _ hq);first | exact ih ha h3 (n+1) | exact ih h3 ha (n+1) | exact ih h3 (n+1) ha
theorem Bg (hE:E.OK) {t:Nat} {k:TK} (hT:po E t k) {x:DV} (hx:cS E.T k x) {bad:Nat→Prop} {w:World} {u:Value} (hu:VD bad w x u) (em:Bool):(Instr.checkKey em 10000 t u).run E.P w = .ok () w:=by
 have one:∀ (n:Nat) (t:Nat) (i:bh) (hi:E.T[t]? = some i) (y:DV),lB i.k y→(Instr.checkKey em (n+1) t (fh y)).run E.P w = .ok () w:=fun n t i hi y hy=>by
  obtain ⟨ti,d,g1,g2,g3,-⟩:=cg (hE.types t i hi);unfold Instr.checkKey;simp only [Sem.run_bind,run_underlying g2,Result.andThen];unfold lB at hy;split at hy
  ·rename_i q; obtain ⟨a,rfl⟩:=hy; obtain rfl:=sB (q.symm.trans g3); simp [fh]
  ·rename_i q; obtain ⟨a,rfl⟩:=hy; obtain rfl:=o6 (q.symm.trans g3); simp [fh]
  ·rename_i q;obtain ⟨a,rfl⟩:=hy;have:d = .bool:=by rw [q] at g3; cases d <;> first | rfl | cases g3
   subst this;simp [fh]
  ·exact hy.elim
 obtain rfl:=qS hx hu;cases hT with
 |plain i hi h =>
  have hF:lB i.k x:=by
   unfold cS at hx;split at hx
   ·rename_i q; rw [q] at h; exact h.elim
   ·exact hx
  exact one 9999 t i hi x hF
 |struct i hi fs hk hq =>
  obtain ⟨ti,d,g1,g2,g3,-⟩:=cg (hE.types t i hi);obtain ⟨fl,rfl,rfl⟩:=nV (hk.symm.trans g3);obtain ⟨l,rfl,hl⟩:=hx;show (Instr.checkKey em (9999+1) t _).run E.P w=_;rw [Instr.checkKey];simp only [Sem.run_bind,run_underlying g2,Result.andThen_ok,fh];rw [← Array.forIn_toList]
  generalize jT:(l.map fun
   | .int j n=>Value.int j n
   | .str s => .string ⟨s.toArray⟩
   | .bool b => .bool b
   |_=>undef)=cs
  have bH:∀ (j:Nat) (y:DV),l[j]? = some y→cs[0+j]? = some (fh y):=fun j y hy=>by
   rw [← jT];have:=hl.flat y (List.mem_of_getElem? hy);simp [hy];cases y <;> first | rfl | exact this.elim
  clear jT;have go:∀ (fl:List Field) (n:Nat) (l:List DV),qR E.T n (fl.map fun f=>(f.offset,f.type)) l→(∀ (j:Nat) (y:DV),l[j]? = some y→cs[n+j]? = some (fh y)) →
    (forIn fl PUnit.unit fun f _ =>
     if f.name ≠ "_" then do
      let d ← part f.type cs.toArray f.offset
      Instr.checkKey em 9999 f.type d
      pure (ForInStep.yield PUnit.unit)
     else pure (ForInStep.yield PUnit.unit):Sem PUnit).run E.P w = .ok PUnit.unit w:=by
   intro fl
   induction fl with
   |nil=>intro n l _ _; simp
   |cons f fl ih =>
    intro n l h hv;cases l with
    |nil=>exact h.elim
    |cons a l =>
     obtain ⟨e1,⟨fi,ic,pq⟩,hr⟩:=h;simp only at e1 ic;have eH:fi.k.agg=false:=by
      unfold lB at pq;split at pq <;> first | (rename_i q; rw [q]; rfl) | exact pq.elim
     have h0 := hv 0 a rfl;rw [Nat.add_zero] at h0;have hp := xL (hE.types _ fi ic) w cs n (fh a) h0 eH;have qT := ih (n + 1) l hr (fun j y hy => by rw [show n + 1 + j = n + (j + 1) by omega]; exact hv (j + 1) y (by simpa using hy));simp only [List.forIn_cons, Sem.run_bind];by_cases xY : f.name = "_"
     ·simp only [xY,ne_eq,not_true_eq_false,if_false,Sem.run_bind,Sem.run_pure,Result.andThen_ok];exact qT
     ·simp only [xY,ne_eq,not_false_eq_true,if_true,Sem.run_bind,e1,hp,Result.andThen_ok,one 9998 f.type fi ic a pq,Sem.run_pure];exact qT
  have:=go fl.toList 0 l hl bH;rw [this];rfl
end
section
variable {E:Env} {s:List AV} {h:List ab} {c:Cx} {G:List (Nat × DV)}
theorem Mx {t:Nat}:bw E (.makeMap t none) s h (.map h.length) (h++[.map []]):=fun o c ac h1 h2 h3 h4=>by
 subst h2;obtain ⟨k1,k2⟩:=h3.add (.map []) 0 (.map #[] 0);have bz:(c.add (.map []) 0 (.map #[] 0)).own c.heap.length=some (c.w.heap.size,0):=by simp [Cx.add]
 have kA:(c.add (.map []) 0 (.map #[] 0)).heap[c.heap.length]? = some (.map []):=by simp [Cx.add]
 refine ⟨_,.map (some c.w.heap.size),.inl ?_,rfl,k2 ⟨c.w.heap.size,0,#[],0,bz,heap_alloc_new _ _,⟨rfl,by simp,by simp,by simp,rfl⟩,fun j k x m hj=>by simp at hj⟩,.map c.heap.length [] c.w.heap.size 0 kA bz,k1⟩;simp only [execOp,h1,Option.map_none,Instr.makeMap];rfl
theorem My {b:Nat} {es:List (DV × DV)} (hb:c.heap[b]? = some (.map es)) {v:Value} (hv:VR c (.map b) v):∃ blk cap,v = .map (some blk)∧c.own b=some (blk,cap):=by
 cases hv with
 |map _ cX blk cap k1 k2=>exact ⟨blk,cap,rfl,k2⟩
 |lb _ _ k1 _=>rw [hb] at k1; cases k1
theorem sW (h3:aC G c) {b:Nat} {es:List (DV × DV)} (hb:c.heap[b]? = some (.map es)) {v:Value} (hv:VR c (.map b) v):∃ (blk cap:Nat) (en:Array MapEntry) (ck:Nat),v = .map (some blk)∧c.own b=some (blk,cap)∧c.w.heap[blk]? = some (.map en ck)∧lh en ck es.length∧vh c.bad c.w es en.toList:=by
 obtain ⟨blk,cap,rfl,ho⟩:=My hb hv;obtain ⟨ib,gR,en,ck,p1,p2,p3,p4⟩:=h3.box b _ hb;rw [ho] at p1;cases p1;exact ⟨blk,cap,en,ck,rfl,ho,p2,p3,by simpa using p3.size,fun j k x m hk hm=>p4 j k x m hk (by simpa using hm)⟩
@[irreducible] def vn (E : Env) (e : Nat) (kd : TK) (x : DV) (es : List (DV × DV)) (K : DV → Bool → Prop) : Prop :=
 ∃ (z:DV) (zv:Value),cS E.T kd x∧(∀ p∈es,cS E.T kd p.1)∧(∀ w,(zeroValue e).run E.P w = .ok zv w)∧(∀ bad w,VD bad w z zv)∧K ((findD x es).getD z) (findD x es).isSome
theorem mX {E:Env} {e:Nat} {kd:TK} {x:DV} {es:List (DV × DV)} {K:DV→Bool→Prop} (z:DV) (zv:Value) {v:DV} {f:Bool} (h1:cS E.T kd x) (h2:∀ p∈es,cS E.T kd p.1) (h3:∀ w,(zeroValue e).run E.P w = .ok zv w) (h4:∀ bad w,VD bad w z zv)
  (e1:(findD x es).getD z=v) (e2:(findD x es).isSome=f) (k:K v f):vn E e kd x es K:=by
 unfold vn;exact ⟨z,zv,h1,h2,h3,h4,by rw [e1,e2]; exact k⟩
theorem Mz {E:Env} {e:Nat} {kd:TK} {x:DV} {es:List (DV × DV)} {K:DV→Bool→Prop} (h:vn E e kd x es K) :
  ∃ (z:DV) (zv:Value),cS E.T kd x∧(∀ p∈es,cS E.T kd p.1)∧(∀ w,(zeroValue e).run E.P w = .ok zv w)∧(∀ bad w,VD bad w z zv)∧K ((findD x es).getD z) (findD x es).isSome:=by unfold vn at h; exact h
theorem MA (hE:E.OK) {t kt e:Nat} {m ko:Operand} {ti:bh} (bJ:E.T[t]? = some ti) (hk:ti.k = .map kt e) {kd:TK} (hT:po E kt kd) {b:Nat} {es:List (DV × DV)} (hb:h[b]? = some (.map es)) (hm:aQ E.G s m (.map b)) {x:DV} (hx:aQ E.G s ko (.d x))
  (h1:cS E.T kd x) (h2:∀ p∈es,cS E.T kd p.1) {z:DV} {zv:Value} (hz:∀ w,(zeroValue e).run E.P w = .ok zv w) (Bh:∀ bad w,VD bad w z zv) (ok:Bool) :
  bw E (.lookup t m ko ok) s h (match ok with | true => .d (.az [(findD x es).getD z,.bool (findD x es).isSome]) | false => .d ((findD x es).getD z)) h := .quiet fun o c ac e1 e2 h3 h4=>by
 subst e2;obtain ⟨kB,d,g1,g2,g3,-⟩:=cg (hE.types t ti bJ);have hd:d = .map kt e:=by rw [hk] at g3; cases d <;> first | (cases g3; rfl) | cases g3
 subst hd;obtain ⟨blk,cap,en,ck,q1,q2,q3,qe,q4⟩:=sW h3 hb (hm c ac h3 h4);have cC:=hx c ac h3 h4;generalize hu:ac.eval ko=u at cC;cases cC with
 |d _ _ cC =>
  have r1:=Bg hE hT h1 cC en.isEmpty;have r2:=Bf hE hT h1 cC h2 q4
  have hv:∃ (v:Value) (f:Bool),f=(findD x es).isSome∧VD c.bad c.w ((findD x es).getD z) v∧((match jr x es en.toList 0 with
    |some (_,v)=>pure (v,true)
    |none=>do pure (← zeroValue e,false):Sem (Value × Bool))).run E.P c.w = .ok (v,f) c.w:=by
   cases hf:eb x es with
   |none =>
    rw [Bc hf];refine ⟨zv,false,rfl,Bh _ _,?_⟩;simp [jr,hf,hz]
   |some j =>
    obtain ⟨p,p1,p2,p3⟩:=x4 hf;rw [p3];have hj:j<en.toList.length:=by rw [q4.1]; exact aP p1
    refine ⟨en.toList[j].val,true,rfl,(q4.2 j p.1 p.2 _ p1 (by simp)).2,?_⟩;have:en.toList[j]? = some en.toList[j]:=by simp
    simp only [jr,hf,Option.bind_some,this,Option.map_some];rfl
  obtain ⟨v,f,rfl,eI,cn⟩:=hv;have main:(Instr.lookup t (.map (some blk)) u ok).run E.P c.w = .ok (if ok then .tuple #[v,.bool (findD x es).isSome] else v) c.w:=by
   simp only [Instr.lookup,Sem.run_bind,run_underlying g2,Result.andThen_ok,oc q3,Sem.run_pure,r1,r2];have:=cn;cases Fm:jr x es en.toList 0 with
   |none =>
    rw [Fm] at this;simp only [Sem.run_bind,Sem.run_pure] at this ⊢;rw [hz] at this ⊢;simp only [Result.andThen_ok,Result.ok.injEq,Prod.mk.injEq] at this ⊢;rw [← this.1.1,← this.1.2];first | exact ⟨rfl,rfl⟩ | exact ⟨rfl,trivial⟩ | rfl
   |some q =>
    rw [Fm] at this;simp only [Sem.run_pure,Result.ok.injEq,Prod.mk.injEq] at this ⊢;rw [← this.1.1,← this.1.2];first | exact ⟨rfl,rfl⟩ | exact ⟨rfl,trivial⟩ | rfl
  refine ⟨_,by simp only [execOp,e1,q1,hu,Sem.run_bind,main,Result.andThen_ok,Sem.run_pure]; rfl,?_⟩;cases ok with
  |true =>
   refine .d _ _ (.az _ _ rfl fun j y w hy hw=>?_)
   match j with
   | 0=>simp at hy hw; subst hy; subst hw; exact eI
   | 1=>simp at hy hw; subst hy; subst hw; exact .bool _
   |j+2=>simp at hy
  |false=>exact .d _ _ eI
theorem Fp (hE:E.OK) {op:Op} {t kt e:Nat} {m ko vo:Operand} (bZ:op = .mapUpdate t m ko vo∨op = .insert t m ko vo) {ti:bh} (bJ:E.T[t]? = some ti) (hk:ti.k = .map kt e) {kd:TK} (hT:po E kt kd) {b:Nat} {es:List (DV × DV)} (hb:h[b]? = some (.map es)) (hm:aQ E.G s m (.map b)) {x y:DV} (hx:aQ E.G s ko (.d x)) (hy:aQ E.G s vo (.d y))
  (h1:cS E.T kd x) (h2:∀ p∈es,cS E.T kd p.1):bw E op s h (.d .undef) (h.set b (.map (bI x y es))):=fun o c ac e1 e2 h3 h4=>by
 subst e2;obtain ⟨kB,d,g1,g2,g3,-⟩:=cg (hE.types t ti bJ);have hd:d = .map kt e:=by rw [hk] at g3; cases d <;> first | (cases g3; rfl) | cases g3
 subst hd;have eo:=aP hb;obtain ⟨blk,cap,en,ck,q1,q2,q3,qe,q4⟩:=sW h3 hb (hm c ac h3 h4);have cC:=hx c ac h3 h4;have lz:=hy c ac h3 h4;generalize hu:ac.eval ko=u at cC;generalize hw:ac.eval vo=w at lz;cases cC with
 |d _ _ cC=>cases lz with
  |d _ _ lz =>
   have r1:=Bg hE hT h1 cC false;have r2:=Bf hE hT h1 cC h2 q4;have hblk:blk<c.w.heap.size:=(h3.bk b blk cap q2).1;have main:∃ (gy:Array MapEntry) (kC:Nat),(Instr.mapUpdate t (.map (some blk)) u w).run E.P c.w = .ok () { c.w with heap:=c.w.heap.setIfInBounds blk (.map gy kC) }∧lh gy kC (bI x y es).length ∧
     ∀ (j:Nat) (k v:DV) (mm:MapEntry),(bI x y es)[j]? = some (k,v)→gy[j]? = some mm→VD c.bad c.w k mm.key∧VD c.bad c.w v mm.val:=by
    cases hf:eb x es with
    |none =>
     refine ⟨en.push { key:=u,val:=w,born:=ck },ck+1,?_,?_,?_⟩
     ·simp only [Instr.mapUpdate,Sem.run_bind,run_underlying g2,Result.andThen_ok,oc q3,r1,r2,jr,hf,Option.bind_none,vk _ q3]
     ·rw [vj hf,List.length_append];exact qe.push u w
     ·intro j k v mm hj dG;rw [vj hf] at hj;have hl:en.size=es.length:=by simpa using q4.1
      rcases Nat.lt_or_ge j es.length with ah | aK
      ·rw [List.getElem?_append_left ah] at hj;rw [Array.getElem?_push,if_neg (by omega)] at dG;exact q4.2 j k v mm hj (by simpa using dG)
      ·have ik:j=es.length:=by
        have:=aP hj;simp at this;omega
       subst ik;rw [List.getElem?_append_right (Nat.le_refl _)] at hj;simp at hj;obtain ⟨rfl,rfl⟩:=hj;rw [Array.getElem?_push,if_pos hl.symm] at dG;cases dG;exact ⟨cC,lz⟩
    |some i =>
     obtain ⟨p,p1,p2,p3⟩:=x4 hf;have hl:en.size=es.length:=by simpa using q4.1
     have hi:i<en.size:=by rw [hl]; exact aP p1
     have lC:en[i]? = some en[i]:=by simp [hi]
     have MB:=(q4.2 i p.1 p.2 en[i] p1 (by simp [hi])).1;have vp:=Fi p2;have e3:=qS h1 cC;have e4:=qS (h2 p (List.mem_of_getElem? p1)) MB;have Bi:Instr.sameBits 10000 en[i].key u=true:=by
      rw [e3,e4,← vp];exact Fj h1
     refine ⟨en.modify i fun e=>{ e with key:=u,val:=w },ck,?_,?_,?_⟩
     ·have Bj:jr x es en.toList 0=some (i,en[i].val):=by
       simp [jr,hf,hi]
      have x5:(Instr.keyThatStays en[i].key u).run E.P c.w = .ok u c.w:=by
       simp only [Instr.keyThatStays,Bi,if_true,Sem.run_pure]
      simp only [Instr.mapUpdate,Sem.run_bind,run_underlying g2,Result.andThen_ok,oc q3,r1,r2,Bj,lC,Option.map_some,Option.getD_some,x5,vk _ q3]
     ·rw [vi hf,List.length_set];exact qe.modify i u w
     ·intro j k v mm hj dG;rw [vi hf] at hj;by_cases kD:j=i
      ·subst kD;rw [List.getElem?_set_self (by omega)] at hj;cases hj;rw [Array.getElem?_modify,if_pos rfl,lC] at dG;cases dG;exact ⟨cC,lz⟩
      ·rw [List.getElem?_set_ne (Ne.symm kD)] at hj;rw [Array.getElem?_modify,if_neg (Ne.symm kD)] at dG;exact q4.2 j k v mm hj (by simpa using dG)
   obtain ⟨gy,kC,cn,hlen,eN⟩:=main
   let c':Cx:={ c with heap:=c.heap.set b (.map (bI x y es)),w:={ c.w with heap:=c.w.heap.setIfInBounds blk (.map gy kC) } }
   have vq:c'.w.heap[blk]? = some (.map gy kC):=by simp [c',hblk]
   have pr:∀ b',b'≠blk→c'.w.heap[b']? = c.w.heap[b']? := fun b' bT=>by simp [c',Array.getElem?_setIfInBounds,Ne.symm bT]
   have od:c'.heap[b]? = some (.map (bI x y es)):=by show (c.heap.set b _)[b]? = _; rw [List.getElem?_set_self eo]
   have im:∀ i,i≠b→c'.heap[i]? = c.heap[i]? := fun i hi=>by show (c.heap.set b _)[i]? = _; rw [List.getElem?_set_ne (Ne.symm hi)]
   have aV:Step c c':=⟨rfl,h3.bG,rfl,rfl,rfl,by simp [c'],fun b' _ cj=>pr b' (fun l9=>cj b cap (l9 ▸ q2)),fun i b' n hi _=>⟨n,hi⟩,fun i bx hi=>by
    by_cases bq:i=b
    ·subst bq;rw [hb] at hi;cases hi;exact .inl ⟨_,od,rfl⟩
    ·rw [← im i bq] at hi;cases bx with
     |cells cs=>exact .inl ⟨cs,hi,rfl,rfl⟩
     |arr g sz l=>exact .inl ⟨g,l,hi,.inr ⟨rfl,rfl,rfl⟩⟩
     |map es=>exact .inl ⟨es,hi,rfl⟩
     |gone=>exact hi
     |hole=>exact ⟨_,hi⟩⟩
   have aJ:aC E.G c':=by
    refine h3.next aV (fun i b' n hi=>?_) h3.inj (fun i bx hi=>?_)
    ·have:=h3.bk i b' n hi;refine ⟨by simpa [c'] using this.1,?_⟩;show i<(c.heap.set b _).length;rw [List.length_set];exact this.2
    ·by_cases bq:i=b
     ·subst bq;rw [od] at hi;cases hi;right;exact ⟨blk,cap,gy,kC,q2,vq,hlen,fun j k v mm hj dG=>⟨aV.vd (eN j k v mm hj dG).1,aV.vd (eN j k v mm hj dG).2⟩⟩
     ·rw [im i bq] at hi;exact .inl ⟨hi,rfl,fun b' n hn=>pr b' (fun l9=>bq (h3.inj i b blk n cap (l9 ▸ hn) q2))⟩
   refine ⟨c',undef,.inr ⟨?_,rfl⟩,rfl,aJ,.d _ _ .undef,aV⟩;rcases bZ with rfl | rfl
   ·simp only [execOp,e1,q1,hu,hw,Sem.run_bind,cn,Result.andThen_ok,Sem.run_pure];rfl
   ·simp only [execOp,e1,q1,hu,hw,Sem.run_bind,cn,Result.andThen_ok,Sem.run_pure];rfl
theorem MC (hE:E.OK) {t:Nat} {args:Array Operand} {ts:Array TypeId} {m:Operand} (gq:args.toList[0]? = some m) (gr:ts.toList[0]? = some t) {ti:bh} (bJ:E.T[t]? = some ti) {kt e:Nat} (hk:ti.k = .map kt e) {b:Nat} {es:List (DV × DV)} (hb:h[b]? = some (.map es)) (hm:aQ E.G s m (.map b)) :
  bw E (.call { callee := .builtin .len,args:=args,argTypes:=ts }) s h (.d (.int .i64 es.length)) h := .quiet fun o c ac e1 e2 h3 h4=>by
 subst e2;obtain ⟨kB,d,g1,g2,g3,-⟩:=cg (hE.types t ti bJ);have hd:d = .map kt e:=by rw [hk] at g3; cases d <;> first | (cases g3; rfl) | cases g3
 subst hd;obtain ⟨blk,cap,en,ck,q1,q2,q3,qe,q4⟩:=sW h3 hb (hm c ac h3 h4);refine ⟨.int .i64 es.length,?_,.d _ _ (.int _ _)⟩;have hl:en.size=es.length:=by simpa using q4.1
 have eK:args[0]? = some m:=by simpa using gq
 have mP:ts[0]? = some t:=by simpa using gr
 have sD:(args.map ac.eval)[0]? = some (.map (some blk)):=by rw [Array.getElem?_map,eK]; simp [q1]
 simp only [execOp,e1,resolve,invoke,builtin,Builtin.len_,mP,sD,Sem.run_bind,Sem.run_pure,Result.andThen_ok,run_underlying g2,oc q3,goInt,hl]
def sX (E:Env) (kt:Nat) (stop:Prop) (k:TK→Prop):Prop:=aI E.T kt stop fun i=>match i.k with
 | .int j=>k (.int j)
 | .string=>k .string
 | .bool=>k .bool
 | .struct fs=>match vb kt E.Q with
  |true=>k (.struct fs)
  |false=>stop
 |_=>stop
theorem x6 {kt:Nat} {stop:Prop} {k:TK→Prop} (H:sX E kt stop k):stop∨∃ kd,po E kt kd∧k kd:=by
 unfold sX at H;rcases aS H with H | ⟨i,hi,H⟩
 ·exact .inl H
 split at H
 ·rename_i q; exact .inr ⟨_,q ▸ .plain i hi (by rw [q]; trivial),H⟩
 ·rename_i q; exact .inr ⟨_,q ▸ .plain i hi (by rw [q]; trivial),H⟩
 ·rename_i q; exact .inr ⟨_,q ▸ .plain i hi (by rw [q]; trivial),H⟩
 ·rename_i fs q;split at H
  ·rename_i q2; exact .inr ⟨_,.struct i hi fs q (xX q2),H⟩
  ·exact .inl H
 ·exact .inl H
def sY (E:Env) (o:Op) (s:List AV) (h:List ab) (stop:Prop) (k:AV→List ab→Prop):Prop :=
 match o with
 | .makeMap _ none=>lg h (.map []) 0 fun h' n=>k (.map n) h'
 | .lookup t m x ok=>aI E.T t stop fun ti=>match ti.k with
  | .map kt e=>bR E.G s m stop fun
   | .map b=>aI h b stop fun
    | .map es=>bR E.G s x stop fun
     | .d y=>sX E kt stop fun kd=>vn E e kd y es fun v f=>match ok with
      |true=>k (.d (.az [v,.bool f])) h
      |false=>k (.d v) h
     |_=>stop
    |_=>stop
   |_=>stop
  |_=>stop
 | .call { callee := .builtin .len,args:=args,argTypes:=ts }=>aI args.toList 0 stop fun m=>aI ts.toList 0 stop fun t=>aI E.T t stop fun ti=>match ti.k with
  | .map _ _=>bR E.G s m stop fun
   | .map b=>aI h b stop fun
    | .map es=>k (.d (.int .i64 es.length)) h
    |_=>stop
   |_=>stop
  |_=>stop
 | .mapUpdate t m x v=>aI E.T t stop fun ti=>match ti.k with
  | .map kt _=>bR E.G s m stop fun
   | .map b=>aI h b stop fun
    | .map es=>bR E.G s x stop fun
     | .d y=>bR E.G s v stop fun
      | .d z=>sX E kt stop fun kd=>need (cS E.T kd y∧∀ p∈es,cS E.T kd p.1) (fe h b (.map (bI y z es)) fun h'=>k (.d .undef) h')
      |_=>stop
     |_=>stop
    |_=>stop
   |_=>stop
  |_=>stop
 |_=>stop
theorem MD (hE:E.OK) {o:Op} {stop:Prop} {k:AV→List ab→Prop} (H:sY E o s h stop k):stop∨∃ v h',k v h'∧bw E o s h v h':=by
 unfold sY at H;split at H
 ·rw [o3,Nat.zero_add] at H;exact .inr ⟨_,_,H,Mx⟩
 ·rename_i t m x ok;rcases aS H with H | ⟨ti,bJ,H⟩
  ·exact .inl H
  split at H
  ·rename_i kt e hk;rcases bW H with H | ⟨a,ha,H⟩
   ·exact .inl H
   split at H
   ·rename_i b;rcases aS H with H | ⟨bx,hb,H⟩
    ·exact .inl H
    split at H
    ·rename_i es;rcases bW H with H | ⟨y,hy,H⟩
     ·exact .inl H
     split at H
     ·rename_i y;rcases x6 H with H | ⟨kd,hT,H⟩
      ·exact .inl H
      obtain ⟨z,zv,f1,f2,f3,f4,H⟩:=Mz H;have:=MA (s:=s) hE bJ hk hT hb ha hy f1 f2 f3 f4 ok;cases ok with
      |true=>exact .inr ⟨_,_,H,this⟩
      |false=>exact .inr ⟨_,_,H,this⟩
     ·exact .inl H
    ·exact .inl H
   ·exact .inl H
  ·exact .inl H
 ·rename_i args ts;rcases aS H with H | ⟨m,hm,H⟩
  ·exact .inl H
  rcases aS H with H | ⟨t,ht,H⟩
  ·exact .inl H
  rcases aS H with H | ⟨ti,bJ,H⟩
  ·exact .inl H
  split at H
  ·rename_i kt e hk;rcases bW H with H | ⟨a,ha,H⟩
   ·exact .inl H
   split at H
   ·rename_i b;rcases aS H with H | ⟨bx,hb,H⟩
    ·exact .inl H
    split at H
    ·exact .inr ⟨_,_,H,MC hE hm ht bJ hk hb ha⟩
    ·exact .inl H
   ·exact .inl H
  ·exact .inl H
 ·rename_i t m x v;rcases aS H with H | ⟨ti,bJ,H⟩
  ·exact .inl H
  split at H
  ·rename_i kt e hk;rcases bW H with H | ⟨a,ha,H⟩
   ·exact .inl H
   split at H
   ·rename_i b;rcases aS H with H | ⟨bx,hb,H⟩
    ·exact .inl H
    split at H
    ·rename_i es;rcases bW H with H | ⟨y,hy,H⟩
     ·exact .inl H
     split at H
     ·rename_i y;rcases bW H with H | ⟨z,hz,H⟩
      ·exact .inl H
      split at H
      ·rename_i z;rcases x6 H with H | ⟨kd,hT,H⟩
       ·exact .inl H
       obtain ⟨⟨f1,f2⟩,H⟩:=kx H;rw [fK] at H;exact .inr ⟨_,_,H,Fp hE (.inl rfl) bJ hk hT hb ha hy hz f1 f2⟩
      ·exact .inl H
     ·exact .inl H
    ·exact .inl H
   ·exact .inl H
  ·exact .inl H
 ·exact .inl H
def mY (E:Env) (o:Op) (s:List AV) (h:List ab) (stop:Prop) (k:AV→List ab→Prop):Prop:=n4 E.T E.G o s h (A8 E o s (sY E o s h stop k) fun v=>k v h) k
theorem Bk (hE:E.OK) {o:Op} {stop:Prop} {k:AV→List ab→Prop} (H:mY E o s h stop k):stop∨∃ v h',k v h'∧bw E o s h v h':=by
 rcases Mg hE H with H | H
 ·rcases Mp H with H | ⟨v,H,ho⟩
  ·exact MD hE H
  ·exact .inr ⟨v,h,H,ho h⟩
 ·exact .inr H
end
end Go.aw
end
