/- Several texts of mine, one behind the other. Conditions: as each says. -/
import Derived.Test.YtfmdaiojokniiaaGreatDoorV0
import Derived.RangeFuncNested
import Derived.RangeFuncLeaves
import Derived.Laws.AppendOwn
import Derived.Laws.MakeOwn
import Derived.Laws.StructEq
import Derived.Laws.BytesString
import Derived.Lib.ConvBytes
import Derived.WideKeyRuns
import Derived.MapKept
set_option linter.unusedVariables false
set_option linter.unusedSimpArgs false
section
namespace Go.aw
open Go Go.RowKit
inductive aN where
 |code (c:Code)
 |inBlock (id:Nat)
 |inLoop (c:Code)
 |bq (ops:Array Oper) (l:List Oper)
 |nT (l:Nat)
 |oQ
def aN.bB:aN→Item
 | .code c => .code c
 | .inBlock id => .inBlock id
 | .inLoop c => .inLoop c
 | .bq ops l => .inRegion ops ((List.range ops.size).drop (ops.size - l.length))
 | .nT l => .inRangeFunc l
 | .oQ => .beginRound
def aN.ok:aN→Prop
 | .bq ops l=>∃ n,n≤ops.size∧l=ops.toList.drop n
 |_=>True
structure gQ where
 f:FuncId
 cz:Option Nat
 aI:List Nat
def marks (l:List Nat):List Deferred:=l.map fun d=>{ target := .collected d,args := #[] }
structure bU where
 ag:gQ
 todo:List aN
 gG:List AV
def bf (x:gQ):Frame:={ (default:Frame) with fn:=x.f,kind := .normal,roundOf:=x.cz }
def bU.bB (f:bU) (t:Array Value):Frame:=(bf f.ag).atR ⟨t,marks f.ag.aI⟩ (f.todo.map aN.bB)
def bU.ok (f:bU):Prop:=∀ i∈f.todo,i.ok
def eG:List bU→List (Array Value)→List Frame
 |f::fs,t::ts=>f.bB t::eG fs ts
 |_,_=>[]
def CR (c:Cx):List bU→List (Array Value)→Prop
 | [],[]=>True
 |f::fs,t::ts=>VS c f.gG t∧f.ok∧CR c fs ts
 |_,_=>False
theorem nU {c c':Cx} (h:∀ x v,VR c x v→VR c' x v):∀ {fs:List bU} {ts:List (Array Value)},CR c fs ts→CR c' fs ts
 | [],[],_=>trivial
 |_::_,_::_,h'=>⟨⟨h'.1.1,fun i x v hx hv=>h x v (h'.1.2 i x v hx hv)⟩,h'.2.1,nU h h'.2.2⟩
theorem Step.cr {c c':Cx} (h:Step c c'):∀ {fs:List bU} {ts:List (Array Value)},CR c fs ts→CR c' fs ts
 | [],[],_=>trivial
 |_::_,_::_,h'=>⟨h.vs h'.1,h'.2.1,h.cr h'.2.2⟩
def vR (c0 c:Cx) (i:Nat):ae→Prop
 | .cells cs=>(∃ cs',c.heap[i]? = some (.cells cs')∧c.own i=c0.own i∧cs'.length=cs.length)∨c.heap[i]? = some .gone
 | .arr _ ts l=>(∃ g' l',c.heap[i]? = some (.arr g' ts l')∧(0<g'∨g'=0∧l'.length=l.length∧c.own i=c0.own i))∨c.heap[i]? = some .gone
 | .map _=>(∃ db,c.heap[i]? = some (.map db)∧c.own i=c0.own i)∨c.heap[i]? = some .gone
 | .gone=>c.heap[i]? = some .gone
 | .hole=>∃ b,c.heap[i]? = some b
structure Rel (c0 c:Cx):Prop where
 ax:c.ax=c0.ax
 os:c.w.os=c0.w.os
 tape:c.w.tape=c0.w.tape
 output:c.w.output=c0.w.output
 size:c0.w.heap.size≤c.w.heap.size
 keep:∀ b,b<c0.w.heap.size→(∀ i n,c0.own i≠some (b,n))→c.w.heap[b]? = c0.w.heap[b]?
 dh:∀ i b n,c.own i=some (b,n)→b<c0.w.heap.size→∃ m,c0.own i=some (b,m)
 boxes:∀ i bx,c0.heap[i]? = some bx→vR c0 c i bx
def tG (h:List ae):Prop:=∀ (i g:Nat) (ts:Nat × Nat) (l:List DV),h[i]? = some (.arr g ts l)→g=0
theorem Rel.refl (c:Cx) (hf:tG c.heap):Rel c c:=⟨rfl,rfl,rfl,rfl,Nat.le_refl _,fun _ _ _=>rfl,fun i b n h _=>⟨n,h⟩,fun i bx h=>by
  cases bx with
  |cells cs=>exact .inl ⟨cs,h,rfl,rfl⟩
  |arr g sz l=>exact .inl ⟨g,l,h,.inr ⟨hf i g sz l h,rfl,rfl⟩⟩
  |map es=>exact .inl ⟨es,h,rfl⟩
  |gone=>exact h
  |hole=>exact ⟨_,h⟩⟩
theorem Rel.step {c0 c c':Cx} (h:Rel c0 c) (k:Step c c'):Rel c0 c' where
 ax:=k.ax.trans h.ax
 os:=k.os.trans h.os
 tape:=k.tape.trans h.tape
 output:=k.output.trans h.output
 size:=Nat.le_trans h.size k.size
 keep:=fun x hx hn=>by
  rw [k.keep x (Nat.lt_of_lt_of_le hx h.size) (fun i n hi=>by obtain ⟨m,hj⟩:=h.dh i x n hi hx; exact hn i m hj)];exact h.keep x hx hn
 dh:=fun i x n hi hx=>by
  obtain ⟨m,hj⟩:=k.dh i x n hi (Nat.lt_of_lt_of_le hx h.size);exact h.dh i x m hj hx
 boxes:=fun i bx hi=>by
  have h1:=h.boxes i bx hi;cases bx with
  |cells cs =>
   rcases h1 with ⟨cs',h1,h2,h3⟩ | h1
   ·rcases k.boxes i _ h1 with ⟨Bb,k1,k2,k3⟩ | k1
    ·exact .inl ⟨Bb,k1,k2.trans h2,k3.trans h3⟩
    ·exact .inr k1
   ·exact .inr (k.boxes i _ h1)
  |arr g sz l =>
   rcases h1 with ⟨g',l',h1,h2⟩ | h1
   ·rcases k.boxes i _ h1 with ⟨Bc,Bd,k1,k2⟩ | k1
    ·refine .inl ⟨Bc,Bd,k1,?_⟩;rcases h2 with h2 | ⟨h2,h3,h4⟩ <;> rcases k2 with k2 | ⟨k2,k3,k4⟩
     ·left; omega
     ·left; omega
     ·left; omega
     ·exact .inr ⟨k2.trans h2,k3.trans h3,k4.trans h4⟩
    ·exact .inr k1
   ·exact .inr (k.boxes i _ h1)
  |map es =>
   rcases h1 with ⟨db,h1,h2⟩ | h1
   ·rcases k.boxes i _ h1 with ⟨Be,k1,k2⟩ | k1
    ·exact .inl ⟨Be,k1,k2.trans h2⟩
    ·exact .inr k1
   ·exact .inr (k.boxes i _ h1)
  |gone=>exact k.boxes i _ h1
  |hole=>obtain ⟨b,h1⟩:=h1; exact (k.boxes i b h1).ex
structure ec (c0 c:Cx):Prop where
 lim:∀ b,c0.ax b→b<c0.w.heap.size
 mg:∀ i p,c0.own i=some p→i<c0.heap.length
 ax:∀ b,c0.ax b→c.ax b
 mY:∀ b,c.ax b→c0.ax b∨c0.w.heap.size≤b
 os:c.w.os=c0.w.os
 tape:c.w.tape=c0.w.tape
 output:c.w.output=c0.w.output
 size:c0.w.heap.size≤c.w.heap.size
 keep:∀ b,b<c0.w.heap.size→(∀ i n,c0.own i≠some (b,n))→c.w.heap[b]? = c0.w.heap[b]?
 dh:∀ i b n,c.own i=some (b,n)→b<c0.w.heap.size→∃ m,c0.own i=some (b,m)
 boxes:∀ i bx,c0.heap[i]? = some bx→vR c0 c i bx
theorem Rel.x {c0 c:Cx} (h:Rel c0 c) (hb:∀ b,c0.ax b→b<c0.w.heap.size) (ho:∀ i b n,c0.own i=some (b,n)→b<c0.w.heap.size∧i<c0.heap.length):ec c0 c:=⟨hb,fun i p hp=>(ho i p.1 p.2 hp).2,fun b h'=>by rw [h.ax]; exact h',fun b h'=>by rw [h.ax] at h'; exact .inl h',h.os,h.tape,h.output,h.size,h.keep,h.dh,h.boxes⟩
theorem ec.step {c0 c c':Cx} (h:ec c0 c) (k:Step c c'):ec c0 c':=by
 have h1:Rel ({ c0 with ax:=c.ax }) c:=⟨rfl,h.os,h.tape,h.output,h.size,h.keep,h.dh,fun i bx hi=>by
  have:=h.boxes i bx hi
  cases bx <;> exact this⟩
 have h2:=h1.step k
 exact ⟨h.lim,h.mg,fun b hb=>by rw [k.ax]; exact h.ax b hb,fun b hb=>by rw [k.ax] at hb; exact h.mY b hb,h2.os,h2.tape,h2.output,h2.size,h2.keep,h2.dh,fun i bx hi=>by
  have:=h2.boxes i bx hi
  cases bx <;> exact this⟩
def Cx.p0 (c:Cx) (ax:Nat→Prop):Cx:={ c with ax:=ax }
theorem ec.clean {c0 c:Cx} (h:ec c0 c):Rel c0 (c.p0 c0.ax):=⟨rfl,h.os,h.tape,h.output,h.size,h.keep,h.dh,fun i bx hi=>by
 have:=h.boxes i bx hi
 cases bx <;> exact this⟩
theorem lb {c c':Cx} {i:Nat} {bx:ae} (h1:c.heap[i]? = some bx) (h2:c'.heap[i]? = c.heap[i]?) (h3:c'.own i=c.own i):tj c c' i bx:=by
 rw [h1] at h2;cases bx with
 |cells cs=>exact .inl ⟨cs,h2,h3,rfl⟩
 |arr g sz l=>exact .inl ⟨g,l,h2,.inr ⟨rfl,rfl,h3⟩⟩
 |map es=>exact .inl ⟨es,h2,h3⟩
 |gone=>exact h2
 |hole=>exact ⟨_,h2⟩
theorem iJ.gen {c c':Cx} (kz:∀ x v,VR c x v→VR c' x v) (eH:∀ x v,VD c.bad c.w x v→VD c'.bad c'.w x v) {i:Nat} {bx:ae} (hb:iJ c i bx) (ho:c'.own i=c.own i) (hw:∀ b n,c.own i=some (b,n)→c'.w.heap[b]? = c.w.heap[b]?):iJ c' i bx:=by
 cases bx with
 |cells cs =>
  obtain ⟨blk,cap,vs,ty,h1,h2,h3,h4⟩:=hb;exact ⟨blk,cap,vs,ty,ho.trans h1,(hw blk cap h1).trans h2,h3,fun j x v hx hv=>kz x v (h4 j x v hx hv)⟩
 |arr g ts l =>
  obtain ⟨h0,h1,h2⟩:=hb;refine ⟨h0,h1,?_⟩;rcases h2 with ⟨h2,h3⟩ | ⟨blk,cap,vs,h2,h3,h4,h5,h6,h7⟩
  ·exact .inl ⟨ho.trans h2,h3⟩
  ·refine .inr ⟨blk,cap,vs,ho.trans h2,(hw blk cap h2).trans h3,h4,h5,h6,fun i j e x he hx=>?_⟩;obtain ⟨v,h8,vF,h9⟩:=h7 i j e x he hx;exact ⟨v,h8,vF,eH x v h9⟩
 |map es =>
  obtain ⟨blk,cap,en,ck,h1,h2,h3,h4⟩:=hb;exact ⟨blk,cap,en,ck,ho.trans h1,(hw blk cap h1).trans h2,h3,fun j k x m hx hm=>⟨eH _ _ (h4 j k x m hx hm).1,eH _ _ (h4 j k x m hx hm).2⟩⟩
 |gone=>exact ho.trans hb
 |hole=>exact ho.trans hb
theorem FL {c:Cx} {ax:Nat→Prop} (hb:∀ b,ax b→c.ax b) (b:Nat) (_:b<c.w.heap.size) (hn:¬ c.bad b):¬ (c.p0 ax).bad b∧(c.p0 ax).w.heap[b]? = c.w.heap[b]? :=
 ⟨fun h=>hn (h.elim (fun h => .inl (hb b h)) .inr),rfl⟩
theorem BB {c:Cx} {ax:Nat→Prop} (hb:∀ b,ax b→c.ax b) {x:AV} {v:Value} (hv:VR c x v):VR (c.p0 ax) x v:=rm (FL hb) (fun _ _ hi=>lb hi rfl rfl) hv
theorem aK.p0 {G:List (Nat × DV)} {c:Cx} {ax:Nat→Prop} (ho:aK G c) (hb:∀ b,ax b→c.ax b):aK G (c.p0 ax) where
 bN:=fun b h=>ho.bN b (hb b h)
 br:=ho.br
 inj:=ho.inj
 sep:=fun i b n hi h=>ho.sep i b n hi (hb b h)
 box:=fun i bx hi=>(ho.box i bx hi).gen (fun _ _=>BB hb) (fun _ _ hv=>hv.mono (FL hb)) rfl (fun _ _ _=>rfl)
 eZ:=fun g e hg=>BB hb (ho.eZ g e hg)
structure Row where
 blk:Nat
 cap:Nat
 ts:Nat × Nat
 l:List DV
structure nV (lim:Nat) (c:Cx) (r:Row):Prop where
 ax:c.ax r.blk
 new:lim≤r.blk
 pos:0<r.ts.2
 len:∀ (i:Nat) (e:DV),r.l[i]? = some e→e.cells.length=r.ts.2
 mem:∃ vs:Array Value,c.w.heap[r.blk]? = some (.cells vs r.ts.1 (0,0))∧vs.size=r.cap*r.ts.2∧r.l.length≤r.cap∧r.cap≤maxLen ∧
  ∀ (i j:Nat) (e x:DV),r.l[i]? = some e→e.cells[j]? = some x→∃ v,vs[i*r.ts.2+j]? = some v∧v.oneCell'=true∧VD c.bad c.w x v
structure Iter where
 bm:Nat
 r:Nat
 en:Array MapEntry
 ck:Nat
 since:Nat
 seen:List Nat
 es:List (DV × DV)
structure kA (lim:Nat) (c:Cx) (i:Iter):Prop where
 BC:c.ax i.bm
 vS:c.ax i.r
 FM:lim≤i.r
 map:c.w.heap[i.bm]? = some (.map i.en i.ck)
 iter:∃ c0,i.since≤c0∧(i.seen≠[]→c0=i.ck)∧c.w.heap[i.r]? = some (.mapIter (some i.bm) i.since ((i.seen.map fun j=>((i.en[j]?).map (·.born)).getD 0).toArray) c0)
 old:∀ x∈i.en.toList,x.born<i.since
 dy:ma i.en i.ck i.es.length
 val:∀ (j:Nat) (k x:DV) (m:MapEntry),i.es[j]? = some (k,x)→i.en[j]? = some m→VD c.bad c.w k m.key∧VD c.bad c.w x m.val
 lt:∀ j∈i.seen,j<i.en.size
structure jr where
 l:Nat
 d:Nat
 st:LoopState
 pe:Option Code
 fn:FuncId
 tm:Array Value
 ps:Array Tmp
 assign:Code
 body:Code
 gG:List AV
def jr.ee (i:jr):Loop:={ state:=i.st,pending:=i.pe,fn:=i.fn,tmps:=i.tm,params:=i.ps,assign:=i.assign,body:=i.body,defers:=i.d }
structure mh (lim:Nat) (c:Cx) (i:jr):Prop where
 ax:c.ax i.l
 new:lim≤i.l
 mem:c.w.heap[i.l]? = some (.loop i.ee)
 gG:VS c i.gG i.tm
structure p9 (lim:Nat) (c:Cx) (d:Nat):Prop where
 ax:c.ax d
 new:lim≤d
 mem:c.w.heap[d]? = some (.deferred (some []))
inductive bk where
 |row (r:Row)
 |iter (i:Iter)
 |loop (i:jr)
 |mark (d:Nat)
def bk.cd:bk→List Nat
 | .row r=>[r.blk]
 | .iter i=>[i.bm,i.r]
 | .loop i=>[i.l]
 | .mark d=>[d]
def gR (lim:Nat) (c:Cx):bk→Prop
 | .row r=>nV lim c r
 | .iter i=>kA lim c i
 | .loop i=>mh lim c i
 | .mark d=>p9 lim c d
structure fz (lim:Nat) (c:Cx) (rows:List bk):Prop where
 each:∀ r∈rows,gR lim c r
 nodup:(rows.flatMap bk.cd).Nodup
theorem fz.nil {lim:Nat} {c:Cx}:fz lim c []:=⟨fun r hr=>by simp at hr,List.nodup_nil⟩
theorem nV.gen {lim:Nat} {c c':Cx} {r:Row} (h:nV lim c r) (hb:c'.ax r.blk) (hw:c'.w.heap[r.blk]? = c.w.heap[r.blk]?) (eH:∀ x v,VD c.bad c.w x v→VD c'.bad c'.w x v):nV lim c' r:=by
 obtain ⟨h1,h2,h3,h4,vs,h5,h6,h7,h8,h9⟩:=h;exact ⟨hb,h2,h3,h4,vs,hw.trans h5,h6,h7,h8,fun i j e x he hx=>by obtain ⟨v,k1,k2,k3⟩:=h9 i j e x he hx; exact ⟨v,k1,k2,eH x v k3⟩⟩
theorem kA.gen {lim:Nat} {c c':Cx} {i:Iter} (h:kA lim c i) (hb:c'.ax i.bm) (hr:c'.ax i.r) (hw:c'.w.heap[i.bm]? = c.w.heap[i.bm]?) (rE:c'.w.heap[i.r]? = c.w.heap[i.r]?) (eH:∀ x v,VD c.bad c.w x v→VD c'.bad c'.w x v):kA lim c' i:=by
 obtain ⟨h1,h2,h3,h4,h5,h6,h7,h8,h9⟩:=h;exact ⟨hb,hr,h3,hw.trans h4,(by obtain ⟨c0,k1,k0,k2⟩:=h5; exact ⟨c0,k1,k0,rE.trans k2⟩),h6,h7,fun j k x m h1 h2=>⟨eH _ _ (h8 j k x m h1 h2).1,eH _ _ (h8 j k x m h1 h2).2⟩,h9⟩
theorem gR.ax {lim:Nat} {c:Cx}:∀ {g:bk},gR lim c g→∀ b∈g.cd,c.ax b
 | .row r,h,b,hb=>by simp [bk.cd] at hb; subst hb; exact nV.ax h
 | .iter i,h,b,hb=>by simp [bk.cd] at hb; rcases hb with rfl | rfl; exact kA.BC h; exact kA.vS h
 | .loop i,h,b,hb=>by simp [bk.cd] at hb; subst hb; exact mh.ax h
 | .mark d,h,b,hb=>by simp [bk.cd] at hb; subst hb; exact p9.ax h
theorem gR.gen {lim:Nat} {c c':Cx} {g:bk} (h:gR lim c g) (hb:∀ b∈g.cd,c'.ax b∧c'.w.heap[b]? = c.w.heap[b]?) (eH:∀ x v,VD c.bad c.w x v→VD c'.bad c'.w x v) (kz:∀ x v,VR c x v→VR c' x v):gR lim c' g:=by
 cases g with
 |loop i =>
  obtain ⟨h1,h2,h3,h4⟩:=h;have:=hb i.l (by simp [bk.cd]);exact ⟨this.1,h2,this.2.trans h3,h4.1,fun j x v hx hv=>kz x v (h4.2 j x v hx hv)⟩
 |mark d =>
  obtain ⟨h1,h2,h3⟩:=h;have:=hb d (by simp [bk.cd]);exact ⟨this.1,h2,this.2.trans h3⟩
 |row r=>exact nV.gen h (hb _ (by simp [bk.cd])).1 (hb _ (by simp [bk.cd])).2 eH
 |iter i=>exact kA.gen h (hb i.bm (by simp [bk.cd])).1 (hb i.r (by simp [bk.cd])).1 (hb i.bm (by simp [bk.cd])).2 (hb i.r (by simp [bk.cd])).2 eH
theorem fz.step {G:List (Nat × DV)} {lim:Nat} {c c':Cx} {rows:List bk} (h:fz lim c rows) (ho:aK G c) (st:Step c c'):fz lim c' rows :=
 ⟨fun r hr=>(h.each r hr).gen (fun b hb=>by
  have h1:=(h.each r hr).ax b hb
  exact ⟨by rw [st.ax]; exact h1,st.keep b (ho.bN _ h1) (fun i n hi=>ho.sep i _ n hi h1)⟩) (fun _ _=>st.vd) (fun _ _=>st.vr),h.nodup⟩
def bk.flat:bk→Prop
 | .loop _=>False
 |_=>True
structure dz (lim:Nat) (c:Cx) (rows loops:List bk):Prop where
 all:fz lim c (rows++loops)
 flat:∀ g∈rows,g.flat
theorem dz.nil {lim:Nat} {c:Cx}:dz lim c [] []:=⟨.nil,fun g h=>by simp at h⟩
theorem dz.step {G:List (Nat × DV)} {lim:Nat} {c c':Cx} {rows loops:List bk} (h:dz lim c rows loops) (ho:aK G c) (st:Step c c'):dz lim c' rows loops:=⟨h.all.step ho st,h.flat⟩
structure FX where
 f0:FuncId
 cz:Option Nat
 aI:List Nat
 cls:List bU
 loops:List bk
 inl:List FuncId
structure cw where
 n:Nat
 Q:AV→List ae→Prop
 rows:List bk
 fx:FX
@[irreducible] def AW (E : Env) (f0 : FuncId) (cur : bU) (cls : List bU) (h : List ae) (R : cw) : Prop :=
 ∀ (c0 c:Cx) (t:Array Value) (ts:List (Array Value)),c0.heap.length=R.n→cur.ok→c.heap=h→aK E.G c→ec c0 c→dz c0.w.heap.size c R.rows R.fx.loops→VS c cur.gG t→CR c cls ts→∀ cs,∃ (c':Cx) (fr:Frame) (r:AV) (v:Value),
  R.Q r c'.heap∧VR c' r v∧aK E.G c'∧ec c0 c'∧Steps E.P (lone (cur.bB t) (eG cls ts++cs) c.w) (lone fr cs c'.w)∧fr.fn=f0∧fr.leaving E.P c'.w (.returned v)
def BD (E:Env) (cur:bU) (cls:List bU) (h:List ae) (cur':bU) (cls':List bU) (h':List ae):Prop :=
 ∀ (c:Cx) (t:Array Value) (ts:List (Array Value)),cur.ok→c.heap=h→aK E.G c→VS c cur.gG t→CR c cls ts→∃ (c':Cx) (t':Array Value) (dJ:List (Array Value)),
  cur'.ok∧c'.heap=h'∧aK E.G c'∧VS c' cur'.gG t'∧CR c' cls' dJ∧Step c c'∧∀ cs,Steps E.P (lone (cur.bB t) (eG cls ts++cs) c.w) (lone (cur'.bB t') (eG cls' dJ++cs) c'.w)
theorem AW.js {E:Env} {f0:FuncId} {cur cur':bU} {cls cls':List bU} {h h':List ae} {R:cw} (hl:BD E cur cls h cur' cls' h') (H:AW E f0 cur' cls' h' R):AW E f0 cur cls h R:=by
 unfold AW at H ⊢;intro c0 c t ts h0 h1 h2 h3 hr bF h4 h5 cs;obtain ⟨c',t',dJ,k1,k2,k3,k4,k5,k6,k7⟩:=hl c t ts h1 h2 h3 h4 h5;obtain ⟨c2,fr,r,v,e1,e2,e3,e4,e5,e6⟩:=H c0 c' t' dJ h0 k1 k2 k3 (hr.step k6) (bF.step h3 k6) k4 k5 cs;exact ⟨c2,fr,r,v,e1,e2,e3,e4,(k7 cs).trans e5,e6⟩
section
variable {E:Env} {f0:FuncId} {ag:gQ} {k:List aN} {s:List AV} {cls:List bU} {h:List ae} {R:cw}
theorem BD.todo {td BE:List aN} (aO:(∀ i∈td,i.ok)→∀ i∈BE,i.ok) (hs:∀ (a:Act) (cs:List Frame) (w:World),step E.P (lone ((bf ag).atR a (td.map aN.bB)) cs w) = .next (lone ((bf ag).atR a (BE.map aN.bB)) cs w)) :
  BD E ⟨ag,td,s⟩ cls h ⟨ag,BE,s⟩ cls h:=fun c t ts h1 h2 h3 h4 h5 =>
 ⟨c,t,ts,aO h1,h2,h3,h4,h5,Step.refl c h3.bN,fun _ => .one (hs _ _ _)⟩
theorem dK {i:aN} (h:∀ j∈i::k,j.ok):∀ j∈k,j.ok:=fun j hj=>h j (List.mem_cons_of_mem _ hj)
theorem tH {c:Code}:(aN.code c).ok:=trivial
theorem MK {n:Nat}:(aN.inBlock n).ok:=trivial
theorem FN {c:Code}:(aN.inLoop c).ok:=trivial
theorem fD {i:aN} (h:i.ok) (hk:∀ j∈k,j.ok):∀ j∈i::k,j.ok:=fun j hj=>by
 rcases List.mem_cons.1 hj with rfl | hj
 ·exact h
 ·exact hk j hj
theorem AW.skip (H:AW E f0 ⟨ag,k,s⟩ cls h R):AW E f0 ⟨ag,.code .skip::k,s⟩ cls h R := .js (.todo dK fun _ _ _=>stepR_skip) H
theorem AW.inBlock {id:Nat} (H:AW E f0 ⟨ag,k,s⟩ cls h R):AW E f0 ⟨ag,.inBlock id::k,s⟩ cls h R := .js (.todo dK fun _ _ _=>stepR_inBlock) H
theorem AW.seq {a b:Code} (H:AW E f0 ⟨ag,.code a :: .code b::k,s⟩ cls h R):AW E f0 ⟨ag,.code (.seq a b)::k,s⟩ cls h R := .js (.todo (fun h=>fD tH (fD tH (dK h))) fun _ _ _=>stepR_seq) H
theorem AW.block {id:Nat} {b:Code} (H:AW E f0 ⟨ag,.code b :: .inBlock id::k,s⟩ cls h R):AW E f0 ⟨ag,.code (.block id b)::k,s⟩ cls h R := .js (.todo (fun h=>fD tH (fD MK (dK h))) fun _ _ _=>stepR_block) H
theorem AW.loop {b:Code} (H:AW E f0 ⟨ag,.code b :: .inLoop b::k,s⟩ cls h R):AW E f0 ⟨ag,.code (.loop b)::k,s⟩ cls h R := .js (.todo (fun h=>fD tH (fD FN (dK h))) fun _ _ _=>stepR_loop) H
theorem AW.inLoop {b:Code} (H:AW E f0 ⟨ag,.code b :: .inLoop b::k,s⟩ cls h R):AW E f0 ⟨ag,.inLoop b::k,s⟩ cls h R := .js (.todo (fun h=>fD tH (fD FN (dK h))) fun _ _ _=>stepR_inLoop) H
theorem AW.region {id:Nat} {ops:Array Oper} (H:AW E f0 ⟨ag,.bq ops ops.toList::k,s⟩ cls h R):AW E f0 ⟨ag,.code (.region id ops false)::k,s⟩ cls h R :=
 .js (.todo (fun h=>fD (i := .bq ops ops.toList) ⟨0,by simp,by simp⟩ (dK h)) fun a cs w=>by
  rw [List.map_cons,List.map_cons];simp only [aN.bB];rw [stepR_region]
  simp) H
theorem AW.ML {ops:Array Oper} (H:AW E f0 ⟨ag,k,s⟩ cls h R):AW E f0 ⟨ag,.bq ops []::k,s⟩ cls h R :=
 .js (.todo dK fun a cs w=>by
  rw [List.map_cons];simp only [aN.bB,List.length_nil,Nat.sub_zero]
  rw [List.drop_of_length_le (by simp),stepR_region_end]) H
def lg (id:Nat):List aN→Option (List aN)
 | .inBlock i::r=>match Nat.beq i id with
  |true=>some r
  |false=>lg id r
 |_::r=>lg id r
 | []=>none
theorem rF {id:Nat}:∀ {l r:List aN},lg id l=some r→exitTo id (l.map aN.bB)=some (r.map aN.bB)
 | .inBlock i::l,r,hl=>by
  simp only [lg] at hl;simp only [List.map_cons,aN.bB,exitTo];split at hl
  ·rename_i q; cases hl; rw [if_pos (by simpa using Nat.eq_of_beq_eq_true q)]
  ·rename_i q
   rw [if_neg (by intro hh; have : i = id := by simpa using hh
                  rw [this, Nat.beq_refl] at q; cases q)]
   exact rF hl
 | .code c::l,r,hl=>rF (l:=l) hl
 | .inLoop c::l,r,hl=>rF (l:=l) hl
 | .nT c::l,r,hl=>rF (l:=l) hl
 | .oQ::l,r,hl=>rF (l:=l) hl
 | .bq ops q::l,r,hl=>rF (l:=l) hl
theorem rG {id:Nat}:∀ {l r:List aN},lg id l=some r→(∀ i∈l,i.ok)→∀ i∈r,i.ok
 | .inBlock i::l,r,hl,hk=>by
  simp only [lg] at hl;split at hl
  ·cases hl; exact dK hk
  ·exact rG hl (dK hk)
 | .code c::l,r,hl,hk=>rG (l:=l) hl (dK hk)
 | .inLoop c::l,r,hl,hk=>rG (l:=l) hl (dK hk)
 | .nT c::l,r,hl,hk=>rG (l:=l) hl (dK hk)
 | .oQ::l,r,hl,hk=>rG (l:=l) hl (dK hk)
 | .bq ops q::l,r,hl,hk=>rG (l:=l) hl (dK hk)
theorem AW.exit {id:Nat} {r:List aN} (hr:lg id k=some r) (H:AW E f0 ⟨ag,r,s⟩ cls h R):AW E f0 ⟨ag,.code (.exit id)::k,s⟩ cls h R :=
 .js (.todo (fun h=>rG hr (dK h)) fun _ _ _=>stepR_exit (rF hr)) H
theorem AW.cond {x:Operand} {a b:Code} {t:Bool} (hx:aY E.G s x (.d (.bool t))) (H:AW E f0 ⟨ag,.code (if t then a else b)::k,s⟩ cls h R):AW E f0 ⟨ag,.code (.cond x a b)::k,s⟩ cls h R :=
 .js (cur':=⟨ag,.code (if t then a else b)::k,s⟩) (cls':=cls) (h':=h) (fun c t' ts h1 h2 h3 h4 h5=>⟨c,t',ts,fD tH (dK h1),h2,h3,h4,h5,Step.refl c h3.bN,fun _ => .one (stepR_cond (rz (hx c ⟨t',marks ag.aI⟩ h3 h4)))⟩) H
theorem lh {ops:Array Oper} {o:Oper} {l:List Oper} (hk:(aN.bq ops (o::l)).ok):∃ i,ops[i]? = some o∧(aN.bq ops (o::l)).bB = .inRegion ops (i::(List.range ops.size).drop (ops.size - l.length))∧(aN.bq ops l).ok:=by
 obtain ⟨n,h1,h2⟩:=hk;have h3:(ops.toList.drop n).length=l.length+1:=by rw [← h2]; rfl
 have h4:ops.size - n=l.length+1:=by simpa using h3
 have hn:n<ops.size:=by omega
 refine ⟨n,?_,?_,n+1,by omega,?_⟩
 ·have:=congrArg (·[0]?) h2;simp at this
  simpa using this.symm
 ·simp only [aN.bB,List.length_cons]
  congr 1
  rw [show ops.size - (l.length+1)=n by omega,show ops.size - l.length=n+1 by omega];rw [List.drop_eq_getElem_cons (by simpa using hn)];simp
 ·have:=congrArg List.tail h2
  simpa using this
theorem qa {P:Program} {o:Oper} {ρ : Operand→Value} {ro:Option Nat} {w w':World} {n:Next} (h:(execOp ρ o).run P w = .ok n w') (hn:∀ d,n ≠ .defer d):(o.semAt ro ρ).run P w = .ok n w':=by
 rw [Oper.semAt_eq]
 ·exact h
 ·intro c hc;simp only [execOp,hc,Sem.run_bind] at h;cases hr:(resolve ρ c o.type).run P w with
  |ok d w1 =>
   rw [hr] at h;simp only [Result.andThen_ok,Sem.run_pure] at h;cases h;exact hn d rfl
  |halt a b=>rw [hr] at h; cases h
theorem tI {P:Program} {b:Frame} {a:Act} {k:List Item} {cs:List Frame} {w w':World} {ops:Array Oper} {i:Nat} {rest:List Nat} {o:Oper} {v:Value} (ho:ops[i]? = some o) (hw:Region.wanted o (yielded ops a.tmps)=true) (hd:FA P o a w v w') :
  step P (lone (b.atR a (.inRegion ops (i::rest)::k)) cs w) = .next (lone (b.atR (a.put o.dst v) (.inRegion ops rest::k)) cs w'):=by
 have hg:=stepGR_op (P:=P) (b:=b) (k:=k) (cs:=cs) (w:=w) (rest:=rest) ho hw;have iM:∀ v,(b.atR a (.inRegion ops (i::rest)::k)).finish v=b.atR (a.put o.dst v) (.inRegion ops rest::k):=by
  intro v; rw [Frame.finish_atR,ho]; rfl
 rcases hd with hr | ⟨hr,rfl⟩
 ·exact step_lone_go (by rw [hg,← iM]; simp [stepG.apply,qa hr])
 ·exact step_lone_go (by rw [hg,← iM]; simp [stepG.apply,qa hr])
def b9 (s:List AV) (d:Option Nat) (v:AV):List AV:=match d with
 |some d=>s.set d v
 |none=>s
theorem dR {α:Sort _} (s:List AV) (d:Option Nat) (v:AV) (k:List AV→α):cb s d v k=k (b9 s d v):=by
 cases d with
 |none=>rfl
 |some d=>simp only [cb,fY,b9]
theorem VS.b9 {c:Cx} {a:Act} (hs:VS c s a.tmps) (d:Option Nat) {x:AV} {v:Value} (hv:VR c x v):VS c (b9 s d x) (a.put d v).tmps:=by
 cases d with
 |none=>exact hs
 |some d=>exact hs.put d hv
theorem put_defers (a:Act) (d:Option Nat) (v:Value):(a.put d v)=⟨(a.put d v).tmps,a.defers⟩:=by cases d <;> rfl
def iN (ops:Array Oper) (o:Oper) (s:List AV) (b:Bool):Prop:=∀ (c:Cx) (t:Array Value),VS c s t→Region.wanted o (yielded ops t)=b
theorem fZ {ops:Array Oper} {o:Oper} (h:o.guard=none):iN ops o s true:=fun _ _ _=>by simp [Region.wanted,h]
theorem BF {ops:Array Oper} {o oj:Oper} {j d:Nat} {g b:Bool} (h:o.guard=some (j,g)) (hj:ops.toList[j]? = some oj) (hd:oj.dst=some d) (hs:s[d]? = some (.d (.bool b))):iN ops o s (b==g):=fun c t hv=>by
 have gS:d<t.size:=by
  rw [← hv.1];rcases Nat.lt_or_ge d s.length with h | h
  ·exact h
  ·rw [List.getElem?_eq_none h] at hs; cases hs
 have ht:t[d]? = some (.bool b):=by
  rw [Array.getElem?_eq_getElem gS,rz (hv.2 d _ _ hs (Array.getElem?_eq_getElem gS))]
 have dI:ops[j]? = some oj:=by simpa using hj
 simp only [Region.wanted,h,yielded,dI,hd,Option.bind_some,ht];cases b <;> cases g <;> rfl
theorem FO {ops:Array Oper} {o oj:Oper} {j d:Nat} {g:Bool} (h:o.guard=some (j,g)) (hj:ops.toList[j]? = some oj) (hd:oj.dst=some d) (hs:s[d]? = some (.d .undef)):iN ops o s false:=fun c t hv=>by
 have gS:d<t.size:=by
  rw [← hv.1];rcases Nat.lt_or_ge d s.length with h | h
  ·exact h
  ·rw [List.getElem?_eq_none h] at hs; cases hs
 have ht:t[d]? = some Go.undef:=by
  have:=hv.2 d _ _ hs (Array.getElem?_eq_getElem gS);rw [Array.getElem?_eq_getElem gS];generalize t[d]=u at this;cases this with
  |d _ _ hx=>cases hx; rfl
 have dI:ops[j]? = some oj:=by simpa using hj
 simp only [Region.wanted,h,yielded,dI,hd,Option.bind_some,ht];rfl
theorem AW.op {ops:Array Oper} {o:Oper} {l:List Oper} {v:AV} {h':List ae} (hw:iN ops o s true) (ho:bC E o.op s h v h') (H:AW E f0 ⟨ag,.bq ops l::k,b9 s o.dst v⟩ cls h' R):AW E f0 ⟨ag,.bq ops (o::l)::k,s⟩ cls h R :=
 .js (fun c t ts h1 h2 h3 h4 h5=>by
  obtain ⟨i,hi,hc,aO⟩:=lh (h1 _ (List.mem_cons_self ..));obtain ⟨c',u,k1,k2,k3,k4,k5⟩:=ho o c ⟨t,marks ag.aI⟩ rfl h2 h3 h4;refine ⟨c',((⟨t,marks ag.aI⟩:Act).put o.dst u).tmps,ts,fD aO (dK h1),k2,k3,VS.b9 (a:=⟨t,marks ag.aI⟩) (k5.vs h4) o.dst k4,k5.cr h5,k5,fun cs => .one ?_⟩;simp only [bU.bB,List.map_cons,hc];rw [tI hi (hw c t h4) k1,put_defers]
  rfl) H
theorem AW.FP {ops:Array Oper} {o:Oper} {l:List Oper} (hw:iN ops o s false) (H:AW E f0 ⟨ag,.bq ops l::k,b9 s o.dst (.d .undef)⟩ cls h R):AW E f0 ⟨ag,.bq ops (o::l)::k,s⟩ cls h R :=
 .js (fun c t ts h1 h2 h3 h4 h5=>by
  obtain ⟨i,hi,hc,aO⟩:=lh (h1 _ (List.mem_cons_self ..));refine ⟨c,((⟨t,marks ag.aI⟩:Act).put o.dst Go.undef).tmps,ts,fD aO (dK h1),h2,h3,VS.b9 (a:=⟨t,marks ag.aI⟩) h4 o.dst (.d _ _ .undef),h5,Step.refl c h3.bN,fun cs => .one ?_⟩;simp only [bU.bB,List.map_cons,hc];rw [stepR_op_skip (by simp [hi]; exact hw c t h4)];simp only [hi,Option.bind_some];rw [put_defers]
  rfl) H
end
end Go.aw
end
section
namespace Go.aw
open Go Go.RowKit
def iu (bad:Nat→Prop) (w:World) (l:List DV) (vs:List Value):Prop:=l.length=vs.length∧∀ (j:Nat) (x:DV) (v:Value),l[j]? = some x→vs[j]? = some v→VD bad w x v
def qb (G:List (Nat × DV)) (ax:Nat→Prop) (w:World):Prop:=∀ g e,(g,e)∈G→VR ⟨fun _=>none,[],ax,w⟩ (.bE e 0) (.pointer (some ⟨g,0,none⟩))
def qc (P : Program) (f : FuncId) : Prop := ∃ fn, P.funcs[f]? = some fn ∧ fn.body.isNone = false ∧ (fn.name == "runtime.NumGoroutine") = false
@[irreducible] def aq (E : Env) (f : FuncId) (args : List DV) (R : DV → Prop) : Prop :=
 qc E.P f∧∀ (ax:Nat→Prop) (w:World) (vs:List Value),(∀ b,ax b→b<w.heap.size)→qb E.G ax w→iu ax w args vs →
  Calls E.P f vs.toArray w fun e w'=>∃ v r,e = .returned v∧R r∧VD ax w' r v∧Proofs.YtfmdaiojokniiaaGreatDoor.Ext w w'
theorem rH {ax:Nat→Prop} {w:World} {h:List ae} {b:Nat}:(⟨fun _=>none,h,ax,w⟩:Cx).bad b↔ax b :=
 ⟨fun hb=>hb.elim id (fun ⟨_,_,h⟩=>(by cases h)),.inl⟩
theorem rI {ax:Nat→Prop} {w:World} {h:List ae} {x:DV} {v:Value} (hv:VD ax w x v):VD (⟨fun _=>none,h,ax,w⟩:Cx).bad w x v :=
 hv.mono fun _ _ hn=>⟨fun hb=>hn (rH.1 hb),rfl⟩
theorem aq.mono {E:Env} {f:FuncId} {args:List DV} {R R':DV→Prop} (H:aq E f args R) (hr:∀ r,R r→R' r):aq E f args R':=by
 unfold aq at H ⊢;exact ⟨H.1,fun ax w vs h1 h2 h3=>(H.2 ax w vs h1 h2 h3).mono fun e w' ⟨v,r,k1,k2,k3,k4⟩=>⟨v,r,k1,hr r k2,k3,k4⟩⟩
def mi (args:List AV) (n:Nat):List AV:=args++List.replicate (n - args.length) (.d .undef)
theorem BG {c:Cx} {args:List AV} {vs:List Value} (n:Nat) (hv:VL c args vs):VS c (mi args n) (vs.toArray++Array.replicate (n - vs.toArray.size) undef):=by
 have hl:=hv.1;refine ⟨by simp [mi,hl],fun i x v hx hu=>?_⟩;simp only [mi] at hx;rcases Nat.lt_or_ge i args.length with hi | hi
 ·rw [List.getElem?_append_left hi] at hx;rw [Array.getElem?_append_left (by simp; omega)] at hu;exact hv.2 i x v hx (by simpa using hu)
 ·rw [List.getElem?_append_right hi,List.getElem?_replicate] at hx;rw [Array.getElem?_append_right (by simp; omega)] at hu;split at hx
  ·cases hx;simp [Array.getElem?_replicate] at hu;obtain ⟨-,rfl⟩:=hu;exact .d _ _ .undef
  ·cases hx
section
variable {E:Env} {f0:FuncId} {ag:gQ} {k:List aN} {s:List AV} {cls:List bU} {h:List ae} {R:cw}
theorem Rel.ext {c0 c:Cx} (h:Rel c0 c) (hn:∀ i,c0.own i=none):Proofs.YtfmdaiojokniiaaGreatDoor.Ext c0.w c.w:=⟨h.os,h.tape,h.output,h.size,fun b hb=>h.keep b hb (fun i n hi=>by rw [hn i] at hi; cases hi)⟩
@[irreducible] def au (E : Env) (f : FuncId) (h : List ae) (args : List AV) (Q : AV → List ae → Prop) : Prop :=
 qc E.P f∧tG h∧∀ (c:Cx) (vs:List Value),c.heap=h→aK E.G c→VL c args vs →
  Calls E.P f vs.toArray c.w fun e w'=>∃ (c':Cx) (r:AV) (v:Value),e = .returned v∧c'.w=w'∧Q r c'.heap∧VR c' r v∧aK E.G c'∧Rel c c'
theorem au.mono {E:Env} {f:FuncId} {h:List ae} {args:List AV} {Q Q':AV→List ae→Prop} (H:au E f h args Q) (hq:∀ r h,Q r h→Q' r h):au E f h args Q':=by
 unfold au at H ⊢;exact ⟨H.1,H.2.1,fun c vs h1 h2 h3=>(H.2.2 c vs h1 h2 h3).mono fun e w' ⟨c',r,v,k1,k2,k3,k4⟩=>⟨c',r,v,k1,k2,hq _ _ k3,k4⟩⟩
theorem au.FQ {f : FuncId} {fn : Func} {body : Code} {args : List AV} {Q : AV → List ae → Prop} (hf : E.P.funcs[f]? = some fn) (hb : fn.body = some body) (hn : (fn.name == "runtime.NumGoroutine") = false) (mj : tG h)
  (H:AW E f ⟨⟨f,none,[]⟩,[.code body],mi args fn.ntmps⟩ [] h ⟨h.length,Q,[],⟨f,none,[],[],[],[]⟩⟩):au E f h args Q:=by
 unfold AW at H;unfold au;refine ⟨⟨fn,hf,by rw [hb]; rfl,hn⟩,mj,fun c vs h1 h2 h3=>?_⟩;intro cs;obtain ⟨c',fr,r,v,e1,e2,e3,e4,e5,e6,e7⟩:=H c c _ [] (by rw [h1]) (fun i hi=>by simp at hi; subst hi; trivial) h1 h2 ((Rel.refl c (by rw [h1]; exact mj)).x h2.bN h2.br) .nil (BG fn.ntmps h3) trivial cs;refine ⟨.returned v,c'.w,fr,⟨c'.p0 c.ax,r,v,rfl,rfl,e1,BB e4.ax e2,e3.p0 e4.ax,e4.clean⟩,?_,e6,e7⟩;have MM:Frame.enter E.P f vs.toArray .normal=(⟨⟨f,none,[]⟩,[.code body],mi args fn.ntmps⟩:bU).bB (vs.toArray++Array.replicate (fn.ntmps - vs.toArray.size) undef):=by
  simp [Frame.enter,bU.bB,Frame.atR,hf,hb,bf,aN.bB,marks]
 show Steps E.P _ _;rw [MM];exact e5
theorem vT {P:Program} {o:Oper} {a:Act} {w:World} {fx:Operand} {args:Array Operand} {ts:Array TypeId} {f:FuncId} {v1 v2:Array Value} (h1:o.op = .call { callee := .value fx,args:=args,argTypes:=ts }) (hf:a.eval fx = .func (.func f) v1 v2) (hb:qc P f) :
  (execOp a.eval o).run P w = .ok (.enter f (v1++args.map a.eval++v2)) w:=by
 obtain ⟨fn,g1,g2,g3⟩:=hb;simp only [execOp,h1,resolve,hf,Deferred.ofValue,invoke,callFunc,Sem.run_bind,Sem.run_pure,Result.andThen_ok,program,Sem.run,g1,g3,g2,Bool.false_eq_true,if_false]
theorem BH {P:Program} {b:Frame} {a:Act} {k:List Item} {cs:List Frame} {w:World} {ops:Array Oper} {i:Nat} {rest:List Nat} {o:Oper} {f:FuncId} {args:Array Value} (ho:ops[i]? = some o) (hw:Region.wanted o (yielded ops a.tmps)=true)
  (hr:(execOp a.eval o).run P w = .ok (.enter f args) w) :
  step P (lone (b.atR a (.inRegion ops (i::rest)::k)) cs w) = .next (lone (Frame.enter P f args .normal) (b.atR a (.inRegion ops (i::rest)::k)::cs) w):=by
 have hg:=stepGR_op (P:=P) (b:=b) (k:=k) (cs:=cs) (w:=w) (rest:=rest) ho hw;have rJ:=qa (ro:=b.roundOf) hr (by simp);exact step_lone_go (by rw [hg]; simp [stepG.apply,rJ,Frame.atR])
theorem jO {c:Cx} {f:Fn} {a1 a2:List AV} {v:Value} (hv:VR c (.fn f a1 a2) v):∃ v1 v2:List Value,v = .func f v1.toArray v2.toArray∧VL c a1 v1∧VL c a2 v2:=by
 cases hv with
 |fn _ _ _ v1 v2 h1 h2 h3 h4=>exact ⟨v1.toList,v2.toList,by simp,⟨by simpa using h1,fun j x v hx hu=>h3 j x v hx (by simpa using hu)⟩,⟨by simpa using h2,fun j x v hx hu=>h4 j x v hx (by simpa using hu)⟩⟩
theorem VL.append {c:Cx} {a1 a2:List AV} {v1 v2:List Value} (h1:VL c a1 v1) (h2:VL c a2 v2):VL c (a1++a2) (v1++v2):=by
 refine ⟨by simp [h1.1,h2.1],fun j x v hx hv=>?_⟩;rcases Nat.lt_or_ge j a1.length with hj | hj
 ·rw [List.getElem?_append_left hj] at hx;rw [List.getElem?_append_left (by rw [← h1.1]; exact hj)] at hv;exact h1.2 j x v hx hv
 ·rw [List.getElem?_append_right hj] at hx;rw [List.getElem?_append_right (by rw [← h1.1]; exact hj),← h1.1] at hv;exact h2.2 _ x v hx hv
theorem AW.call {ops:Array Oper} {o:Oper} {l:List Oper} {fx:Operand} {args:Array Operand} {ts:Array TypeId} {f:FuncId} {a1 a2 av:List AV} {ds:List DV} {R1:DV→Prop} (hw:iN ops o s true) (ho:o.op = .call { callee := .value fx,args:=args,argTypes:=ts })
  (hf:aY E.G s fx (.fn (.func f) a1 a2)) (ha:im E.G s args.toList av) (hd:a1++av++a2=ds.map .d) (hc:aq E f ds R1)
  (H:∀ r,R1 r→AW E f0 ⟨ag,.bq ops l::k,b9 s o.dst (.d r)⟩ cls h R):AW E f0 ⟨ag,.bq ops (o::l)::k,s⟩ cls h R:=by
 unfold AW at H ⊢;unfold aq at hc;intro c0 c t ts h0 h1 h2 h3 hr bF h4 h5 cs;obtain ⟨i,hi,dA,aO⟩:=lh (h1 _ (List.mem_cons_self ..));obtain ⟨v1,v2,e1,e2,e3⟩:=jO (hf c ⟨t,marks ag.aI⟩ h3 h4);have e4:=ha c ⟨t,marks ag.aI⟩ h3 h4;have e5:=(e2.append e4).append e3;rw [hd] at e5;have rK:∀ b,c.bad b→b<c.w.heap.size:=fun b hb=>hb.elim (h3.bN b) fun ⟨j,n,hj⟩=>(h3.br j b n hj).1;have vU:qb E.G c.bad c.w:=fun g e hg=>by
  have hp:∀ p,VR c (.bE e 0) p→VR ⟨fun _=>none,[],c.bad,c.w⟩ (.bE e 0) p:=fun p hp=>by
   cases hp with
   |bE _ _ blk o' fv k1 k2 k3 k4=>exact .bE _ _ blk o' fv (fun hb=>k1 (rH.1 hb)) k2 k3 (fun j x hx=>rI (k4 j x hx))
  exact hp _ (h3.eZ g e hg)
 obtain ⟨e,w',fr,⟨v,r,rfl,hR,hv,hx⟩,BI,BJ,BK⟩:=hc.2 c.bad c.w _ rK vU ⟨by simpa using e5.1,e5.nQ⟩ ((bf ag).atR ⟨t,marks ag.aI⟩ (.inRegion ops (i::(List.range ops.size).drop (ops.size - l.length))::k.map aN.bB)::(eG cls ts++cs));obtain ⟨k1,k2⟩:=h3.grow hx;have mZ:VS (c.dP w') (b9 s o.dst (.d r)) ((⟨t,marks ag.aI⟩:Act).put o.dst v).tmps:=VS.b9 (a:=⟨t,marks ag.aI⟩) (k2.vs h4) o.dst (.d _ _ hv);obtain ⟨c2,rL,r2,u2,q1,q2,q3,vV,q4,q5,q6⟩:=H r hR c0 (c.dP w') _ ts h0 (fD aO (dK h1)) h2 k1 (hr.step k2) (bF.step h3 k2) mZ (k2.cr h5) cs;refine ⟨c2,rL,r2,u2,q1,q2,q3,vV,?_,q5,q6⟩;have cn:=vT (P:=E.P) (w:=c.w) (a:=⟨t,marks ag.aI⟩) ho e1 hc.1;have gT:(v1.toArray++args.map (⟨t,marks ag.aI⟩:Act).eval++v2.toArray)=(v1++args.toList.map (⟨t,marks ag.aI⟩:Act).eval++v2).toArray:=by
  apply Array.ext';simp
 rw [gT] at cn;have s1:=BH (P:=E.P) (b:=bf ag) (k:=k.map aN.bB) (cs:=eG cls ts++cs) (rest:=(List.range ops.size).drop (ops.size - l.length)) hi (hw c t h4) cn;have s2:=step_leave_returned (c:=(bf ag).atR ⟨t,marks ag.aI⟩ (.inRegion ops (i::(List.range ops.size).drop (ops.size - l.length))::k.map aN.bB)) (cs:=eG cls ts++cs) BK;rw [Frame.finish_atR,hi] at s2;have BL:(⟨ag,.bq ops (o::l)::k,s⟩:bU).bB t=(bf ag).atR ⟨t,marks ag.aI⟩ (.inRegion ops (i::(List.range ops.size).drop (ops.size - l.length))::k.map aN.bB):=by
  simp only [bU.bB,List.map_cons,dA]
 rw [BL];refine .head s1 (Steps.trans BI (.head s2 ?_));have aF:(bf ag).atR ((⟨t,marks ag.aI⟩:Act).put ((some o).bind (·.dst)) v) (.inRegion ops ((List.range ops.size).drop (ops.size - l.length))::k.map aN.bB)=(⟨ag,.bq ops l::k,b9 s o.dst (.d r)⟩:bU).bB ((⟨t,marks ag.aI⟩:Act).put o.dst v).tmps:=by
  simp only [bU.bB,List.map_cons,aN.bB,Option.bind_some];rw [put_defers]
 rw [aF];exact q4
end
end Go.aw
end
section
namespace Go.aw
open Go Go.RowKit
section
variable {E:Env} {f0 ag:FuncId} {k:List aN} {s:List AV} {cls:List bU} {h:List ae} {R:cw}
def tJ (G:List (Nat × DV)) (h:List ae) (x:AV) (r:DV):Prop:=∀ (c:Cx) (v:Value),aK G c→c.heap=h→VR c x v→VD c.ax c.w r v
theorem FR {c:Cx} {x:DV} {v:Value} (hv:VD c.bad c.w x v):VD c.ax c.w x v:=hv.mono fun _ _ hn=>⟨fun hb=>hn (.inl hb),rfl⟩
theorem MN {G:List (Nat × DV)} (x:DV):tJ G h (.d x) x:=fun c v _ _ hv=>by cases hv with | d _ _ hv=>exact FR hv
theorem MO {G:List (Nat × DV)} {b g:Nat} {ts:Nat × Nat} {l:List DV} (hb:h[b]? = some (.arr g ts l)):tJ G h (.own b g) (.sl l):=fun c v ho hh hv=>by
 subst hh;obtain ⟨q0,q1,q2⟩:=ho.box b _ hb;cases hv with
 |own _ _ _ l' blk cap k1 k2 =>
  rw [hb] at k1; cases k1;rcases q2 with ⟨q2,-⟩ | ⟨iK,il,vs,q2,q3,q4,q5,q6,q7⟩
  ·rw [k2] at q2; cases q2
  ·rw [k2] at q2; cases q2;have bF:=ku q3;refine .sl l blk 0 cap ts.2 (fun i j=>vs.toList.getD (i*ts.2+j) undef) (fun _=>ho.sep b blk cap k2) q0 q5 q1 (fun i j e x he hx=>?_) (fun i j e x he hx=>?_) (fun i j e x he hx=>?_)
   ·obtain ⟨v,g1,-,g2⟩:=q7 i j e x he hx;rw [bF (i*ts.2+j) v (by simpa using g1)];simp [List.getD,g1]
   ·obtain ⟨v,g1,-,g2⟩:=q7 i j e x he hx;simp only [List.getD,Array.getElem?_toList,g1,Option.getD_some];exact FR g2
   ·obtain ⟨v,g1,g2,-⟩:=q7 i j e x he hx;simp only [List.getD,Array.getElem?_toList,g1,Option.getD_some];exact g2
 |gy _ _ _ k1 k2=>rw [hb] at k1; cases k1; exact .slnil
 |jn _ _ g' _ _ _ k1 k2 _=>rw [hb] at k1; cases k1; omega
 |iI _ _ _ k1 _=>rw [hb] at k1; cases k1
 |la _ _ _ _ _ _ k1 _ _=>rw [hb] at k1; cases k1
def yO {α:Sort _} (h:List ae) (x:AV) (stop:α) (k:DV→α):α :=
 match x with
 | .d x=>k x
 | .own b g=>aM h b stop fun
  | .arr g' _ l=>match Nat.beq g g' with
   |true=>k (.sl l)
   |false=>stop
  |_=>stop
 |_=>stop
theorem FT {G:List (Nat × DV)} {x:AV} {stop:Prop} {k:DV→Prop} (H:yO h x stop k):stop∨∃ r,tJ G h x r∧k r:=by
 unfold yO at H;split at H
 ·exact .inr ⟨_,MN _,H⟩
 ·rcases a7 H with h | ⟨bx,hb,H⟩
  ·exact .inl h
  split at H
  ·split at H
   ·rename_i q;have:=Nat.eq_of_beq_eq_true q;subst this;exact .inr ⟨_,MO hb,H⟩
   ·exact .inl H
  ·exact .inl H
 ·exact .inl H
def vW {α:Sort _} (d:AV→α→(DV→α)→α):List AV→(stop:α)→(List DV→α)→α
 | [],_,k=>k []
 |x::l,stop,k=>d x stop fun r=>vW d l stop fun l'=>k (r::l')
def MP (G:List (Nat × DV)) (h:List ae) (l:List AV) (r:List DV):Prop:=∀ (c:Cx) (vs:List Value),aK G c→c.heap=h→VL c l vs→iu c.ax c.w r vs
theorem BM {G:List (Nat × DV)} {d:AV→Prop→(DV→Prop)→Prop} (hd:∀ {x:AV} {stop:Prop} {k:DV→Prop},d x stop k→stop∨∃ r,tJ G h x r∧k r) {stop:Prop}:∀ {l:List AV} {k:List DV→Prop},vW d l stop k→stop∨∃ r,MP G h l r∧k r
 | [],k,H => .inr ⟨[],fun c vs _ _ hv=>⟨by simpa using hv.1,fun j x v hx=>by simp at hx⟩,H⟩
 |x::l,k,H=>by
  simp only [vW] at H;rcases hd H with h | ⟨r,hr,H⟩
  ·exact .inl h
  rcases BM hd H with h | ⟨rs,MQ,H⟩
  ·exact .inl h
  refine .inr ⟨r::rs,fun c vs h1 h2 hv=>?_,H⟩;cases vs with
  |nil=>have:=hv.1; simp at this
  |cons v vs =>
   obtain ⟨g1,g2⟩:=hv.head;have g3:=MQ c vs h1 h2 g2;refine ⟨by simp [g3.1],fun j y u hy hu=>?_⟩;cases j with
   |zero=>simp at hy hu; subst hy; subst hu; exact hr c v h1 h2 g1
   |succ j=>exact g3.2 j y u (by simpa using hy) (by simpa using hu)
def yP {α:Sort _} (h:List ae) (x:AV) (stop:α) (k:DV→α):α :=
 match x with
 | .agg l=>vW (yO h) l stop fun r=>k (.agg r)
 |x=>yO h x stop k
theorem FU {G:List (Nat × DV)} {x:AV} {stop:Prop} {k:DV→Prop} (H:yP h x stop k):stop∨∃ r,tJ G h x r∧k r:=by
 unfold yP at H;split at H
 ·rcases BM (G:=G) (h:=h) FT H with h | ⟨r,hr,H⟩
  ·exact .inl h
  refine .inr ⟨_,fun c v h1 h2 hv=>?_,H⟩;obtain ⟨vs,rfl,gC⟩:=nR hv;have:=hr c vs h1 h2 gC;exact .agg _ _ (by simpa using this.1) fun j x v hx hu=>this.2 j x v hx (by simpa using hu)
 ·exact FT H
def tK {α:Sort _} (T:List bp) (s:List AV) (h:List ae):List ResultVar→(stop:α)→(List AV→α)→α
 | [],_,k=>k []
 | .tmp t::l,stop,k=>aM s t stop fun v=>tK T s h l stop fun l'=>k (v::l')
 | .cell a t::l,stop,k=>aM T t stop fun i=>aM s a stop fun
  | .ptr b off=>aM h b stop fun
   | .cells c=>jK i c off stop fun v=>tK T s h l stop fun l'=>k (v::l')
   |_=>stop
  |_=>stop
def rM (t:Array Value):ResultVar→Sem Value
 | .tmp t'=>pure (t.getD t' undef)
 | .cell a t'=>do loadVar t' (← asAddr (t.getD a undef))
theorem yQ (hE:E.OK) {stop:Prop}:∀ {l:List ResultVar} {k:List AV→Prop},tK E.T s h l stop k→stop∨∃ r,k r∧∀ (c:Cx) (t:Array Value),c.heap=h→aK E.G c→VS c s t→∃ vs:List Value,VL c r vs∧(l.mapM (rM t)).run E.P c.w = .ok vs c.w
 | [],k,H => .inr ⟨[],H,fun c t _ _ hs=>⟨[],.nil,by simp⟩⟩
 | .tmp n::l,k,H=>by
  simp only [tK] at H;rcases a7 H with h | ⟨x,hx,H⟩
  ·exact .inl h
  rcases yQ hE H with h | ⟨r,hk,hr⟩
  ·exact .inl h
  refine .inr ⟨x::r,hk,fun c t hc ho hs=>?_⟩;obtain ⟨vs,h1,h2⟩:=hr c t hc ho hs;have hl:n<t.size:=by
   rw [← hs.1];rcases Nat.lt_or_ge n s.length with h | h
   ·exact h
   ·rw [List.getElem?_eq_none h] at hx; cases hx
  refine ⟨t[n]::vs,.cons (hs.2 n x _ hx (by simp [hl])) h1,?_⟩;rw [List.mapM_cons];simp only [rM,Sem.run_bind,Sem.run_pure,Result.andThen_ok,h2];simp [hl]
 | .cell a ty::l,k,H=>by
  simp only [tK] at H;rcases a7 H with h | ⟨i,hi,H⟩
  ·exact .inl h
  rcases a7 H with h | ⟨x,hx,H⟩
  ·exact .inl h
  split at H
  ·rename_i b off;rcases a7 H with h1 | ⟨bx,hb,H⟩
   ·exact .inl h1
   split at H
   ·rename_i cs;rcases yG H with h1 | ⟨v,H,hp⟩
    ·exact .inl h1
    rcases yQ hE H with h | ⟨r,hk,hr⟩
    ·exact .inl h
    refine .inr ⟨v::r,hk,fun c t hc ho hs=>?_⟩;obtain ⟨vs,h1,h2⟩:=hr c t hc ho hs;subst hc;have hl:a<t.size:=by
     rw [← hs.1];rcases Nat.lt_or_ge a s.length with h | h
     ·exact h
     ·rw [List.getElem?_eq_none h] at hx; cases hx
    obtain ⟨blk,cap,us,Xm,g1,g2,g3⟩:=ho.cells hb;obtain ⟨u,hu,oL⟩:=hp E.P ty c blk 0 us.toList (hE.types ty i hi) g3 (ku g2);have pV:=hs.2 a _ t[a] hx (by simp [hl]);have MR:t[a] = .pointer (some ⟨blk,0+off,none⟩):=by
     generalize t[a]=p at pV;cases pV with
     |ptr _ _ cs' iK il bZ cG=>rw [g1] at cG; cases cG; rw [Nat.zero_add]
     |ik _ _ _ bZ _=>rw [hb] at bZ; cases bZ
    have vX:(loadVar ty ⟨blk,0+off,none⟩).run E.P c.w = .ok u c.w:=hu;refine ⟨u::vs,.cons oL h1,?_⟩;rw [List.mapM_cons];have hg:t.getD a undef = .pointer (some ⟨blk,0+off,none⟩):=by simp [hl,MR]
    simp only [rM,hg,asAddr,Sem.run_bind,Sem.run_pure,Result.andThen_ok,vX,h2]
   ·exact .inl H
  ·exact .inl H
def packed:List Value→Value
 | [v]=>v
 |vs => .tuple vs.toArray
theorem BN {P:Program} {fn:Func} {t:Array Value} {w:World} {vs:List Value} (h:(fn.results.toList.mapM (rM t)).run P w = .ok vs w) :
  (results fn t).run P w = .ok (packed vs) w:=by
 have e1:results fn t=(do let vs ← fn.results.mapM (rM t); pure (if h:vs.size=1 then vs[0] else .tuple vs)):=by
  rfl
 have e2:(fn.results.mapM (rM t):Sem (Array Value))=List.toArray <$> (fn.results.toList.mapM (rM t)):=by
  rw [Array.mapM_eq_mapM_toList]
 simp only [e1,e2,Sem.run_bind,map_eq_pure_bind,h,Result.andThen_ok,Sem.run_pure];cases vs with
 |nil=>rfl
 |cons v vs=>cases vs with
  |nil=>rfl
  |cons u vs=>simp [packed]
def ml {α:Sort _} (T:List bp) (s:List AV) (h:List ae) (rs:List ResultVar) (stop:α) (k:AV→List ae→α):α :=
 tK T s h rs stop fun
  | [x]=>k x h
  |l=>k (.aD l) h
theorem AW.FV (hE:E.OK) {td:List aN} (na:∀ (a:Act) (cs:List Frame) (w:World),step E.P (lone ((bf ⟨ag,none,[]⟩).atR a (td.map aN.bB)) cs w) = .next (lone { (bf ⟨ag,none,[]⟩).atR a (td.map aN.bB) with mode := .returning } cs w))
  {fn:Func} (hf:E.P.funcs[ag]? = some fn) (H:ml E.T s h fn.results.toList False R.Q):AW E ag ⟨⟨ag,none,[]⟩,td,s⟩ [] h R:=by
 unfold AW;intro c0 c t ts h0 h1 h2 h3 hr bF h4 h5 cs;unfold ml at H;rcases yQ hE H with h' | ⟨l,H,hl⟩
 ·cases h'
 obtain ⟨vs,g1,g2⟩:=hl c t h2 h3 h4;have fin:∀ r v,packed vs=v→R.Q r h→VR c r v→∃ (c':Cx) (fr:Frame) (r:AV) (v:Value),
   R.Q r c'.heap∧VR c' r v∧aK E.G c'∧ec c0 c'∧Steps E.P (lone ((⟨⟨ag,none,[]⟩,td,s⟩:bU).bB t) (eG [] ts++cs) c.w) (lone fr cs c'.w)∧fr.fn=ag∧fr.leaving E.P c'.w (.returned v):=fun r v e1 e2 e3=>by
  refine ⟨c,_,r,v,by rw [h2]; exact e2,e3,h3,hr,.one (na ⟨t,[]⟩ cs c.w),rfl,rfl,rfl,rfl,fn,hf,?_⟩;rw [← e1];exact BN g2
 split at H
 ·rename_i x;cases vs with
  |nil=>have:=g1.1; simp at this
  |cons v vs=>cases vs with
   |cons u vs=>have:=g1.1; simp at this
   |nil=>exact fin x v rfl H g1.head.1
 ·rename_i aJ;refine fin (.aD l) (.tuple vs.toArray) ?_ H (.aD _ _ (by simpa using g1.1) fun j x v hx hu=>g1.2 j x v hx (by simpa using hu));cases vs with
  |nil=>rfl
  |cons v vs=>cases vs with
   |nil =>
    have:=g1.1;cases l with
    |nil=>simp at this
    |cons x l=>cases l with
     |nil=>exact absurd rfl (aJ x)
     |cons y l=>simp at this
   |cons u vs=>rfl
def tL (R:DV→Prop) (x:AV) (h:List ae):Prop :=
 match x with
 | .aD l=>vW (yP h) l False fun r=>R (.aD r)
 |x=>yP h x False R
theorem MS {G:List (Nat × DV)} {R:DV→Prop} {x:AV} (H:tL R x h):∃ r,tJ G h x r∧R r:=by
 unfold tL at H;split at H
 ·rcases BM (G:=G) (h:=h) FU H with h' | ⟨r,hr,H⟩
  ·cases h'
  refine ⟨_,fun c v h1 h2 hv=>?_,H⟩;cases hv with
  |aD _ vs hl bK =>
   have:=hr c vs.toList h1 h2 ⟨by simpa using hl,fun j x v hx hv=>bK j x v hx (by simpa using hv)⟩;exact .aD _ _ (by simpa using this.1) fun j x v hx hu=>this.2 j x v hx (by simpa using hu)
 ·rcases FU (G:=G) H with h' | h'
  ·cases h'
  ·exact h'
theorem aq.MT {f:FuncId} {args:List DV} {R:DV→Prop} (H:au E f [] (args.map .d) (tL R)):aq E f args R:=by
 unfold au at H;unfold aq;refine ⟨H.1,fun ax w vs h1 h2 h3=>?_⟩
 let c:Cx:=⟨fun _=>none,[],ax,w⟩
 have hv:VL c (args.map .d) vs := .rA h3.1 fun j x v hx hu=>rI (h3.2 j x v hx hu);have ho:aK E.G c:=⟨h1,fun i b n hi=>(by cases hi),fun i j b n m hi=>(by cases hi),fun i b n hi=>(by cases hi),fun i bx hi=>(by simp [c] at hi),h2⟩;refine (H.2.2 c vs rfl ho hv).mono fun e w' ⟨c',r,v,k1,k2,k3,k4,k5,k6⟩=>?_;obtain ⟨d,hd,hR⟩:=MS (G:=E.G) k3;subst k2;have:=hd c' v k5 rfl k4;rw [k6.ax] at this;exact ⟨v,d,k1,hR,this,k6.ext fun _=>rfl⟩
theorem AW.ret (hE:E.OK) {fn:Func} (hf:E.P.funcs[ag]? = some fn) (H:ml E.T s h fn.results.toList False R.Q):AW E ag ⟨⟨ag,none,[]⟩,.code .ret::k,s⟩ [] h R := .FV hE (fun _ _ _=>stepR_ret rfl) hf H
theorem AW.MU (hE:E.OK) {fn:Func} (hf:E.P.funcs[ag]? = some fn) (H:ml E.T s h fn.results.toList False R.Q):AW E ag ⟨⟨ag,none,[]⟩,[],s⟩ [] h R := .FV hE (fun _ _ _=>stepR_end rfl) hf H
end
end Go.aw
end
section
namespace Go.aw
open Go Go.RowKit
@[irreducible] def need (C K : Prop) : Prop := C ∧ K
theorem a8 {C K:Prop} (h:C) (k:K):need C K:=by unfold need; exact ⟨h,k⟩
theorem lj {C K:Prop} (h:need C K):C∧K:=by unfold need at h; exact h
def mn (b:UInt8):DV := .int .u8 b.toNat
def two {β:Type} (l:List β) (stop:Prop) (k:β→β→Prop):Prop :=
 match l with
 | [a,b]=>k a b
 |_=>stop
theorem FW {β:Type} {l:List β} {stop:Prop} {k:β→β→Prop} (H:two l stop k):stop∨∃ a b,l=[a,b]∧k a b:=by
 unfold two at H;split at H
 ·exact .inr ⟨_,_,rfl,H⟩
 ·exact .inl H
def yR (e:Nat) (ei:bp) (h:List ae) (a:AV) (m:List DV) (stop:Prop) (k:AV→List ae→Prop):Prop :=
 match a with
 | .d .aH=>need (m.length≤2147483648∧∀ e∈m,e.cells.length=ei.size) (l9 h (.arr 1 (e,ei.size) m) 0 fun h' n=>k (.own n 1) h')
 | .own b g=>aM h b stop fun
  | .arr g' ts l=>match Nat.beq g g',Nat.beq ts.1 e,Nat.beq ts.2 ei.size with
   |true,true,true=>need (l.length+m.length≤2147483648∧∀ e∈m,e.cells.length=ei.size) (fy h b (.arr (g+1) ts (l++m)) fun h'=>k (.own b (g+1)) h')
   |_,_,_=>stop
  |_=>stop
 |_=>stop
def rN (T:List bp) (G:List (Nat × DV)) (o:Op) (s:List AV) (h:List ae) (stop:Prop) (k:AV→List ae→Prop):Prop :=
 match o with
 | .call { callee := .builtin .append,args:=args,argTypes:=ts }=>two args.toList stop fun x y=>two ts.toList stop fun t0 t1=>aM T t0 stop fun i0=>aM T t1 stop fun i1 =>
  match i0.k with
  | .slice e=>aM T e stop fun ei=>match Nat.beq ei.zero.length ei.size,Nat.blt 0 ei.size,Nat.ble ei.bytes 65536 with
   |true,true,true=>bW G s x stop fun a=>bW G s y stop fun b =>
    match i1.k,b with
    | .slice _,.d (.sl m)=>yR e ei h a m stop k
    | .string,.d (.str z)=>match ei.k with
     | .int .u8=>yR e ei h a (z.map mn) stop k
     |_=>stop
    |_,_=>stop
   |_,_,_=>stop
  |_=>stop
 | .makeSlice t n c=>aM T t stop fun i=>match i.k with
  | .slice e=>aM T e stop fun ei=>match Nat.beq ei.zero.length ei.size,Nat.blt 0 ei.size,Nat.ble ei.bytes 65536,ei.zero.all DV.er with
   |true,true,true,true=>bW G s n stop fun
    | .d (.int _ a)=>bW G s c stop fun
     | .d (.int _ b) =>
      match ei.zero with
      | [z]=>need (0≤a∧a≤b∧b≤2147483648) (l9 h (.arr 0 (e,ei.size) (List.replicate a.toNat z)) 0 fun h' n=>k (.own n 0) h')
      |zl=>need (0≤a∧a≤b∧b≤2147483648) (l9 h (.arr 0 (e,ei.size) (List.replicate a.toNat (.agg zl))) 0 fun h' n=>k (.own n 0) h')
     |_=>stop
    |_=>stop
   |_,_,_,_=>stop
  |_=>stop
 |_=>stop
theorem aR {β:Type} {l:List β} {n:Nat} {e:β} (h:l[n]? = some e):n<l.length:=by
 rcases Nat.lt_or_ge n l.length with h' | h'
 ·exact h'
 ·rw [List.getElem?_eq_none h'] at h; cases h
section
variable {E:Env} {s:List AV} {h:List ae} {c:Cx} {G:List (Nat × DV)} {P:Program}
structure Src (P:Program) (size:Nat) (w:World) (x:Value) (n:Nat) (news:List Value):Prop where
 len:∀ w,(Builtin.lenOf x).run P w = .ok n w
 cells:∀ d:Nat,(Builtin.firstCells size n x).run P { w with drawn:=d } = .ok news.toArray { w with drawn:=d }
 one:∀ v∈news,v.oneCell'=true
 size:news.length=n*size
theorem MV {t0 t1 e:TypeId} {i:TypeInfo} {d1:TypeDesc} (h0:P.underlying t0=some (.slice e)) (h1:P.underlying t1=some d1) (lk:∀ k,d1 ≠ .int k) (hi:P.info? e=some i) {w:World} {g n m cap:Nat} {cur:Array Value} {x:Value} {news:List Value}
  (hg:w.heap[g]? = some (.cells cur e (0,0))) (hs:Src P i.size w x m news) (rO:n+m≤cap) (gz:n*i.size+news.length≤cur.size) (ty:TypeId) :
  (Builtin.append_ #[t0,t1] ty #[.slice (some ⟨g,0,none⟩) n cap,x]).run P w = .ok (.slice (some ⟨g,0,none⟩) (n+m) cap) (w.setCells g (n*i.size) news):=by
 have bc:=run_storeCells_cells (P:=P) g (n*i.size) news 0 w (fun j hj=>by
   simp only [World.cell?,hg]
   simp; omega) (fun j hj=>by simp [World.frozen?,hg]) hs.one
 simp only [Nat.add_zero] at bc;have hc:=hs.cells w.drawn;simp [Builtin.append_,run_underlying h0,run_underlying h1,Go.sizeOf,typeInfo,hi,hs.len,rO,hc,mb,bc]
theorem MW {t0 t1 e:TypeId} {i:TypeInfo} {d1:TypeDesc} (h0:P.underlying t0=some (.slice e)) (h1:P.underlying t1=some d1) (lk:∀ k,d1 ≠ .int k) (hi:P.info? e=some i) {w:World} {n cap:Nat} {b:Option Addr} {x:Value}
  (hs:Src P i.size w x 0 []) (rO:n≤cap) (ty:TypeId):(Builtin.append_ #[t0,t1] ty #[.slice b n cap,x]).run P w = .ok (.slice b n cap) w:=by
 have hc:=hs.cells w.drawn;cases b <;> simp [Builtin.append_,run_underlying h0,run_underlying h1,Go.sizeOf,typeInfo,hi,hs.len,rO,hc,storeCells]
theorem MX {t0 t1 e:TypeId} {i:TypeInfo} {z:Value} {d1:TypeDesc} (h0:P.underlying t0=some (.slice e)) (h1:P.underlying t1=some d1) (lk:∀ k,d1 ≠ .int k) (hi:P.info? e=some i) (hz:i.zero=some z) {w:World} {n m cap:Nat} {b:Option Addr} {x:Value} {nW news:List Value}
  (hold:∀ d:Nat,(Builtin.firstCells i.size n (.slice b n cap)).run P { w with drawn:=d } = .ok nW.toArray { w with drawn:=d }) (hs:Src P i.size w x m news) (hg:cap<n+m) (MY:n+m≤2147483648) (oR:i.bytes≤65536) (ty:TypeId) :
  (Builtin.append_ #[t0,t1] ty #[.slice b n cap,x]).run P w = .ok (.slice (some ⟨w.heap.size,0,none⟩) (n+m) (grownCap w (n+m) cap e)) (w.drew.alloc (.cells (nW.toArray++news.toArray++Builtin.zeroCells z.cells (grownCap w (n+m) cap e - (n+m))) e)):=by
 have hn:¬ (n+m≤cap):=by omega
 have MZ:¬ (9223372036854775807<((n:Int)+(m:Int))):=by omega
 have gz:(n+m)*i.bytes≤140737488355328:=by
  calc (n+m)*i.bytes≤2147483648*65536:=Nat.mul_le_mul MY oR
   _=140737488355328:=by decide
 have M0:¬ (281474976710656<Builtin.nextslicecap (n+m) cap*i.bytes):=by
  have:=growslice_fits (old:=cap) (need:=n+m) (bytes:=i.bytes) (by omega) gz;omega
 have hc:=hs.cells w.drew.drawn;have ho:=hold w.drew.drawn;have vY:(Builtin.firstCells i.size m x).run P w.drew = .ok news.toArray w.drew:=hc;have cG:(Builtin.firstCells i.size n (.slice b n cap)).run P w.drew = .ok nW.toArray w.drew:=ho;simp [Builtin.append_,run_underlying h0,run_underlying h1,Go.sizeOf,typeInfo,zeroValue,hi,hz,hs.len,hn,MZ,M0,Question.forced,vY,cG,newRow,grownCap]
 congr 2
 apply Array.ext';simp [List.append_assoc]
theorem FY {c:Cx} {m:List DV} {x:Value} {sz:Nat} (bQ:0<sz) (hm:∀ e∈m,e.cells.length=sz) (hv:VD c.bad c.w (.sl m) x):∃ news:List Value,Src P sz c.w x m.length news∧(∀ (j:Nat) (y:DV) (v:Value),(flat m)[j]? = some y→news[j]? = some v→VD c.bad c.w y v):=by
 have dx:gE sz m:=fun i e he=>hm e (List.mem_of_getElem? he);cases hv with
 |slnil=>exact ⟨[],⟨fun _=>rfl,fun _=>rfl,fun v hv=>by simp at hv,by simp⟩,fun j y v hy=>by simp [flat] at hy⟩
 |jJ a=>exact ⟨[],⟨fun _=>rfl,fun _=>by simp [Builtin.firstCells,loadCells,loadCellsFrom],fun v hv=>by simp at hv,by simp⟩,fun j y v hy=>by simp [flat] at hy⟩
 |sl _ blk off cap cL f hb yS iH hlen cZ bK bX =>
  by_cases aJ:m=[]
  ·subst aJ;exact ⟨[],⟨fun _=>rfl,fun _=>by simp [Builtin.firstCells,loadCells,loadCellsFrom],fun v hv=>by simp at hv,by simp⟩,fun j y v hy=>by simp [flat] at hy⟩
  obtain ⟨e0,r,hr⟩:=List.exists_cons_of_ne_nil aJ;have mc:cL=sz:=(hlen 0 e0 (by rw [hr]; rfl)).symm.trans (hm e0 (by rw [hr]; simp));subst mc;have at_:∀ (idx:Nat),idx<m.length*cL→∃ (i j:Nat) (e y:DV),idx=i*cL+j∧j<cL∧m[i]? = some e∧e.cells[j]? = some y∧idx / cL=i∧idx % cL=j:=fun idx nX=>by
   have hd:idx / cL<m.length:=Nat.div_lt_of_lt_mul (by rw [Nat.mul_comm]; exact nX);have nY:idx % cL<cL:=Nat.mod_lt _ bQ;have hl:idx % cL<m[idx / cL].cells.length:=by rw [hlen _ _ (List.getElem?_eq_getElem hd)]; exact nY
   exact ⟨idx / cL,idx % cL,m[idx / cL],m[idx / cL].cells[idx % cL],by rw [Nat.mul_comm]; exact (Nat.div_add_mod idx cL).symm,nY,List.getElem?_eq_getElem hd,List.getElem?_eq_getElem hl,rfl,rfl⟩
  have dX:∀ (j:Nat) (v:Value),((List.range (m.length*cL)).map fun idx=>f (idx / cL) (idx % cL))[j]? = some v→j<m.length*cL∧v=f (j / cL) (j % cL):=fun j v hv=>by
   have hj:j<m.length*cL:=by have:=aR hv; simpa using this
   simp [hj] at hv;exact ⟨hj,hv.symm⟩
  refine ⟨(List.range (m.length*cL)).map fun idx=>f (idx / cL) (idx % cL),⟨fun _=>rfl,fun d=>?_,fun v hv=>?_,by simp⟩,fun j y v hy hv=>?_⟩
  ·have:=run_loadCells_list (P:=P) { c.w with drawn:=d } ⟨blk,off,none⟩ ((List.range (m.length*cL)).map fun idx=>f (idx / cL) (idx % cL)) (fun j v hv=>by
    obtain ⟨hj,rfl⟩:=dX j v hv;obtain ⟨i,jj,e,y,e1,e2,e3,e4,e5,e6⟩:=at_ j hj;rw [mb,e5,e6,e1]
    exact cZ i jj e y e3 e4)
   simpa [Builtin.firstCells] using this
  ·obtain ⟨j,M1⟩:=List.getElem?_of_mem hv;obtain ⟨hj,rfl⟩:=dX j v M1;obtain ⟨i,jj,e,y,e1,e2,e3,e4,e5,e6⟩:=at_ j hj;rw [e5,e6];exact bX i jj e y e3 e4
  ·obtain ⟨hj,rfl⟩:=dX j v hv;obtain ⟨i,jj,e,y',e1,e2,e3,e4,e5,e6⟩:=at_ j hj;have:=flat_get dx e3 e2;rw [← e1,hy,e4] at this;cases this;rw [e5,e6];exact bK i jj e y e3 e4
theorem FZ {c:Cx} {z:List UInt8}:Src P 1 c.w (.string ⟨z.toArray⟩) (z.map mn).length (z.map fun b=>Value.int .u8 b.toNat)∧(∀ (j:Nat) (y:DV) (v:Value),(flat (z.map mn))[j]? = some y→(z.map fun b=>Value.int .u8 b.toNat)[j]? = some v→VD c.bad c.w y v):=by
 have M3:flat (z.map mn)=z.map mn:=by
  induction z with
  |nil=>rfl
  |cons b z ih=>simp only [List.map_cons,flat,List.flatMap_cons] at ih ⊢; rw [ih]; rfl
 refine ⟨⟨fun _=>by simp [Builtin.lenOf,ByteArray.size],fun d=>?_,fun v hv=>?_,by simp⟩,fun j y v hy hv=>?_⟩
 ·simp [Builtin.firstCells]
 ·obtain ⟨b,-,rfl⟩:=List.mem_map.1 hv; rfl
 ·rw [M3] at hy;rw [List.getElem?_map] at hy hv;cases hz:z[j]? with
  |none=>rw [hz] at hy; cases hy
  |some b=>rw [hz] at hy hv; cases hy; cases hv; exact .int _ _
def jP (c:Cx) (l:List DV) (vs:List Value):Prop:=∀ (idx:Nat) (y:DV),(flat l)[idx]? = some y→∃ v,vs[idx]? = some v∧v.oneCell'=true∧VD c.bad c.w y v
theorem jP.ij {c:Cx} {l:List DV} {vs:Array Value} {sz:Nat} (dx:gE sz l) (h:jP c l vs.toList):∀ (i j:Nat) (e x:DV),l[i]? = some e→e.cells[j]? = some x→∃ v,vs[i*sz+j]? = some v∧v.oneCell'=true∧VD c.bad c.w x v:=fun i j e x he hx=>by
 have hj:j<sz:=by rw [← dx i e he]; exact aR hx
 obtain ⟨v,h1,h2⟩:=h (i*sz+j) x (by rw [flat_get dx he hj]; exact hx);exact ⟨v,by simpa using h1,h2⟩
theorem jP.M4 {c:Cx} {l:List DV} {vs:Array Value} {sz:Nat} (bQ:0<sz) (dx:gE sz l) (h:∀ (i j:Nat) (e x:DV),l[i]? = some e→e.cells[j]? = some x→∃ v,vs[i*sz+j]? = some v∧v.oneCell'=true∧VD c.bad c.w x v):jP c l vs.toList:=fun idx y hy=>by
 have aj:=aR hy;rw [mf dx] at aj;have hd:idx / sz<l.length:=Nat.div_lt_of_lt_mul (by rw [Nat.mul_comm]; exact aj);have nY:idx % sz<sz:=Nat.mod_lt _ bQ;have h1:=flat_get dx (List.getElem?_eq_getElem hd) nY;have e1:idx / sz*sz+idx % sz=idx:=by rw [Nat.mul_comm]; exact Nat.div_add_mod idx sz
 rw [e1,hy] at h1;obtain ⟨v,h2,h3⟩:=h (idx / sz) (idx % sz) _ y (List.getElem?_eq_getElem hd) h1.symm;rw [e1] at h2;exact ⟨v,by simpa using h2,h3⟩
theorem jP.append {c:Cx} {l m:List DV} {vs news:List Value} {tail:List Value} {sz:Nat} (dx:gE sz l) (hl:jP c l vs) (eF:l.length*sz≤vs.length) (bX:∀ v∈news,v.oneCell'=true) (hlen:news.length=(flat m).length) (hn:∀ (j:Nat) (y:DV) (v:Value),(flat m)[j]? = some y→news[j]? = some v→VD c.bad c.w y v) :
  jP c (l++m) (vs.take (l.length*sz)++news++tail):=fun idx y hy=>by
 rw [By] at hy;have rP:=mf dx;have M5:(vs.take (l.length*sz)).length=l.length*sz:=by simp; omega
 rcases Nat.lt_or_ge idx (l.length*sz) with h | h
 ·rw [List.getElem?_append_left (by omega)] at hy;obtain ⟨v,h1,h2⟩:=hl idx y hy;refine ⟨v,?_,h2⟩;rw [List.append_assoc,List.getElem?_append_left (by omega),List.getElem?_take,if_pos h];exact h1
 ·rw [List.getElem?_append_right (by omega),rP] at hy;have aj:=aR hy;have nX:idx - l.length*sz<news.length:=by omega
  refine ⟨news[idx - l.length*sz],?_,bX _ (List.getElem_mem nX),hn _ y _ hy (by simp [nX])⟩;rw [List.append_assoc,List.getElem?_append_right (by omega),M5,List.getElem?_append_left nX];simp [nX]
theorem jP.step {c c':Cx} (hs:Step c c') {l:List DV} {vs:List Value} (h:jP c l vs):jP c' l vs:=fun idx y hy=>by
 obtain ⟨v,h1,h2,h3⟩:=h idx y hy;exact ⟨v,h1,h2,hs.vd h3⟩
theorem M6 {sz:Nat} {l m:List DV} (hl:gE sz l) (hm:∀ e∈m,e.cells.length=sz):gE sz (l++m):=fun i e he=>by
 rcases Nat.lt_or_ge i l.length with h | h
 ·rw [List.getElem?_append_left h] at he; exact hl i e he
 ·rw [List.getElem?_append_right h] at he; exact hm e (List.mem_of_getElem? he)
def Cx.iv (c:Cx) (b g:Nat) (ts:Nat × Nat) (l:List DV) (own:Option (Nat × Nat)) (w:World):Cx:={ c with own:=fun i=>if i=b then own else c.own i,heap:=c.heap.set b (.arr g ts l),w:=w }
theorem aK.iv {G:List (Nat × DV)} (ho:aK G c) {b g:Nat} {ts:Nat × Nat} {l l':List DV} (hb:c.heap[b]? = some (.arr g ts l)) {w:World} (own:Option (Nat × Nat)) (BO:w.os=c.w.os) (M7:w.tape=c.w.tape) (M8:w.output=c.w.output) (fA:c.w.heap.size≤w.heap.size)
  (qd:∀ k,k<c.w.heap.size→(∀ n,c.own b≠some (k,n))→w.heap[k]? = c.w.heap[k]?) (bA:∀ k n,own=some (k,n)→k<w.heap.size∧(k<c.w.heap.size→∃ m,c.own b=some (k,m))) :
  let c':=c.iv b (g+1) ts l' own w
  Step c c'∧((gE ts.2 l'∧((own=none∧l'=[])∨∃ (blk cap:Nat) (vs:Array Value),own=some (blk,cap)∧w.heap[blk]? = some (.cells vs ts.1 (0,0))∧vs.size=cap*ts.2∧l'.length≤cap∧cap≤maxLen∧jP c' l' vs.toList))→aK G c'):=by
 intro c';have eu:=aR hb
 have bc:Step c c':={
  ax:=rfl
  bN:=ho.bN
  os:=BO
  tape:=M7
  output:=M8
  size:=fA
  keep:=fun x hx hn=>qd x hx (fun n=>hn b n)
  dh:=fun i x n hi hx=>by
   simp only [c',Cx.iv] at hi;split at hi
   ·rename_i bz; subst bz; exact (bA x n hi).2 hx
   ·exact ⟨n,hi⟩
  boxes:=fun i bx hi=>by
   by_cases bz:i=b
   ·subst bz;rw [hb] at hi;cases hi;exact .inl ⟨g+1,l',by show (c.heap.set i _)[i]? = _; rw [List.getElem?_set_self eu],.inl (Nat.lt_succ_self _)⟩
   ·have h':c'.heap[i]? = some bx:=by show (c.heap.set b _)[i]? = _; rw [List.getElem?_set_ne (Ne.symm bz)]; exact hi
    have oM:c'.own i=c.own i:=by simp only [c',Cx.iv]; rw [if_neg bz]
    cases bx with
    |cells cs=>exact .inl ⟨cs,h',oM,rfl⟩
    |arr g sz l=>exact .inl ⟨g,l,h',.inr ⟨rfl,rfl,oM⟩⟩
    |map es=>exact .inl ⟨es,h',oM⟩
    |gone=>exact h'
    |hole=>exact ⟨_,h'⟩ }
 refine ⟨bc,fun cQ=>ho.next bc ?_ ?_ ?_⟩
 ·intro i x n hi;have hl:c'.heap.length=c.heap.length:=by simp [c',Cx.iv]
  rw [hl];simp only [c',Cx.iv] at hi;split at hi
  ·rename_i bz; subst bz; exact ⟨(bA x n hi).1,eu⟩
  ·have:=ho.br i x n hi; exact ⟨Nat.lt_of_lt_of_le this.1 fA,this.2⟩
 ·intro i j x n m hi hj;simp only [c',Cx.iv] at hi hj;split at hi <;> split at hj
  ·omega
  ·rename_i h1 h2;have:=(ho.br j x m hj).1;obtain ⟨q,hq⟩:=(bA x n hi).2 this;exact absurd (ho.inj j b x m q hj hq) h2
  ·rename_i h1 h2;have:=(ho.br i x n hi).1;obtain ⟨q,hq⟩:=(bA x m hj).2 this;exact absurd (ho.inj i b x n q hi hq) h1
  ·exact ho.inj i j x n m hi hj
 ·intro i bx hi;by_cases bz:i=b
  ·subst bz;have bY:(c.heap.set i (.arr (g+1) ts l'))[i]? = some bx:=hi;rw [List.getElem?_set_self eu] at bY;cases bY;right;have oS:c'.own i=own:=by simp [c',Cx.iv]
   obtain ⟨q0,-,-⟩:=ho.box i _ hb;obtain ⟨dx,M9⟩:=cQ;refine ⟨q0,dx,?_⟩;rcases M9 with ⟨h1,h2⟩ | ⟨blk,cap,vs,h1,h2,h3,h4,h5,h6⟩
   ·exact .inl ⟨oS.trans h1,h2⟩
   ·exact .inr ⟨blk,cap,vs,oS.trans h1,h2,h3,h4,h5,h6.ij dx⟩
  ·left;have bY:(c.heap.set b (.arr (g+1) ts l'))[i]? = some bx:=hi;rw [List.getElem?_set_ne (Ne.symm bz)] at bY;refine ⟨bY,by simp only [c',Cx.iv]; rw [if_neg bz],fun x n hn=>qd x (ho.br i x n hn).1 (fun m hm=>bz (ho.inj i b x n m hn hm))⟩
theorem ln {b g:Nat} {ts:Nat × Nat} {l:List DV} (hb:c.heap[b]? = some (.arr g ts l)) {v:Value} (hv:VR c (.own b g) v):(∃ blk cap,c.own b=some (blk,cap)∧v = .slice (some ⟨blk,0,none⟩) l.length cap)∨(l=[]∧v = .slice none 0 0∧c.own b=none):=by
 cases hv with
 |own _ _ _ l' blk cap k1 k2=>rw [hb] at k1; cases k1; exact .inl ⟨blk,cap,k2,rfl⟩
 |gy _ _ _ k1 k2=>rw [hb] at k1; cases k1; exact .inr ⟨rfl,rfl,k2⟩
 |jn _ _ g' _ _ _ k1 k2 _=>rw [hb] at k1; cases k1; omega
 |iI _ _ _ k1 _=>rw [hb] at k1; cases k1
 |la _ _ _ _ _ _ k1 _ _=>rw [hb] at k1; cases k1
theorem M' {β:Type} {vs news:List β} {o:Nat} (h:o+news.length≤vs.length):cV vs o news=vs.take o++news++vs.drop (o+news.length):=by
 have h1:vs=vs.take o++(vs.drop o).take news.length++vs.drop (o+news.length):=by
  rw [List.append_assoc,← List.drop_drop,List.take_append_drop,List.take_append_drop]
 have h2:(vs.take o).length=o:=by simp; omega
 have:=Bx news (vs.take o) ((vs.drop o).take news.length) (vs.drop (o+news.length)) (by simp; omega);rw [← h1,h2] at this;exact this
theorem lp {n:Nat} (h:n≤2147483648):n≤maxLen:=by unfold maxLen; omega
theorem F0 (aO:aK G c) {t0 t1:TypeId} {i:TypeInfo} {z:Value} {d1:TypeDesc} {ts:Nat × Nat} (h0:P.underlying t0=some (.slice ts.1)) (h1:P.underlying t1=some d1) (lk:∀ k,d1 ≠ .int k) (hi:P.info? ts.1=some i) (hz:i.zero=some z) (iq:z.cells.size=i.size) (fA:i.size=ts.2) (oR:i.bytes≤65536)
  {b g:Nat} {l m:List DV} (hb:c.heap[b]? = some (.arr g ts l)) {v x:Value} (hv:VR c (.own b g) v) {news:List Value} (hs:Src P i.size c.w x m.length news) (hn:∀ (j:Nat) (y:DV) (v:Value),(flat m)[j]? = some y→news[j]? = some v→VD c.bad c.w y v) (hm:∀ e∈m,e.cells.length=ts.2) (qf:l.length+m.length≤2147483648) (ty:TypeId) :
  ∃ (c':Cx) (v':Value),(Builtin.append_ #[t0,t1] ty #[v,x]).run P c.w = .ok v' c'.w∧c'.heap=c.heap.set b (.arr (g+1) ts (l++m))∧aK G c'∧VR c' (.own b (g+1)) v'∧Step c c':=by
 obtain ⟨q0,q1,q2⟩:=aO.box b _ hb;have eu:=aR hb;have F1:gE ts.2 (l++m):=M6 q1 hm;have vZ:(flat m).length=m.length*ts.2:=mf (fun i e he=>hm e (List.mem_of_getElem? he));have tM:news.length=(flat m).length:=by rw [hs.size,vZ,fA]
 have lq:∀ own w,(c.iv b (g+1) ts (l++m) own w).heap[b]? = some (.arr (g+1) ts (l++m)):=fun own w=>by show (c.heap.set b _)[b]? = _; rw [List.getElem?_set_self eu]
 have BP:∀ own w,(c.iv b (g+1) ts (l++m) own w).own b=own:=fun own w=>by simp [Cx.iv]
 have grown:∀ (nW:List Value) (cap:Nat) (bs:Option Addr),(∀ (idx:Nat) (y:DV),(flat l)[idx]? = some y→∃ v,nW[idx]? = some v∧v.oneCell'=true∧VD c.bad c.w y v)→nW.length=l.length*ts.2→(∀ d:Nat,(Builtin.firstCells i.size l.length (.slice bs l.length cap)).run P { c.w with drawn:=d } = .ok nW.toArray { c.w with drawn:=d })→cap<l.length+m.length→v = .slice bs l.length cap →
   ∃ (c':Cx) (v':Value),(Builtin.append_ #[t0,t1] ty #[v,x]).run P c.w = .ok v' c'.w∧c'.heap=c.heap.set b (.arr (g+1) ts (l++m))∧aK G c'∧VR c' (.own b (g+1)) v'∧Step c c':=by
  intro nW cap bs hold Na Nb iH Nc;subst Nc;have hr:=MX h0 h1 lk hi hz Nb hs iH qf oR ty;have aC:=grownCap_ge c.w (l.length+m.length) cap ts.1;have hle:=grownCap_le_maxLen c.w (l.length+m.length) cap ts.1 (lp qf);generalize grownCap c.w (l.length+m.length) cap ts.1=nc at hr aC hle
  let cells:Array Value:=nW.toArray++news.toArray++Builtin.zeroCells z.cells (nc - (l.length+m.length))
  have hw:(c.w.drew.alloc (.cells cells ts.1)).heap[c.w.heap.size]? = some (.cells cells ts.1 (0,0)):=heap_alloc_new c.w.drew _;obtain ⟨k1,k2⟩:=aO.iv (l':=l++m) hb (w:=c.w.drew.alloc (.cells cells ts.1)) (some (c.w.heap.size,nc)) rfl rfl rfl (by simp) (fun k hk _=>Below.heap_alloc c.w.drew _ k hk) (fun k n e=>by cases e; exact ⟨by simp,fun h=>by omega⟩);refine ⟨_,_,hr,rfl,k2 ⟨F1,.inr ⟨c.w.heap.size,nc,cells,rfl,hw,?_,by simpa using aC,hle,?_⟩⟩,?_,k1⟩
  ·simp only [cells,Array.size_append,List.size_toArray,size_zeroCells,iq,Na,tM,vZ,fA,← Nat.add_mul]
   congr 1
   omega
  ·have:=jP.append (c:=c) (l:=l) (m:=m) (vs:=nW) (news:=news) (tail:=(Builtin.zeroCells z.cells (nc - (l.length+m.length))).toList) q1 hold (by omega) hs.one tM hn;rw [List.take_of_length_le (by omega)] at this;have:=this.step k1
   simpa [cells] using this
  ·have:=VR.own (c:=c.iv b (g+1) ts (l++m) (some (c.w.heap.size,nc)) (c.w.drew.alloc (.cells cells ts.1))) b (g+1) ts (l++m) c.w.heap.size nc (lq _ _) (BP _ _);rw [List.length_append] at this;exact this
 rcases ln hb hv with ⟨blk,cap,r1,rfl⟩ | ⟨rfl,rfl,r1⟩
 ·rcases q2 with ⟨q2,-⟩ | ⟨iK,il,vs,q2,q3,q4,q5,q6,q7⟩
  ·rw [r1] at q2; cases q2
  rw [r1] at q2; cases q2;have rP:=jP.M4 q0 q1 q7;have eF:l.length*ts.2≤vs.size:=by rw [q4]; exact Nat.mul_le_mul_right _ q5
  by_cases rO:l.length+m.length≤cap
  ·have gz:l.length*i.size+news.length≤vs.size:=by
    rw [tM,vZ,fA,q4,← Nat.add_mul];exact Nat.mul_le_mul_right _ rO
   have hr:=MV h0 h1 lk hi q3 hs rO gz ty;obtain ⟨e1,e2,e3,e4⟩:=yH blk news (l.length*i.size) c.w;obtain ⟨k1,k2⟩:=aO.iv (l':=l++m) hb (w:=c.w.setCells blk (l.length*i.size) news) (some (blk,cap)) e1 e2 e3 (Nat.le_of_eq e4.symm) (fun k _ hk=>tz blk news _ c.w k (fun e=>hk cap (by rw [e]; exact r1))) (fun k n e=>by cases e; exact ⟨by rw [e4]; exact (aO.br b blk cap r1).1,fun _=>⟨cap,r1⟩⟩);refine ⟨_,_,hr,rfl,k2 ⟨F1,.inr ⟨blk,cap,(cV vs.toList (l.length*i.size) news).toArray,rfl,yI blk ts.1 (0,0) news _ c.w vs q3,by simp [vI,q4],by simpa using rO,q6,?_⟩⟩,?_,k1⟩
   ·have:=jP.append (c:=c) (l:=l) (m:=m) (vs:=vs.toList) (news:=news) (tail:=vs.toList.drop (l.length*ts.2+news.length)) q1 rP (by simpa using eF) hs.one tM hn;have:=this.step k1;show jP _ (l++m) (cV vs.toList (l.length*i.size) news);rw [M' (by simp; exact gz)];rw [← fA] at this;exact this
   ·have:=VR.own (c:=c.iv b (g+1) ts (l++m) (some (blk,cap)) (c.w.setCells blk (l.length*i.size) news)) b (g+1) ts (l++m) blk cap (lq _ _) (BP _ _);rw [List.length_append] at this;exact this
  ·have bF:=ku q3;refine grown (vs.toList.take (l.length*ts.2)) cap (some ⟨blk,0,none⟩) (fun idx y hy=>?_) (by simp; omega) (fun d=>?_) (by omega) rfl
   ·obtain ⟨u,g1,g2⟩:=rP idx y hy;have aj:=aR hy;rw [mf q1] at aj;exact ⟨u,by rw [List.getElem?_take,if_pos aj]; exact g1,g2⟩
   ·have:=run_loadCells_list (P:=P) { c.w with drawn:=d } ⟨blk,0,none⟩ (vs.toList.take (l.length*ts.2)) (fun j u hu=>by
     rw [List.getElem?_take] at hu;split at hu
     ·rw [mb]; exact bF j u hu
     ·cases hu)
    have hlen:(vs.toList.take (l.length*ts.2)).length=l.length*i.size:=by simp; rw [fA]; omega
    rw [hlen] at this;exact this
 ·by_cases Nd:m.length=0
  ·obtain rfl:m=[]:=List.eq_nil_of_length_eq_zero Nd;have oT:news=[]:=List.eq_nil_of_length_eq_zero (by rw [hs.size]; simp);subst oT;have hr:=MW (b:=none) (n:=0) (cap:=0) h0 h1 lk hi hs (Nat.le_refl _) ty;obtain ⟨k1,k2⟩:=aO.iv (l':=[]++[]) hb (w:=c.w) none rfl rfl rfl (Nat.le_refl _) (fun k _ _=>rfl) (fun k n e=>by cases e);exact ⟨c.iv b (g+1) ts ([]++[]) none c.w,.slice none 0 0,hr,rfl,k2 ⟨fun i e he=>by simp at he,.inl ⟨rfl,rfl⟩⟩,.gy b (g+1) ts (lq _ _) (BP _ _),k1⟩
  ·exact grown [] 0 none (fun idx y hy=>by simp [flat] at hy) (by simp) (fun d=>by simp [Builtin.firstCells]) (by simp; omega) rfl
theorem aK.tN (aO:aK G c) (ts:Nat × Nat) (gU:0<ts.2):let c':Cx:={ c with heap:=c.heap++[.arr 0 ts []] }
  aK G c'∧Step c c'∧c'.heap[c.heap.length]? = some (.arr 0 ts [])∧VR c' (.own c.heap.length 0) (.slice none 0 0):=by
 intro c';have bL:c.own c.heap.length=none:=by
  cases ho:c.own c.heap.length with
  |none=>rfl
  |some p=>have:=(aO.br _ p.1 p.2 ho).2; omega
 have bc:Step c c':=⟨rfl,aO.bN,rfl,rfl,rfl,Nat.le_refl _,fun _ _ _=>rfl,fun i b n hi _=>⟨n,hi⟩,fun i bx hi=>by
  have h':c'.heap[i]? = some bx:=by show (c.heap++_)[i]? = _; rw [List.getElem?_append_left (aR hi)]; exact hi
  cases bx with
  |cells cs=>exact .inl ⟨cs,h',rfl,rfl⟩
  |arr g sz l=>exact .inl ⟨g,l,h',.inr ⟨rfl,rfl,rfl⟩⟩
  |map es=>exact .inl ⟨es,h',rfl⟩
  |gone=>exact h'
  |hole=>exact ⟨_,h'⟩⟩
 have gV:c'.heap[c.heap.length]? = some (.arr 0 ts []):=by show (c.heap++_)[_]? = _; simp
 refine ⟨aO.next bc (fun i b n hi=>⟨(aO.br i b n hi).1,by have:=(aO.br i b n hi).2; show i<(c.heap++_).length; simp; omega⟩) aO.inj (fun i bx hi=>?_),bc,gV,.gy _ _ ts gV bL⟩;by_cases fL:i=c.heap.length
 ·subst fL;rw [gV] at hi;cases hi;exact .inr ⟨gU,fun i e he=>by simp at he,.inl ⟨bL,rfl⟩⟩
 ·have aj:i<c.heap.length:=by
   have:=aR hi;have h2:c'.heap.length=c.heap.length+1:=by show (c.heap++_).length=_; simp
   omega
  have bY:(c.heap++[.arr 0 ts []])[i]? = some bx:=hi;rw [List.getElem?_append_left aj] at bY;exact .inl ⟨bY,rfl,fun _ _ _=>rfl⟩
theorem F2 {o:Oper} {ac:Act} {w w':World} {args:Array Operand} {ts:Array TypeId} {x y:Operand} {t0 t1:Nat} {v v0 v1:Value} (h1:o.op = .call { callee := .builtin .append,args:=args,argTypes:=ts }) (hx:args.toList=[x,y]) (ht:ts.toList=[t0,t1]) (e0:ac.eval x=v0) (e1:ac.eval y=v1)
  (hr:(Builtin.append_ #[t0,t1] o.type #[v0,v1]).run P w = .ok v w'):(execOp ac.eval o).run P w = .ok (.value v) w':=by
 have ha:args.map ac.eval = #[v0,v1]:=by
  apply Array.ext';rw [Array.toList_map,hx];simp [e0,e1]
 have gU:ts = #[t0,t1]:=by apply Array.ext'; rw [ht]
 simp only [execOp,h1,resolve,ha,gU,Sem.run_bind,Sem.run_pure,Result.andThen_ok,invoke,builtin,hr]
theorem F3 (hE:E.OK) {args:Array Operand} {rQ:Array TypeId} {x y:Operand} {t0 t1 e:Nat} {i0 i1 ei:bp} (hx:args.toList=[x,y]) (yT:rQ.toList=[t0,t1]) (jN:E.T[t0]? = some i0) (tO:E.T[t1]? = some i1) (cH:i0.k = .slice e) (cR:∀ k,i1.k ≠ .int k) (bR:E.T[e]? = some ei)
  (hz:ei.zero.length=ei.size) (cC:0<ei.size) (oR:ei.bytes≤65536) {bv:AV} (hy:aY E.G s y bv) {m:List DV} (hm:∀ e∈m,e.cells.length=ei.size)
  (tP:∀ (c:Cx) (v:Value),VR c bv v→∃ news:List Value,Src E.P ei.size c.w v m.length news∧(∀ (j:Nat) (y:DV) (v:Value),(flat m)[j]? = some y→news[j]? = some v→VD c.bad c.w y v))
  {a:AV} (ha:aY E.G s x a) {r:AV} {h':List ae}
  (BQ:(∃ b g ts l,a = .own b g∧h[b]? = some (.arr g ts l)∧ts.1=e∧ts.2=ei.size∧l.length+m.length≤2147483648∧r = .own b (g+1)∧h'=h.set b (.arr (g+1) ts (l++m)))∨(a = .d .aH∧m.length≤2147483648∧r = .own h.length 1∧h'=h++[.arr 1 (e,ei.size) m])) :
  bC E (.call { callee := .builtin .append,args:=args,argTypes:=rQ }) s h r h':=fun o c ac h1 h2 h3 h4=>by
 subst h2;obtain ⟨yJ,d0,g1,g2,g3,-⟩:=cj (hE.types _ _ jN);obtain rfl:=kv (cH.symm.trans g3);obtain ⟨Xn,d1,k1,k2,k3,-⟩:=cj (hE.types _ _ tO);obtain ⟨ti,z,q1,q2,q3,q4⟩:=zeroOf (hE.types _ _ bR) hz cC;obtain ⟨vQ,d',p1,p2,p3,p4,p5,-⟩:=cj (hE.types _ _ bR);rw [q1] at p1; cases p1;have lk:∀ k,d1 ≠ .int k:=fun k e=>cR k (by rw [k3,e]; rfl);have iq:z.cells.size=ti.size:=by
  obtain ⟨vs,e1,e2⟩:=q4 c;rw [e1];have:=e2.1;simp at this;simp [← this,hz,q3]
 rcases BQ with ⟨b,g,ts,l,rfl,hb,rfl,F4,qf,rfl,rfl⟩ | ⟨rfl,qf,rfl,rfl⟩
 ·obtain ⟨news,hs,hn⟩:=tP c _ (hy c ac h3 h4);rw [q3] at hs;obtain ⟨c',v',r1,r2,r3,r4,r5⟩:=F0 h3 g2 k2 lk q1 q2 iq (by rw [← q3]; exact F4.symm) (by rw [← p5]; exact oR) hb (ha c ac h3 h4) hs hn (fun e he=>by rw [F4]; exact hm e he) qf o.type;exact ⟨c',v',.inl (F2 h1 hx yT rfl rfl r1),r2,r3,r4,r5⟩
 ·obtain ⟨w1,w2,w3,w4⟩:=h3.tN (e,ei.size) cC;have mo:=w2.vr (hy c ac h3 h4);obtain ⟨news,hs,hn⟩:=tP _ _ mo;rw [q3] at hs;have cx:ac.eval x = .slice none 0 0:=by
   have:=ha c ac h3 h4;generalize ac.eval x=u at this;cases this with
   |d _ _ hd=>cases hd; rfl
  obtain ⟨c',v',r1,r2,r3,r4,r5⟩:=F0 (ts:=(e,ei.size)) w1 g2 k2 lk q1 q2 iq q3.symm (by rw [← p5]; exact oR) w3 w4 hs hn hm (by simpa using qf) o.type;refine ⟨c',v',.inl (F2 h1 hx yT cx rfl r1),?_,r3,r4,w2.trans r5⟩;rw [r2];simp
theorem F5 (hE:E.OK) {t e:Nat} {n cc:Operand} {i ei:bp} (hi:E.T[t]? = some i) (hk:i.k = .slice e) (bR:E.T[e]? = some ei) (hz:ei.zero.length=ei.size) (cC:0<ei.size) (oR:ei.bytes≤65536) (eM:∀ y∈ei.zero,y.er=true) {j j':IntKind} {a b:Int} (hn:aY E.G s n (.d (.int j a))) (hc:aY E.G s cc (.d (.int j' b)))
  (ha:0≤a) (nZ:a≤b) (hb:b≤2147483648) {zd:DV} (F6:zd.cells=ei.zero):bC E (.makeSlice t n cc) s h (.own h.length 0) (h++[.arr 0 (e,ei.size) (List.replicate a.toNat zd)]):=fun o c ac h1 h2 h3 h4=>by
 subst h2;obtain ⟨yJ,d0,g1,g2,g3,-⟩:=cj (hE.types _ _ hi);obtain rfl:=kv (hk.symm.trans g3);obtain ⟨ti,z,q1,q2,q3,q4⟩:=zeroOf (hE.types _ _ bR) hz cC;obtain ⟨vQ,d',p1,p2,p3,p4,p5,-⟩:=cj (hE.types _ _ bR);rw [q1] at p1; cases p1;obtain ⟨zs,iq,gP⟩:=q4 c;have ky:zs.length=ei.size:=by rw [← gP.1]; simpa using hz
 have Nf:(ti.bytes:Int)*b≤281474976710656:=by
  have h5:(ti.bytes:Int)≤65536:=by rw [← p5]; omega
  calc (ti.bytes:Int)*b≤65536*2147483648:=Int.mul_le_mul h5 hb (by omega) (by omega)
   _≤281474976710656:=by decide
 have hr:=run_make (P:=E.P) c.w t e ti z g2 q1 q2 j j' a b ha nZ Nf (by omega);have e1:=dQ (hn c ac h3 h4);have e2:=dQ (hc c ac h3 h4);obtain ⟨k1,k2⟩:=h3.add (.arr 0 (e,ei.size) (List.replicate a.toNat zd)) b.toNat (.cells (madeCells z.cells (b.toNat*ti.size)) e);have dx:gE ei.size (List.replicate a.toNat zd):=fun i e he=>by
  rw [List.getElem?_replicate] at he;split at he
  ·cases he; rw [F6,hz]
  ·cases he
 have bA:(c.add (.arr 0 (e,ei.size) (List.replicate a.toNat zd)) b.toNat (.cells (madeCells z.cells (b.toNat*ti.size)) e)).own c.heap.length=some (c.w.heap.size,b.toNat):=by simp [Cx.add]
 have lq:(c.add (.arr 0 (e,ei.size) (List.replicate a.toNat zd)) b.toNat (.cells (madeCells z.cells (b.toNat*ti.size)) e)).heap[c.heap.length]? = some (.arr 0 (e,ei.size) (List.replicate a.toNat zd)):=by simp [Cx.add]
 refine ⟨_,.slice (some ⟨c.w.heap.size,0,none⟩) a.toNat b.toNat,.inl ?_,rfl,k2 ⟨cC,dx,.inr ⟨c.w.heap.size,b.toNat,madeCells z.cells (b.toNat*ti.size),bA,heap_alloc_new _ _,by rw [size_madeCells,q3],by simp; omega,lp (by omega),?_⟩⟩,?_,k1⟩
 ·simp only [execOp,h1,e1,e2,Sem.run_bind,hr,Result.andThen_ok,Sem.run_pure];rfl
 ·intro i' j2 e' x he hx;have iO:j2<ei.size:=by rw [← dx i' e' he]; exact aR hx
  rw [List.getElem?_replicate] at he;split at he
  ·rename_i aj;cases he;rw [F6] at hx;have nX:i'*ei.size+j2<b.toNat*ti.size:=by
    rw [← q3];have:(i'+1)*ei.size≤b.toNat*ei.size:=Nat.mul_le_mul_right _ (by omega);rw [Nat.add_mul,Nat.one_mul] at this;omega
   have nY:(i'*ei.size+j2) % ei.size=j2:=by rw [Nat.mul_comm,Nat.mul_add_mod,Nat.mod_eq_of_lt iO]
   have bK:(madeCells z.cells (b.toNat*ti.size))[i'*ei.size+j2]? = some (zs[j2]'(by omega)):=by
    simp [madeCells,nX,iq,ky,nY,iO]
   have eH:=gP.nQ j2 x (zs[j2]'(by omega)) hx (by simp [ky,iO]);exact ⟨_,bK,vH eH (eM x (List.mem_of_getElem? hx)),k1.vd eH⟩
  ·cases he
 ·have:=VR.own (c:=c.add (.arr 0 (e,ei.size) (List.replicate a.toNat zd)) b.toNat (.cells (madeCells z.cells (b.toNat*ti.size)) e)) c.heap.length 0 (e,ei.size) _ c.w.heap.size b.toNat lq bA;rw [List.length_replicate] at this;exact this
theorem Ng (hE:E.OK) {o:Op} {stop:Prop} {k:AV→List ae→Prop} (H:rN E.T E.G o s h stop k):stop∨∃ v h',k v h'∧bC E o s h v h':=by
 unfold rN at H;split at H
 ·rename_i args rQ;rcases FW H with h | ⟨x,y,hx,H⟩
  ·exact .inl h
  rcases FW H with h | ⟨t0,t1,ht,H⟩
  ·exact .inl h
  rcases a7 H with h | ⟨i0,jN,H⟩
  ·exact .inl h
  rcases a7 H with h | ⟨i1,tO,H⟩
  ·exact .inl h
  split at H
  ·rename_i e cH;rcases a7 H with h | ⟨ei,bR,H⟩
   ·exact .inl h
   split at H
   ·rename_i q1 q2 q3;rcases b8 H with h | ⟨a,ha,H⟩
    ·exact .inl h
    rcases b8 H with h | ⟨b,hb,H⟩
    ·exact .inl h
    have fin:∀ (m:List DV),(∀ k,i1.k ≠ .int k)→((∀ e∈m,e.cells.length=ei.size)→∀ (c:Cx) (v:Value),VR c b v→∃ news:List Value,Src E.P ei.size c.w v m.length news∧(∀ (j:Nat) (y:DV) (v:Value),(flat m)[j]? = some y→news[j]? = some v→VD c.bad c.w y v)) →
      yR e ei h a m stop k→stop∨∃ v h',k v h'∧bC E (.call { callee := .builtin .append,args:=args,argTypes:=rQ }) s h v h':=by
     intro m cR tP H;have gen:=fun {r h'} (hm:∀ e∈m,e.cells.length=ei.size) BQ=>F3 (h:=h) (r:=r) (h':=h') hE hx ht jN tO cH cR bR (Nat.eq_of_beq_eq_true q1) (gF q2) (Nat.le_of_ble_eq_true q3) hb hm (tP hm) ha BQ;unfold yR at H;split at H
     ·obtain ⟨⟨h1,h2⟩,H⟩:=lj H;rw [pU,Nat.zero_add] at H;exact .inr ⟨_,_,H,gen h2 (.inr ⟨rfl,h1,rfl,rfl⟩)⟩
     ·rcases a7 H with h | ⟨bx,gN,H⟩
      ·exact .inl h
      split at H
      ·split at H
       ·rename_i p1 p2 p3;have p1:=Nat.eq_of_beq_eq_true p1;subst p1;obtain ⟨⟨h1,h2⟩,H⟩:=lj H;rw [fY] at H;exact .inr ⟨_,_,H,gen h2 (.inl ⟨_,_,_,_,rfl,gN,Nat.eq_of_beq_eq_true p2,Nat.eq_of_beq_eq_true p3,h1,rfl,rfl⟩)⟩
       ·exact .inl H
      ·exact .inl H
     ·exact .inl H
    split at H
    ·rename_i e' m cR;exact fin m (fun k hk=>by rw [cR] at hk; cases hk) (fun hm c v hv=>by cases hv with | d _ _ hv=>exact FY (gF q2) hm hv) H
    ·rename_i z cR;split at H
     ·refine fin (z.map mn) (fun k hk=>by rw [cR] at hk; cases hk) (fun hm c v hv=>?_) H;have eL:=nP hv;subst eL;by_cases hz:z=[]
      ·subst hz;exact ⟨[],⟨fun _=>by simp [Builtin.lenOf,ByteArray.size],fun d=>by simp [Builtin.firstCells],fun v hv=>by simp at hv,by simp⟩,fun j y v hy=>by simp [flat] at hy⟩
      ·obtain ⟨b0,r,hr⟩:=List.exists_cons_of_ne_nil hz;have h1:1=ei.size:=hm (mn b0) (by rw [hr]; simp);rw [← h1];exact ⟨_,FZ.1,(FZ (P:=E.P)).2⟩
     ·exact .inl H
    ·exact .inl H
   ·exact .inl H
  ·exact .inl H
 ·rcases a7 H with h | ⟨i,hi,H⟩
  ·exact .inl h
  split at H
  ·rename_i e hk;rcases a7 H with h | ⟨ei,bR,H⟩
   ·exact .inl h
   split at H
   ·rename_i q1 q2 q3 q4;rcases b8 H with h | ⟨a,ha,H⟩
    ·exact .inl h
    split at H
    ·rcases b8 H with h | ⟨b,hb,H⟩
     ·exact .inl h
     split at H
     ·split at H
      ·rename_i z jL;obtain ⟨⟨h1,h2,h3⟩,H⟩:=lj H;rw [pU,Nat.zero_add] at H;have iq:z.er=true:=by rw [jL] at q4; simpa using q4
       exact .inr ⟨_,_,H,F5 hE hi hk bR (Nat.eq_of_beq_eq_true q1) (gF q2) (Nat.le_of_ble_eq_true q3) (fun y hy=>List.all_eq_true.1 q4 y hy) ha hb h1 h2 h3 (zd:=z) (by rw [jL]; cases z <;> first | rfl | cases iq)⟩
      ·obtain ⟨⟨h1,h2,h3⟩,H⟩:=lj H;rw [pU,Nat.zero_add] at H;exact .inr ⟨_,_,H,F5 hE hi hk bR (Nat.eq_of_beq_eq_true q1) (gF q2) (Nat.le_of_ble_eq_true q3) (fun y hy=>List.all_eq_true.1 q4 y hy) ha hb h1 h2 h3 rfl⟩
     ·exact .inl H
    ·exact .inl H
   ·exact .inl H
  ·exact .inl H
 ·exact .inl H
end
end Go.aw
end
section
namespace Go.aw
open Go Go.RowKit
@[irreducible] def qh (l : List DV) (sz : Nat) (n : Int) (K : DV → Prop) : Prop := ∃ e, 0 ≤ n ∧ l[n.toNat]? = some e ∧ e.cells.length = sz ∧ K e
theorem ev {l:List DV} {sz:Nat} {n:Int} {K:DV→Prop} (e:DV) (h0:0≤n) (he:l[n.toNat]? = some e) (hs:e.cells.length=sz) (k:K e):qh l sz n K:=by unfold qh; exact ⟨e,h0,he,hs,k⟩
theorem BR {l:List DV} {sz:Nat} {n:Int} {K:DV→Prop} (h:qh l sz n K):∃ e,0≤n∧l[n.toNat]? = some e∧e.cells.length=sz∧K e:=by unfold qh at h; exact h
@[irreducible] def v7 (s : List UInt8) (n : Int) (K : UInt8 → Prop) : Prop := ∃ b, 0 ≤ n ∧ s[n.toNat]? = some b ∧ K b
theorem jt {s:List UInt8} {n:Int} {K:UInt8→Prop} (b:UInt8) (h0:0≤n) (hb:s[n.toNat]? = some b) (k:K b):v7 s n K:=by unfold v7; exact ⟨b,h0,hb,k⟩
theorem Nh {s:List UInt8} {n:Int} {K:UInt8→Prop} (h:v7 s n K):∃ b,0≤n∧s[n.toNat]? = some b∧K b:=by unfold v7 at h; exact h
@[irreducible] def v8 (c : List DV) (len sz : Nat) (n : Int) (K : DV → Prop) : Prop := ∃ e, 0 ≤ n ∧ n < len ∧ 0 < sz ∧ (c.drop (n.toNat * sz)).take sz = e.cells ∧ e.cells.length = sz ∧ K e
theorem Ni {c:List DV} {len sz:Nat} {n:Int} {K:DV→Prop} (e:DV) (h0:0≤n) (h1:n<len) (hz:0<sz) (he:(c.drop (n.toNat*sz)).take sz=e.cells) (hs:e.cells.length=sz) (k:K e):v8 c len sz n K:=by unfold v8; exact ⟨e,h0,h1,hz,he,hs,k⟩
theorem Nj {c:List DV} {len sz:Nat} {n:Int} {K:DV→Prop} (h:v8 c len sz n K):∃ e,0≤n∧n<len∧0<sz∧(c.drop (n.toNat*sz)).take sz=e.cells∧e.cells.length=sz∧K e:=by unfold v8 at h; exact h
def yU (G:List (Nat × DV)) (s:List AV) (x:Option Operand) (stop:Prop) (k:Option Int→Prop):Prop :=
 match x with
 |none=>k none
 |some x=>bW G s x stop fun
  | .d (.int _ n)=>k (some n)
  |_=>stop
def yV (e:DV) (off:Nat) (ds:List DV) (stop:Prop) (k:DV→Prop):Prop :=
 match e with
 | .agg c=>match Nat.ble (off+ds.length) c.length with
  |true=>tq c off ds fun c'=>k (.agg c')
  |false=>stop
 |_=>match off,ds with
  | 0,[d]=>match d.er with
   |true=>k d
   |false=>stop
  |_,_=>stop
def BS (e:DV) (off:Nat) (vs:List AV) (stop:Prop) (k:DV→Prop):Prop:=oK vs stop fun ds=>yV e off ds stop k
def oU (T:List bp) (G:List (Nat × DV)) (o:Op) (s:List AV) (h:List ae) (stop:Prop) (k:AV→List ae→Prop):Prop :=
 match o with
 | .indexAddr t x i=>aM T t stop fun ti=>bW G s x stop fun a=>bW G s i stop fun
  | .d (.int _ n)=>match ti.k with
   | .slice e=>aM T e stop fun ei=>match a with
    | .d (.sl l)=>match Nat.blt 0 ei.size with
     |true=>qh l ei.size n fun e=>k (.bE e 0) h
     |false=>stop
    | .own b g=>aM h b stop fun
     | .arr g' ts l=>match Nat.beq g g',Nat.beq ts.2 ei.size with
      |true,true=>need (0≤n∧n<l.length) (k (.cB b g n.toNat 0) h)
      |_,_=>stop
     |_=>stop
    |_=>stop
   | .array len e=>aM T e stop fun ei=>match a with
    | .bE (.agg c) 0=>v8 c len ei.size n fun e'=>k (.bE e' 0) h
    |_=>stop
   |_=>stop
  |_=>stop
 | .index t x i=>aM T t stop fun ti=>bW G s x stop fun a=>bW G s i stop fun
  | .d (.int _ n)=>match ti.k,a with
   | .string,.d (.str l)=>v7 l n fun b=>k (.d (.int .u8 b.toNat)) h
   |_,_=>stop
  |_=>stop
 | .slice t x lo hi none=>aM T t stop fun ti=>bW G s x stop fun a=>yU G s lo stop fun l=>yU G s hi stop fun u=>match ti.k,a with
  | .string,.d (.str z)=>need (0≤l.getD 0∧l.getD 0≤u.getD z.length∧u.getD z.length≤z.length) (k (.d (.str ((z.take (u.getD z.length).toNat).drop (l.getD 0).toNat))) h)
  | .slice e,.d (.sl z)=>aM T e stop fun ei=>need (0≤l.getD 0∧l.getD 0≤u.getD z.length∧u.getD z.length≤z.length∧∀ e∈z,e.cells.length=ei.size) (k (.d (.sl ((z.take (u.getD z.length).toNat).drop (l.getD 0).toNat))) h)
  |_,_=>stop
 | .load t x=>aM T t stop fun ti=>bW G s x stop fun
  | .cB b g i off=>aM h b stop fun
   | .arr g' ts l=>match Nat.beq g g' with
    |true=>qh l ts.2 i fun e=>match e with
     | .agg c=>mU .d c fun c'=>jK ti c' off stop fun v=>k v h
     |e=>jK ti [.d e] off stop fun v=>k v h
    |false=>stop
   |_=>stop
  |_=>stop
 | .store t x y=>aM T t stop fun ti=>bW G s y stop fun v=>bW G s x stop fun
  | .cB b g i off=>aM h b stop fun
   | .arr g' ts l=>match Nat.beq g g' with
    |true=>tu v stop fun vs=>match Nat.beq vs.length ti.size,vs.all AV.er with
     |true,true=>qh l ts.2 i fun e=>BS e off vs stop fun e'=>fy h b (.arr g ts (l.set i e')) fun h'=>k (.d .undef) h'
     |_,_=>stop
    |false=>stop
   |_=>stop
  |_=>stop
 |o=>rN T G o s h stop k
section
variable {E:Env} {s:List AV} {h:List ae} {c:Cx}
theorem BT {P:Program} {t e:Nat} {i ei:bp} (ht:eb P t=some i) (Nk:eb P e=some ei) (hk:i.k = .slice e) {j:IntKind} {n:Int} {b o len cap:Nat} {w:World} (h0:0≤n) (h1:n<len) :
  (Instr.indexAt t (.slice (some ⟨b,o,none⟩) len cap) (.int j n)).run P w = .ok (.pointer (some ⟨b,o+n.toNat*ei.size,none⟩)) w:=by
 obtain ⟨ti,d,g1,g2,g3,-⟩:=cj ht;obtain rfl:=kv (hk.symm.trans g3);simp only [Instr.indexAt,asIntOf,Sem.run_bind,Sem.run_pure,Result.andThen_ok,run_underlying g2,h0,h1,and_self,if_true,run_sizeOf Nk,mb]
theorem wa {P:Program} {o:Oper} {ac:Act} {w:World} {t:Nat} {x i:Operand} {v:Value} (h1:o.op = .indexAddr t x i) (hr:(Instr.indexAt t (ac.eval x) (ac.eval i)).run P w = .ok v w):(execOp ac.eval o).run P w = .ok (.value v) w:=by
 simp only [execOp,h1,Sem.run_bind,hr,Result.andThen_ok,Sem.run_pure]
theorem Nl {l:List DV} {v:Value} (hv:VR c (.d (.sl l)) v) {n sz:Nat} {e:DV} (he:l[n]? = some e) (hs:e.cells.length=sz) (cC:0<sz):∃ blk off cap,v = .slice (some ⟨blk,off,none⟩) l.length cap∧VR c (.bE e 0) (.pointer (some ⟨blk,off+n*sz,none⟩)):=by
 cases hv with
 |d _ _ hd=>cases hd with
  |slnil=>simp at he
  |jJ=>simp at he
  |sl _ blk off cap cL f hb bQ iH hlen cZ bK bX =>
   obtain rfl:cL=sz:=(hlen n e he).symm.trans hs;refine ⟨blk,off,cap,rfl,?_⟩;have aJ:l≠[]:=fun h0=>by subst h0; simp at he
   have:=VR.bE (c:=c) e 0 blk (off+n*cL) (fun j=>f n j) (hb aJ) (fun h0=>by rw [h0] at hs; simp at hs; omega) (fun j x hx=>by rw [Nat.add_assoc]; exact cZ n j e x he hx) (fun j x hx=>bK n j e x he hx);exact this
theorem Nn (hE:E.OK) {t e:Nat} {x i:Operand} {ti ei:bp} (bP:E.T[t]? = some ti) (bR:E.T[e]? = some ei) (hk:ti.k = .slice e) {l:List DV} {j:IntKind} {n:Int} (hx:aY E.G s x (.d (.sl l))) (hi:aY E.G s i (.d (.int j n))) (cC:0<ei.size) {y:DV} (h0:0≤n) (hy:l[n.toNat]? = some y) (hs:y.cells.length=ei.size) :
  bC E (.indexAddr t x i) s h (.bE y 0) h := .quiet fun o c ac h1 _ h3 h4=>by
 obtain ⟨blk,off,cap,e1,e2⟩:=Nl (hx c ac h3 h4) hy hs cC;refine ⟨_,wa h1 ?_,e2⟩;rw [e1,dQ (hi c ac h3 h4)];have:=aR hy;exact BT (hE.types t ti bP) (hE.types e ei bR) hk h0 (by omega)
theorem F7 {b g i off:Nat} {ts:Nat × Nat} {l:List DV} (hb:c.heap[b]? = some (.arr g ts l)) {v:Value} (hv:VR c (.cB b g i off) v):∃ blk cap,c.own b=some (blk,cap)∧v = .pointer (some ⟨blk,i*ts.2+off,none⟩)∧i<l.length:=by
 cases hv with
 |cB _ _ _ _ _ l' blk cap k1 k2 k3=>rw [hb] at k1; cases k1; exact ⟨blk,cap,k2,rfl,k3⟩
 |kp _ _ g' _ _ _ _ _ k1 k2 _=>rw [hb] at k1; cases k1; omega
 |kq _ _ _ _ _ k1 _=>rw [hb] at k1; cases k1
theorem No (hE:E.OK) {t e:Nat} {x i:Operand} {ti ei:bp} (bP:E.T[t]? = some ti) (bR:E.T[e]? = some ei) (hk:ti.k = .slice e) {b g:Nat} {ts:Nat × Nat} {l:List DV} (hb:h[b]? = some (.arr g ts l)) (gU:ts.2=ei.size) {j:IntKind} {n:Int} (hx:aY E.G s x (.own b g)) (hi:aY E.G s i (.d (.int j n))) (h0:0≤n) (h1:n<l.length) :
  bC E (.indexAddr t x i) s h (.cB b g n.toNat 0) h := .quiet fun o c ac e1 e2 h3 h4=>by
 subst e2;rcases ln hb (hx c ac h3 h4) with ⟨blk,cap,q1,q2⟩ | ⟨rfl,-,-⟩
 ·refine ⟨_,wa e1 (v := .pointer (some ⟨blk,0+n.toNat*ei.size,none⟩)) ?_,?_⟩
  ·rw [q2,dQ (hi c ac h3 h4)];exact BT (hE.types t ti bP) (hE.types e ei bR) hk h0 h1
  ·have:=VR.cB (c:=c) b g n.toNat 0 ts l blk cap hb q1 (by omega);rw [gU] at this
   simpa using this
 ·simp at h1; omega
theorem Np (hE:E.OK) {t e len:Nat} {x i:Operand} {ti ei:bp} (bP:E.T[t]? = some ti) (bR:E.T[e]? = some ei) (hk:ti.k = .array len e) {cs:List DV} {j:IntKind} {n:Int} (hx:aY E.G s x (.bE (.agg cs) 0)) (hi:aY E.G s i (.d (.int j n))) {y:DV} (h0:0≤n) (h1:n<len) (cC:0<ei.size) (hy:(cs.drop (n.toNat*ei.size)).take ei.size=y.cells) (hs:y.cells.length=ei.size) :
  bC E (.indexAddr t x i) s h (.bE y 0) h := .quiet fun o c ac e1 _ h3 h4=>by
 obtain ⟨lr,d,g1,g2,g3,-⟩:=cj (hE.types t ti bP);obtain rfl:=vJ (hk.symm.trans g3);have key:∀ p,VR c (.bE (.agg cs) 0) p→∃ blk o',p = .pointer (some ⟨blk,o',none⟩)∧VR c (.bE y 0) (.pointer (some ⟨blk,o'+n.toNat*ei.size,none⟩)):=fun p hp=>by
  cases hp with
  |bE _ _ blk o' f k1 k2 k3 k4 =>
   have dX:∀ (jj:Nat) (z:DV),y.cells[jj]? = some z→cs[n.toNat*ei.size+jj]? = some z:=fun jj z hz=>by
    rw [← hy,List.getElem?_take] at hz;split at hz
    ·simpa using hz
    ·cases hz
   exact ⟨blk,o'+0,rfl,VR.bE y 0 blk (o'+0+n.toNat*ei.size) (fun jj=>f (n.toNat*ei.size+jj)) k1 (fun hh=>by rw [hh] at hs; simp at hs; omega) (fun jj z hz=>by rw [Nat.add_zero,Nat.add_assoc]; exact k3 _ z (dX jj z hz)) (fun jj z hz=>k4 _ z (dX jj z hz))⟩
 obtain ⟨blk,o',q1,q2⟩:=key _ (hx c ac h3 h4);refine ⟨_,wa e1 ?_,q2⟩;rw [q1,dQ (hi c ac h3 h4)];simp only [Instr.indexAt,asIntOf,Sem.run_bind,Sem.run_pure,Result.andThen_ok,run_underlying g2,Instr.sureAddr,h0,h1,and_self,if_true,run_sizeOf (hE.types e ei bR),mb]
theorem Nq (hE:E.OK) {t:Nat} {x i:Operand} {ti:bp} (bP:E.T[t]? = some ti) (hk:ti.k = .string) {l:List UInt8} {j:IntKind} {n:Int} (hx:aY E.G s x (.d (.str l))) (hi:aY E.G s i (.d (.int j n))) {b:UInt8} (h0:0≤n) (hb:l[n.toNat]? = some b) :
  bC E (.index t x i) s h (.d (.int .u8 b.toNat)) h := .quiet fun o c ac e1 _ h3 h4=>by
 obtain ⟨lr,d,g1,g2,g3,-⟩:=cj (hE.types t ti bP);obtain rfl:=pX (hk.symm.trans g3);have aj:=aR hb;have dX:(ByteArray.mk l.toArray)[n.toNat]? = some b:=by
  have hs:n.toNat<(ByteArray.mk l.toArray).size:=by simpa [ByteArray.size] using aj
  rw [getElem?_pos (ByteArray.mk l.toArray) n.toNat hs];have:=List.getElem?_eq_getElem aj;rw [hb] at this
  simpa [ByteArray.getElem_eq_getElem_data] using this.symm
 refine ⟨.int .u8 b.toNat,?_,.d _ _ (.int _ _)⟩;simp only [execOp,e1,nP (hx c ac h3 h4),dQ (hi c ac h3 h4),Instr.index,asIntOf,Sem.run_bind,Sem.run_pure,Result.andThen_ok,run_underlying g2,h0,if_true,dX]
def wb (G:List (Nat × DV)) (s:List AV) (x:Option Operand) (n:Option Int):Prop:=∀ (c:Cx) (a:Act),aK G c→VS c s a.tmps→match n with
 |none=>x.map a.eval=none
 |some n=>∃ j,x.map a.eval=some (.int j n)
theorem F8 {x:Option Operand} {stop:Prop} {k:Option Int→Prop} (H:yU E.G s x stop k):stop∨∃ n,wb E.G s x n∧k n:=by
 unfold yU at H;split at H
 ·exact .inr ⟨none,fun _ _ _ _=>rfl,H⟩
 ·rcases b8 H with h | ⟨v,hv,H⟩
  ·exact .inl h
  split at H
  ·rename_i j n;refine .inr ⟨some n,fun c a h1 h2=>?_,H⟩;show ∃ j,_=some (Value.int j n);exact ⟨j,by simp [dQ (hv c a h1 h2)]⟩
  ·exact .inl H
theorem F9 {P:Program} {w:World} {isSlice:Bool} {len cap:Nat} {lo hi:Option Value} {l u:Option Int} (hl:match l with | none=>lo=none | some n=>∃ j,lo=some (.int j n)) (hu:match u with | none=>hi=none | some n=>∃ j,hi=some (.int j n))
  (h0:0≤l.getD 0) (h1:l.getD 0≤u.getD len) (h2:u.getD len≤len) (hc:len≤cap) :
  (Instr.sliceBounds isSlice len cap lo hi none).run P w = .ok ((l.getD 0).toNat,(u.getD len).toNat,cap) w:=by
 cases l with
 |none =>
  simp only at hl;subst hl;cases u with
  |none =>
   simp only at hu;subst hu;simp only [Instr.sliceBounds,Sem.run_bind,Sem.run_pure,Result.andThen_ok,Option.getD_none,Int.toNat_natCast,Int.toNat_zero]
  |some n =>
   obtain ⟨j,rfl⟩:=hu;simp only [Option.getD_some,Option.getD_none] at h1 h2;simp only [Instr.sliceBounds,Sem.run_bind,Sem.run_pure,Result.andThen_ok,Option.getD_none,Option.getD_some,Int.toNat_zero,run_sliceBound w j n cap _ h1 (by omega)]
 |some m =>
  obtain ⟨i,rfl⟩:=hl;cases u with
  |none =>
   simp only at hu;subst hu;simp only [Option.getD_some,Option.getD_none] at h0 h1;simp only [Instr.sliceBounds,Sem.run_bind,Sem.run_pure,Result.andThen_ok,Option.getD_none,Option.getD_some,Int.toNat_natCast,run_sliceBound w i m len _ h0 h1]
  |some n =>
   obtain ⟨j,rfl⟩:=hu;simp only [Option.getD_some] at h0 h1 h2;simp only [Instr.sliceBounds,Sem.run_bind,Sem.run_pure,Result.andThen_ok,Option.getD_some,run_sliceBound w j n cap _ (by omega) (by omega),run_sliceBound w i m n.toNat _ h0 (by omega)]
theorem Nr (l:List UInt8) (a b:Nat):(ByteArray.mk l.toArray).extract a b=ByteArray.mk ((l.take b).drop a).toArray:=by
 apply ByteArray.ext;simp [List.extract_eq_take_drop,List.drop_take]
theorem Ns (hE:E.OK) {t:Nat} {x:Operand} {lo hi:Option Operand} {ti:bp} (bP:E.T[t]? = some ti) (hk:ti.k = .string) {z:List UInt8} {l u:Option Int} (hx:aY E.G s x (.d (.str z))) (hl:wb E.G s lo l) (hu:wb E.G s hi u)
  (h0:0≤l.getD 0) (h1:l.getD 0≤u.getD z.length) (h2:u.getD z.length≤z.length):bC E (.slice t x lo hi none) s h (.d (.str ((z.take (u.getD z.length).toNat).drop (l.getD 0).toNat))) h := .quiet fun o c ac e1 _ h3 h4=>by
 obtain ⟨lr,d,g1,g2,g3,-⟩:=cj (hE.types t ti bP);obtain rfl:=pX (hk.symm.trans g3);have bQ:(ByteArray.mk z.toArray).size=z.length:=by simp [ByteArray.size]
 have hb:=F9 (P:=E.P) (w:=c.w) (isSlice:=false) (len:=z.length) (cap:=z.length) (hl c ac h3 h4) (hu c ac h3 h4) h0 h1 h2 (Nat.le_refl _);refine ⟨_,?_,.d _ _ (.str _)⟩;simp only [execOp,e1,nP (hx c ac h3 h4),Instr.sliceAt,Instr.slice,Sem.run_bind,Sem.run_pure,Result.andThen_ok,run_underlying g2,Option.map_none,Option.isSome_none,Bool.false_eq_true,if_false,bQ,hb,Nr]
theorem F' {bad:Nat→Prop} {w:World} {z:List DV} {v:Value} (hv:VD bad w (.sl z) v) {lo hi sz:Nat} (h1:lo≤hi) (h2:hi≤z.length) (bQ:∀ e∈z,e.cells.length=sz):∃ a cap,v = .slice a z.length cap∧z.length≤cap∧VD bad w (.sl ((z.take hi).drop lo)) (.slice (if cap=lo then a else a.map (·.add (lo*sz))) (hi - lo) (cap - lo)):=by
 have hlen:((z.take hi).drop lo).length=hi - lo:=by simp; omega
 cases hv with
 |slnil =>
  simp at h2;subst h2;simp at h1;subst h1;exact ⟨none,0,rfl,Nat.le_refl _,by simpa using VD.slnil⟩
 |jJ a =>
  simp at h2;subst h2;simp at h1;subst h1;exact ⟨some a,0,rfl,Nat.le_refl _,by simpa using VD.jJ a⟩
 |sl _ blk off cap cL f hb yS iH jQ cZ bK bX =>
  refine ⟨some ⟨blk,off,none⟩,cap,rfl,iH,?_⟩;by_cases hc:cap=lo
  ·have:hi=lo:=by omega
   subst this;have e:(z.take hi).drop hi=[]:=by simp
   rw [e,if_pos hc,Nat.sub_self];exact .sl [] blk off (cap - hi) cL f (fun h=>absurd rfl h) yS (Nat.zero_le _) (fun i e he=>by simp at he) (fun i j e x he=>by simp at he) (fun i j e x he=>by simp at he) (fun i j e x he=>by simp at he)
  ·rw [if_neg hc,← hlen];simp only [Option.map_some,mb];have dX:∀ (i:Nat) (e:DV),((z.take hi).drop lo)[i]? = some e→z[lo+i]? = some e:=fun i e he=>by
    simp only [List.getElem?_drop,List.getElem?_take] at he;split at he
    ·exact he
    ·cases he
   by_cases aJ:(z.take hi).drop lo=[]
   ·rw [aJ];exact .sl [] blk _ (cap - lo) cL f (fun h=>absurd rfl h) yS (Nat.zero_le _) (fun i e he=>by simp at he) (fun i j e x he=>by simp at he) (fun i j e x he=>by simp at he) (fun i j e x he=>by simp at he)
   ·obtain ⟨e0,r,hr⟩:=List.exists_cons_of_ne_nil aJ;have BU:=dX 0 e0 (by rw [hr]; rfl);have mc:cL=sz:=(jQ _ _ BU).symm.trans (bQ e0 (List.mem_of_getElem? BU));subst mc;refine .sl _ blk (off+lo*cL) (cap - lo) cL (fun i j=>f (lo+i) j) (fun _=>hb (fun h=>by subst h; simp at BU)) yS (by rw [hlen]; omega) (fun i e he=>jQ _ _ (dX i e he)) (fun i j e x he hx=>?_) (fun i j e x he hx=>bK _ _ _ _ (dX i e he) hx) (fun i j e x he hx=>bX _ _ _ _ (dX i e he) hx);have:=cZ _ _ _ _ (dX i e he) hx;rw [Nat.add_mul] at this;rw [show off+lo*cL+(i*cL+j)=off+(lo*cL+i*cL+j) by omega];exact this
theorem Nt (hE:E.OK) {t e:Nat} {x:Operand} {lo hi:Option Operand} {ti ei:bp} (bP:E.T[t]? = some ti) (bR:E.T[e]? = some ei) (hk:ti.k = .slice e) {z:List DV} {l u:Option Int} (hx:aY E.G s x (.d (.sl z))) (hl:wb E.G s lo l) (hu:wb E.G s hi u)
  (h0:0≤l.getD 0) (h1:l.getD 0≤u.getD z.length) (h2:u.getD z.length≤z.length) (bQ:∀ e∈z,e.cells.length=ei.size):bC E (.slice t x lo hi none) s h (.d (.sl ((z.take (u.getD z.length).toNat).drop (l.getD 0).toNat))) h := .quiet fun o c ac e1 _ h3 h4=>by
 obtain ⟨lr,d,g1,g2,g3,-⟩:=cj (hE.types t ti bP);obtain rfl:=kv (hk.symm.trans g3);have hv:=hx c ac h3 h4;generalize BV:ac.eval x=v at hv;cases hv with
 |d _ _ hv =>
  obtain ⟨a,cap,rfl,iH,hd⟩:=F' hv (lo:=(l.getD 0).toNat) (hi:=(u.getD z.length).toNat) (by omega) (by omega) bQ;have hb:=F9 (P:=E.P) (w:=c.w) (isSlice:=true) (len:=z.length) (cap:=cap) (hl c ac h3 h4) (hu c ac h3 h4) h0 h1 h2 iH;refine ⟨_,?_,.d _ _ hd⟩;simp only [execOp,e1,BV,Instr.sliceAt,Instr.slice,Sem.run_bind,Sem.run_pure,Result.andThen_ok,run_underlying g2,Option.map_none,hb,run_sizeOf (hE.types e ei bR)]
theorem aK.elem {G:List (Nat × DV)} (ho:aK G c) {b g:Nat} {ts:Nat × Nat} {l:List DV} (hb:c.heap[b]? = some (.arr g ts l)) {blk cap:Nat} (bA:c.own b=some (blk,cap)) {i:Nat} {e:DV} (he:l[i]? = some e) :
  ∃ (vs:Array Value) (us:List Value),c.w.heap[blk]? = some (.cells vs ts.1 (0,0))∧us.length=ts.2∧yF c.w blk (i*ts.2) us∧VL c (e.cells.map .d) us∧i*ts.2+ts.2≤vs.size:=by
 obtain ⟨q0,q1,q2⟩:=ho.box b _ hb;rcases q2 with ⟨q2,-⟩ | ⟨iK,il,vs,q2,q3,q4,q5,q6,q7⟩
 ·rw [bA] at q2; cases q2
 ·rw [bA] at q2; cases q2;have hlen:=q1 i e he;have hi:=aR he;have gz:i*ts.2+ts.2≤vs.size:=by
   rw [q4]
   calc i*ts.2+ts.2=(i+1)*ts.2:=by rw [Nat.add_mul,Nat.one_mul]
    _≤cap*ts.2:=Nat.mul_le_mul_right _ (by omega)
  refine ⟨vs,(vs.toList.drop (i*ts.2)).take ts.2,q3,by simp; omega,fun j v hv=>?_,.rA (by simp [hlen]; omega) (fun j x v hx hv=>?_),gz⟩
  ·rw [List.getElem?_take] at hv;split at hv
   ·rw [List.getElem?_drop] at hv;have:=ku q3 (i*ts.2+j) v hv
    simpa using this
   ·cases hv
  ·obtain ⟨u,k1,-,k2⟩:=q7 i j e x he hx;rw [List.getElem?_take] at hv;split at hv
   ·rw [List.getElem?_drop] at hv;have:vs[i*ts.2+j]? = some v:=by simpa using hv
    rw [k1] at this; cases this;exact k2
   ·cases hv
theorem Ga (hE:E.OK) {t:Nat} {x:Operand} {ti:bp} (bP:E.T[t]? = some ti) {b g i off:Nat} {ts:Nat × Nat} {l:List DV} (hb:h[b]? = some (.arr g ts l)) (hx:aY E.G s x (.cB b g i off)) {e:DV} (he:l[i]? = some e) {stop:Prop} {k:AV→Prop} {cs:List AV} (kB:cs=e.cells.map .d) (H:jK ti cs off stop k) :
  stop∨∃ v,k v∧bC E (.load t x) s h v h:=by
 rcases yG H with h1 | ⟨v,hk,hp⟩
 ·exact .inl h1
 refine .inr ⟨v,hk,.quiet fun o c ac h1 h2 h3 h4=>?_⟩;subst h2;obtain ⟨blk,cap,q1,q2,q3⟩:=F7 hb (hx c ac h3 h4);obtain ⟨vs,us,r1,r2,r3,r4,r5⟩:=h3.elem hb q1 he;obtain ⟨u,hu,oL⟩:=hp E.P t c blk (i*ts.2) us (hE.types t ti bP) (by rw [kB]; exact r4) r3;refine ⟨u,?_,oL⟩;simp only [execOp,h1,q2,Sem.run_bind,hu,Result.andThen_ok,Sem.run_pure]
theorem aK.Nu {G:List (Nat × DV)} (ho:aK G c) {b g blk cap:Nat} {ts:Nat × Nat} {l:List DV} {vs:Array Value} (hb:c.heap[b]? = some (.arr g ts l)) (bA:c.own b=some (blk,cap)) (hblk:c.w.heap[blk]? = some (.cells vs ts.1 (0,0)))
  {i off:Nat} {e e':DV} (he:l[i]? = some e) (hs:e'.cells.length=ts.2) {us:List Value} (gz:off+us.length≤ts.2) (bX:∀ u∈us,u.oneCell'=true)
  (hv:∀ (j:Nat) (x:DV),e'.cells[j]? = some x→(off≤j∧∃ v,us[j - off]? = some v∧VD c.bad c.w x v)∨((j<off∨off+us.length≤j)∧e.cells[j]? = some x)) :
  let c':Cx:={ c with heap:=c.heap.set b (.arr g ts (l.set i e')),w:=c.w.setCells blk (i*ts.2+off) us }
  aK G c'∧Step c c':=by
 intro c';obtain ⟨e1,e2,e3,e4⟩:=yH blk us (i*ts.2+off) c.w;have eu:b<c.heap.length:=(ho.br b blk cap bA).2
 have bc:Step c c':={
  ax:=rfl
  bN:=ho.bN
  os:=e1
  tape:=e2
  output:=e3
  size:=Nat.le_of_eq e4.symm
  keep:=fun x _ hn=>tz blk us _ c.w x (fun e=>hn b cap (by rw [e]; exact bA))
  dh:=fun i x n hi _=>⟨n,hi⟩
  boxes:=fun k bx hk=>by
   by_cases oV:k=b
   ·subst oV;rw [hb] at hk;cases hk;exact .inl ⟨g,l.set i e',by show (c.heap.set k _)[k]? = _; rw [List.getElem?_set_self eu],.inr ⟨rfl,by simp,rfl⟩⟩
   ·have h':c'.heap[k]? = some bx:=by show (c.heap.set b _)[k]? = _; rw [List.getElem?_set_ne (Ne.symm oV)]; exact hk
    cases bx with
    |cells cs=>exact .inl ⟨cs,h',rfl,rfl⟩
    |arr g sz l=>exact .inl ⟨g,l,h',.inr ⟨rfl,rfl,rfl⟩⟩
    |map es=>exact .inl ⟨es,h',rfl⟩
    |gone=>exact h'
    |hole=>exact ⟨_,h'⟩ }
 refine ⟨ho.next bc (fun k x n hk=>⟨by show x<(c.w.setCells blk _ us).heap.size; rw [e4]; exact (ho.br k x n hk).1,by show k<(c.heap.set b _).length; rw [List.length_set]; exact (ho.br k x n hk).2⟩) ho.inj (fun k bx hk=>?_),bc⟩;by_cases oV:k=b
 ·subst oV;have iP:(c.heap.set k (.arr g ts (l.set i e')))[k]? = some bx:=hk;rw [List.getElem?_set_self eu] at iP;cases iP;right;obtain ⟨q0,q1,q2⟩:=ho.box k _ hb;rcases q2 with ⟨q2,-⟩ | ⟨iK,il,vs',q2,q3,q4,q5,q6,q7⟩
  ·rw [bA] at q2; cases q2
  ·rw [bA] at q2; cases q2;rw [hblk] at q3; cases q3;have fL:=aR he;have BW:gE ts.2 (l.set i e'):=gE.set q1 i hs;refine ⟨q0,BW,.inr ⟨blk,cap,(cV vs.toList (i*ts.2+off) us).toArray,bA,yI blk ts.1 (0,0) us _ c.w vs hblk,by simp [vI,q4],by simpa using q5,q6,fun i' j e2 x h2 hx=>?_⟩⟩;have hj:j<ts.2:=by rw [← BW i' e2 h2]; exact aR hx
   have dX:∀ (p:Nat),(cV vs.toList (i*ts.2+off) us)[p]? = if i*ts.2+off≤p∧p<i*ts.2+off+us.length∧p<vs.size then us[p - (i*ts.2+off)]? else vs[p]? := by
    intro p;have gen:∀ (us:List Value) (o:Nat) (q:List Value),(cV q o us)[p]? = if o≤p∧p<o+us.length∧p<q.length then us[p - o]? else q[p]? := by
     intro us
     induction us with
     |nil=>intro o q; rw [if_neg (by simp; omega)]; rfl
     |cons u us ih =>
      intro o q;rw [cV,ih];by_cases hp:o=p
      ·subst hp;rw [if_neg (by omega)];by_cases hq:o<q.length
       ·rw [if_pos (by simp; omega),List.getElem?_set_self hq]; simp
       ·rw [if_neg (by omega),List.getElem?_eq_none (by simp; omega),List.getElem?_eq_none (by omega)]
      ·by_cases hc:o+1≤p∧p<o+1+us.length∧p<q.length
       ·rw [if_pos (by simpa using hc),if_pos (by simp; omega)];rw [show p - o=(p - (o+1))+1 by omega];simp
       ·rw [if_neg (by simpa using hc),if_neg (by simp; omega),List.getElem?_set_ne hp]
    have:=gen us (i*ts.2+off) vs.toList
    simpa using this
   have Xo:i*ts.2+ts.2≤vs.size:=by
    rw [q4]
    calc i*ts.2+ts.2=(i+1)*ts.2:=by rw [Nat.add_mul,Nat.one_mul]
     _≤cap*ts.2:=Nat.mul_le_mul_right _ (by omega)
   show ∃ v,(cV vs.toList (i*ts.2+off) us).toArray[i'*ts.2+j]? = some v∧_;rw [List.getElem?_toArray,dX];by_cases BX:i'=i
   ·subst BX;rw [List.getElem?_set_self fL] at h2;cases h2;rcases hv j x hx with ⟨k1,v,k2,k3⟩ | ⟨k1,k2⟩
    ·have:=aR k2;rw [if_pos (by omega)];exact ⟨v,by rw [show i'*ts.2+j - (i'*ts.2+off)=j - off by omega]; exact k2,bX v (List.mem_of_getElem? k2),bc.vd k3⟩
    ·rw [if_neg (by omega)];obtain ⟨v,r1,r2,r3⟩:=q7 i' j e x he k2;exact ⟨v,r1,r2,bc.vd r3⟩
   ·rw [List.getElem?_set_ne (Ne.symm BX)] at h2;obtain ⟨v,r1,r2,r3⟩:=q7 i' j e2 x h2 hx;rw [if_neg ?_]
    ·exact ⟨v,r1,r2,bc.vd r3⟩
    ·rintro ⟨k1,k2,-⟩;rcases Nat.lt_or_gt_of_ne BX with aj | rR
     ·have:(i'+1)*ts.2≤i*ts.2:=Nat.mul_le_mul_right _ aj;rw [Nat.add_mul,Nat.one_mul] at this;omega
     ·have:(i+1)*ts.2≤i'*ts.2:=Nat.mul_le_mul_right _ rR;rw [Nat.add_mul,Nat.one_mul] at this;omega
 ·left;have iP:(c.heap.set b (.arr g ts (l.set i e')))[k]? = some bx:=hk;rw [List.getElem?_set_ne (Ne.symm oV)] at iP;exact ⟨iP,rfl,fun x n hn=>tz blk us _ c.w x (fun e=>oV (ho.inj k b blk n cap (by rw [← e]; exact hn) bA))⟩
theorem Nv {β:Type} (us:List β) (o:Nat) (q:List β) (p:Nat):(cV q o us)[p]? = if o≤p∧p<o+us.length∧p<q.length then us[p - o]? else q[p]? := by
 induction us generalizing o q with
 |nil=>rw [if_neg (by simp; omega)]; rfl
 |cons u us ih =>
  rw [cV,ih];by_cases hp:o=p
  ·subst hp;rw [if_neg (by omega)];by_cases hq:o<q.length
   ·rw [if_pos (by simp; omega),List.getElem?_set_self hq]; simp
   ·rw [if_neg (by omega),List.getElem?_eq_none (by simp; omega),List.getElem?_eq_none (by omega)]
  ·by_cases hc:o+1≤p∧p<o+1+us.length∧p<q.length
   ·rw [if_pos (by simpa using hc),if_pos (by simp; omega)];rw [show p - o=(p - (o+1))+1 by omega];simp
   ·rw [if_neg (by simpa using hc),if_neg (by simp; omega),List.getElem?_set_ne hp]
theorem Gb {e:DV} (h:e.er=true):e.cells=[e]:=by cases e <;> first | rfl | cases h
def BY (e:DV) (off:Nat) (ds:List DV) (e':DV):Prop:=e'.cells.length=e.cells.length∧off+ds.length≤e.cells.length ∧
 ∀ (j:Nat) (x:DV),e'.cells[j]? = some x→(off≤j∧ds[j - off]? = some x)∨((j<off∨off+ds.length≤j)∧e.cells[j]? = some x)
theorem Nw {e:DV} {off:Nat} {ds:List DV} {stop:Prop} {k:DV→Prop} (H:yV e off ds stop k):stop∨∃ e',k e'∧BY e off ds e':=by
 unfold yV at H;split at H
 ·rename_i cs;split at H
  ·rename_i q;rw [Bh] at H;have hq:=Nat.le_of_ble_eq_true q;refine .inr ⟨.agg (cV cs off ds),H,by simp [DV.cells,vI],hq,fun j x hx=>?_⟩;simp only [DV.cells] at hx;rw [Nv] at hx;split at hx
   ·rename_i hc; exact .inl ⟨hc.1,hx⟩
   ·rename_i hc;refine .inr ⟨?_,hx⟩;have hj:=aR hx;omega
  ·exact .inl H
 ·rename_i mW;split at H
  ·rename_i d;split at H
   ·rename_i hd;have jM:e.cells=[e]:=by cases e <;> first | rfl | exact absurd rfl (mW _)
    refine .inr ⟨d,H,by rw [jM,Gb hd]; rfl,by rw [jM]; simp,fun j x hx => .inl ⟨Nat.zero_le _,by rw [Gb hd] at hx; simpa using hx⟩⟩
   ·exact .inl H
  ·exact .inl H
theorem Nx {e:DV} {off:Nat} {vs:List AV} {stop:Prop} {k:DV→Prop} (H:BS e off vs stop k):stop∨∃ (ds:List DV) (e':DV),vs=ds.map .d∧k e'∧BY e off ds e':=by
 unfold BS at H;rcases vE vs stop (fun ds=>yV e off ds stop k) with ⟨ds,h1,h2⟩ | h2
 ·rw [h2] at H;rcases Nw H with h | ⟨e',h3,h4⟩
  ·exact .inl h
  ·exact .inr ⟨ds,e',h1,h3,h4⟩
 ·rw [h2] at H; exact .inl H
theorem Ny (hE:E.OK) {t:Nat} {x y:Operand} {ti:bp} (bP:E.T[t]? = some ti) {b g i off:Nat} {ts:Nat × Nat} {l:List DV} (hb:h[b]? = some (.arr g ts l)) (hx:aY E.G s x (.cB b g i off)) {v:AV} (hy:aY E.G s y v) {ds:List DV} (hv:Bp v (ds.map .d)) (bQ:ds.length=ti.size) (Nz:(ds.map AV.d).all AV.er=true)
  {e e':DV} (he:l[i]? = some e) (kx:e.cells.length=ts.2) (hp:BY e off ds e'):bC E (.store t x y) s h (.d .undef) (h.set b (.arr g ts (l.set i e'))):=fun o c ac h1 h2 h3 h4=>by
 subst h2;obtain ⟨blk,cap,q1,q2,q3⟩:=F7 hb (hx c ac h3 h4);obtain ⟨vs,Xp,r1,r2,r3,r4,r5⟩:=h3.elem hb q1 he;obtain ⟨us,rB,jo⟩:=hv c _ (hy c ac h3 h4);have hlen:us.length=ds.length:=by rw [← jo.1]; simp
 obtain ⟨p1,p2,p3⟩:=hp;have bX:∀ u∈us,u.oneCell'=true:=fun u hu=>by
  obtain ⟨j,hj,rfl⟩:=List.getElem_of_mem hu;have mX:j<(ds.map AV.d).length:=by rw [jo.1]; exact hj
  exact Bo (jo.2 j _ us[j] (List.getElem?_eq_getElem mX) (by simp [hj])) (List.all_eq_true.1 Nz _ (List.getElem_mem mX))
 have cn:=FB (P:=E.P) (w:=c.w) (b:=blk) (o:=i*ts.2+off) (hE.types t ti bP) rB (by omega) r1 (by omega) bX
 obtain ⟨w1,w2⟩:=h3.Nu (i:=i) (off:=off) (e':=e') (us:=us) hb q1 r1 he (by omega) (by omega) bX (fun j x hx=>by
  rcases p3 j x hx with ⟨k1,k2⟩ | ⟨k1,k2⟩
  ·have aj:=aR k2;exact .inl ⟨k1,us[j - off]'(by omega),by simp [show j - off<us.length by omega],jo.nQ (j - off) x _ k2 (by simp [show j - off<us.length by omega])⟩
  ·exact .inr ⟨by omega,k2⟩)
 refine ⟨_,Go.undef,.inr ⟨?_,rfl⟩,rfl,w1,.d _ _ .undef,w2⟩;simp only [execOp,h1,q2,Sem.run_bind,cn,Result.andThen_ok,Sem.run_pure]
theorem NA (hE:E.OK) {o:Op} {stop:Prop} {k:AV→List ae→Prop} (H:oU E.T E.G o s h stop k):stop∨∃ v h',k v h'∧bC E o s h v h':=by
 unfold oU at H;split at H
 ·
  rcases a7 H with h | ⟨ti,bP,H⟩
  ·exact .inl h
  rcases b8 H with h | ⟨a,ha,H⟩
  ·exact .inl h
  rcases b8 H with h | ⟨b,hb,H⟩
  ·exact .inl h
  split at H
  ·split at H
   ·rename_i e hk;rcases a7 H with h | ⟨ei,bR,H⟩
    ·exact .inl h
    split at H
    ·split at H
     ·rename_i q;obtain ⟨y,h0,h1,h2,H⟩:=BR H;exact .inr ⟨_,_,H,Nn hE bP bR hk ha hb (gF q) h0 h1 h2⟩
     ·exact .inl H
    ·rcases a7 H with h | ⟨bx,gN,H⟩
     ·exact .inl h
     split at H
     ·split at H
      ·rename_i q1 q2;have:=Nat.eq_of_beq_eq_true q1;subst this;obtain ⟨⟨h0,h1⟩,H⟩:=lj H;exact .inr ⟨_,_,H,No hE bP bR hk gN (Nat.eq_of_beq_eq_true q2) ha hb h0 h1⟩
      ·exact .inl H
     ·exact .inl H
    ·exact .inl H
   ·rename_i len e hk;rcases a7 H with h | ⟨ei,bR,H⟩
    ·exact .inl h
    split at H
    ·obtain ⟨y,h0,h1,h2,h3,h4,H⟩:=Nj H;exact .inr ⟨_,_,H,Np hE bP bR hk ha hb h0 h1 h2 h3 h4⟩
    ·exact .inl H
   ·exact .inl H
  ·exact .inl H
 ·
  rcases a7 H with h | ⟨ti,bP,H⟩
  ·exact .inl h
  rcases b8 H with h | ⟨a,ha,H⟩
  ·exact .inl h
  rcases b8 H with h | ⟨b,hb,H⟩
  ·exact .inl h
  split at H
  ·split at H
   ·have hk:ti.k = .string:=by assumption
    obtain ⟨y,h0,h1,H⟩:=Nh H;exact .inr ⟨_,_,H,Nq hE bP hk ha hb h0 h1⟩
   ·exact .inl H
  ·exact .inl H
 ·
  rcases a7 H with h | ⟨ti,bP,H⟩
  ·exact .inl h
  rcases b8 H with h | ⟨a,ha,H⟩
  ·exact .inl h
  rcases F8 H with h | ⟨l,hl,H⟩
  ·exact .inl h
  rcases F8 H with h | ⟨u,hu,H⟩
  ·exact .inl h
  split at H
  ·have hk:ti.k = .string:=by assumption
   obtain ⟨⟨h0,h1,h2⟩,H⟩:=lj H;exact .inr ⟨_,_,H,Ns hE bP hk ha hl hu h0 h1 h2⟩
  ·rcases a7 H with h | ⟨ei,bR,H⟩
   ·exact .inl h
   obtain ⟨⟨h0,h1,h2,h3⟩,H⟩:=lj H;exact .inr ⟨_,_,H,Nt hE bP bR (by assumption) ha hl hu h0 h1 h2 h3⟩
  ·exact .inl H
 ·
  rcases a7 H with h | ⟨ti,bP,H⟩
  ·exact .inl h
  rcases b8 H with h | ⟨a,ha,H⟩
  ·exact .inl h
  split at H
  ·rcases a7 H with h | ⟨bx,gN,H⟩
   ·exact .inl h
   split at H
   ·split at H
    ·rename_i q;have:=Nat.eq_of_beq_eq_true q;subst this;obtain ⟨e,h0,h1,h2,H⟩:=BR H;rw [Int.toNat_natCast] at h1;split at H
     ·rw [rq] at H;rcases Ga hE bP gN ha h1 rfl H with h | ⟨v,H,hv⟩
      ·exact .inl h
      ·exact .inr ⟨_,_,H,hv⟩
     ·rename_i mW;rcases Ga hE bP gN ha h1 (by cases e <;> first | rfl | exact absurd rfl (mW _)) H with h | ⟨v,H,hv⟩
      ·exact .inl h
      ·exact .inr ⟨_,_,H,hv⟩
    ·exact .inl H
   ·exact .inl H
  ·exact .inl H
 ·
  rcases a7 H with h | ⟨ti,bP,H⟩
  ·exact .inl h
  rcases b8 H with h | ⟨v,hv,H⟩
  ·exact .inl h
  rcases b8 H with h | ⟨a,ha,H⟩
  ·exact .inl h
  split at H
  ·rcases a7 H with h | ⟨bx,gN,H⟩
   ·exact .inl h
   split at H
   ·split at H
    ·rename_i q;have:=Nat.eq_of_beq_eq_true q;subst this;rcases yD H with h | ⟨vs,eF,H⟩
     ·exact .inl h
     split at H
     ·rename_i q1 q2;obtain ⟨e,h0,h1,h2,H⟩:=BR H;rw [Int.toNat_natCast] at h1;rcases Nx H with h | ⟨ds,e',rfl,H,hp⟩
      ·exact .inl h
      rw [fY] at H;exact .inr ⟨_,_,H,Ny hE bP gN ha hv eF (by have:=Nat.eq_of_beq_eq_true q1; simpa using this) q2 h1 h2 hp⟩
     ·exact .inl H
    ·exact .inl H
   ·exact .inl H
  ·exact .inl H
 ·exact Ng hE H
end
end Go.aw
end
section
namespace Go.aw
open Go Go.RowKit
def BZ (op:BinOp) (j:IntKind) (a b:Int):Int :=
 let x:=BitVec.ofInt j.bits a
 let y:=BitVec.ofInt j.bits b
 match op with
 | .and=>j.wrap (x &&& y).toNat
 | .or=>j.wrap (x ||| y).toNat
 | .xor=>j.wrap (x ^^^ y).toNat
 |_=>j.wrap (x &&& ~~~y).toNat
def oW (op:BinOp) (j:IntKind) (a:Int) (n:Nat):Int:=match op with
 | .shl=>j.wrap (a*2 ^ min n j.bits)
 |_=>a.fdiv (2 ^ min n j.bits)
def Gc:BinOp→Bool
 | .and | .or | .xor | .andNot=>true
 |_=>false
def Gd:BinOp→Bool
 | .shl | .shr=>true
 |_=>false
def Ge:BinOp→Bool
 | .quo | .rem=>true
 |_=>false
def yW (op:BinOp) (j:IntKind) (a b:Int):Int:=match op with
 | .quo=>j.wrap (a.tdiv b)
 |_=>a.tmod b
def we (d:Nat):List Nat→Bool
 | []=>false
 |a::l=>match Nat.beq a d with
  |true=>true
  |false=>we d l
theorem wg {a b:Nat} (h:Nat.blt a b=true):a<b:=Nat.le_of_ble_eq_true h
theorem yX {d:Nat}:∀ {l:List Nat},we d l=true→d∈l
 | [],h=>by cases h
 |a::l,h=>by
  unfold we at h;split at h
  ·rename_i q; rw [Nat.eq_of_beq_eq_true q]; exact List.mem_cons_self ..
  ·exact List.mem_cons_of_mem _ (yX h)
section
variable {E:Env} {s:List AV} {h:List ae} {c:Cx} {G:List (Nat × DV)}
theorem NB {op:BinOp} (ca:Gc op=true) {t t':TypeId} {x y:Operand} {j:IntKind} {a b:Int} (hx:aY E.G s x (.d (.int j a))) (hy:aY E.G s y (.d (.int j b))):bC E (.binOp op t x y t') s h (.d (.int j (BZ op j a b))) h :=
 .quiet fun o c ac h1 _ h3 h4=>by
  have e1:=dQ (hx c ac h3 h4);have e2:=dQ (hy c ac h3 h4);refine ⟨.int j (BZ op j a b),oN h1 (by rw [e1,e2]; exact tA ..) ?_,.d _ _ (.int _ _)⟩;rw [e1,e2];cases op <;> first | (simp only [binOp,ne_eq,not_true_eq_false,if_false,Op.intBits]; rfl) | cases ca
theorem NC {op:BinOp} (ca:Gd op=true) {t t':TypeId} {x y:Operand} {j j':IntKind} {a:Int} {b:Int} (hb:0≤b) (hx:aY E.G s x (.d (.int j a))) (hy:aY E.G s y (.d (.int j' b))):bC E (.binOp op t x y t') s h (.d (.int j (oW op j a b.toNat))) h :=
 .quiet fun o c ac h1 _ h3 h4=>by
  have e1:=dQ (hx c ac h3 h4);have e2:=dQ (hy c ac h3 h4);refine ⟨.int j (oW op j a b.toNat),oN h1 (by rw [e1,e2]; exact tA ..) ?_,.d _ _ (.int _ _)⟩;rw [e1,e2];have hn:¬ (b<0):=by omega
  cases op <;> first | (simp only [binOp,Op.shift,hn,if_false]; rfl) | cases ca
def qi {α:Sort _} (kd:TK) (a b:DV) (stop:α) (k:Bool→α):α :=
 match kd,a,b with
 | .int _,.int j m,.int j' n=>match IntKind.same j j' with
  |true=>k (m==n)
  |false=>stop
 | .string,.str m,.str n=>k (m==n)
 | .bool,.bool m,.bool n=>k (m==n)
 |_,_,_=>stop
def mq {α:Sort _} (T:List bp):Nat→List (Nat × Nat)→List DV→List DV→(stop:α)→(Bool→α)→α
 |_,[],[],[],_,k=>k true
 |n,f::fs,a::l,b::m,stop,k=>match Nat.beq f.1 n with
  |true=>aM T f.2 stop fun i=>qi i.k a b stop fun p=>mq T (n+1) fs l m stop fun q=>k (p&&q)
  |false=>stop
 |_,_,_,_,stop,_=>stop
theorem ND {kd:TK} {a b:DV} {stop:Prop} {k:Bool→Prop} (H:qi kd a b stop k):stop∨∃ p,k p:=by
 unfold qi at H;split at H
 ·split at H
  ·exact .inr ⟨_,H⟩
  ·exact .inl H
 ·exact .inr ⟨_,H⟩
 ·exact .inr ⟨_,H⟩
 ·exact .inl H
theorem Gf {T:List bp} {stop:Prop}:∀ {n:Nat} {fs:List (Nat × Nat)} {l m:List DV} {k:Bool→Prop},mq T n fs l m stop k→stop∨∃ p,k p
 |_,[],[],[],_,H => .inr ⟨_,H⟩
 |_,[],[],_::_,_,H => .inl H
 |_,[],_::_,_,_,H => .inl H
 |_,_::_,[],_,_,H => .inl H
 |_,_::_,_::_,[],_,H => .inl H
 |n,f::fs,a::l,b::m,k,H=>by
  simp only [mq] at H;split at H
  ·rcases a7 H with H | ⟨i,-,H⟩
   ·exact .inl H
   rcases ND H with H | ⟨p,H⟩
   ·exact .inl H
   rcases Gf H with H | ⟨q,H⟩
   ·exact .inl H
   ·exact .inr ⟨_,H⟩
  ·exact .inl H
theorem NF {P:Program} {ft:Nat} {i:bp} (ht:eb P ft=some i) {a b:DV} {stop:Prop} {k:Bool→Prop} (H:qi i.k a b stop k):stop∨∃ p,k p∧i.k.agg=false ∧
  ∀ (bad:Nat→Prop) (w w':World) (u v:Value) (d:Nat),VD bad w a u→VD bad w b v→(Op.equalIn (d+1) ft u v).run P w' = .ok p w':=by
 obtain ⟨ti,td,g1,g2,g3,-⟩:=cj ht;unfold qi at H;split at H
 ·rename_i hk;split at H
  ·rename_i hs;obtain rfl:=pW hs;refine .inr ⟨_,H,by rw [hk]; rfl,fun bad w w' u v d hu hv=>?_⟩;cases hu; cases hv;obtain rfl:=tB (hk.symm.trans g3);exact run_equalIn_int w' d ft _ _ _ _ g2
  ·exact .inl H
 ·rename_i hk;refine .inr ⟨_,H,by rw [hk]; rfl,fun bad w w' u v d hu hv=>?_⟩;cases hu; cases hv;obtain rfl:=pX (hk.symm.trans g3);rw [run_equalIn_string w' d ft _ _ g2];simp
 ·rename_i hk;refine .inr ⟨_,H,by rw [hk]; rfl,fun bad w w' u v d hu hv=>?_⟩;cases hu; cases hv;have:td = .bool:=by rw [hk] at g3; cases td <;> first | rfl | cases g3
  subst this;exact run_equalIn_bool' w' _ ft _ _ g2
 ·exact .inl H
theorem Gg {P : Program} {T : List bp} (hT : ∀ (t : Nat) (i : bp), T[t]? = some i → eb P t = some i) {stop : Prop} : ∀ {n : Nat} {fl : List Field} {l m : List DV} {k : Bool → Prop}, mq T n (fl.map fun f => (f.offset, f.type)) l m stop k → (∀ f ∈ fl, f.name ≠ "_") → stop ∨ ∃ p, k p ∧
  ∀ (bad:Nat→Prop) (w w':World) (xs ys:List Value) (d:Nat),(∀ (j:Nat) (x:DV),l[j]? = some x→∃ u,xs[n+j]? = some u∧VD bad w x u)→(∀ (j:Nat) (x:DV),m[j]? = some x→∃ u,ys[n+j]? = some u∧VD bad w x u)→(Op.eqFields (d+1) xs.toArray ys.toArray fl).run P w' = .ok p w':=by
 intro n fl
 induction fl generalizing n with
 |nil =>
  intro l m k H _;cases l with
  |nil=>cases m with
   |nil=>exact .inr ⟨true,H,fun bad w w' xs ys d _ _=>by simp only [Op.eqFields,Sem.run_pure]⟩
   |cons b m=>exact .inl H
  |cons a l=>exact .inl H
 |cons f fl ih =>
  intro l m k H hn;cases l with
  |nil=>exact .inl H
  |cons a l=>cases m with
   |nil=>exact .inl H
   |cons b m =>
    simp only [List.map_cons,mq] at H;split at H
    ·rename_i q;have q:=Nat.eq_of_beq_eq_true q;rcases a7 H with H | ⟨i,hi,H⟩
     ·exact .inl H
     rcases NF (hT _ i hi) H with H | ⟨p,H,eV,hp⟩
     ·exact .inl H
     rcases ih H (fun g hg=>hn g (List.mem_cons_of_mem _ hg)) with H | ⟨p',H,pV⟩
     ·exact .inl H
     refine .inr ⟨p&&p',H,fun bad w w' xs ys d hx hy=>?_⟩;obtain ⟨u,u1,u2⟩:=hx 0 a rfl;obtain ⟨v,v1,v2⟩:=hy 0 b rfl;rw [Nat.add_zero] at u1 v1;have yY:=hn f (List.mem_cons_self ..);simp only [Op.eqFields,ne_eq,yY,not_false_eq_true,if_true,Sem.run_bind];rw [q,yK (hT _ i hi) w' xs n u u1 eV,Result.andThen_ok,yK (hT _ i hi) w' ys n v v1 eV,Result.andThen_ok,hp bad w w' u v d u2 v2,Result.andThen_ok];cases p with
     |false=>simp
     |true =>
      simp only [Bool.not_true,Bool.false_eq_true,if_false,Bool.true_and];exact pV bad w w' xs ys d (fun j x hj=>by rw [show n+1+j=n+(j+1) by omega]; exact hx (j+1) x (by simpa using hj)) (fun j x hj=>by rw [show n+1+j=n+(j+1) by omega]; exact hy (j+1) x (by simpa using hj))
    ·exact .inl H
theorem Gh (hE:E.OK) {op:BinOp} {t:Nat} {t':TypeId} {x y:Operand} {i:bp} (hi:E.T[t]? = some i) (hQ:t∈E.Q) {fs:List (Nat × Nat)} (hk:i.k = .struct fs) {l m:List DV} (hx:aY E.G s x (.d (.agg l))) (hy:aY E.G s y (.d (.agg m))) {stop:Prop} {k:Bool→Prop} (H:mq E.T 0 fs l m stop k) :
  stop∨∃ p,k p∧(op = .eql→∀ h,bC E (.binOp op t x y t') s h (.d (.bool p)) h)∧(op = .neq→∀ h,bC E (.binOp op t x y t') s h (.d (.bool !p)) h):=by
 obtain ⟨ti,d,g1,g2,g3,-⟩:=cj (hE.types t i hi);obtain ⟨fl,rfl,rfl⟩:=oO (hk.symm.trans g3);have hq:=hE.eqs t hQ;simp only [yx,g2,Bool.and_eq_true,Bool.not_eq_true',List.all_eq_true,bne_iff_ne,ne_eq] at hq;obtain ⟨⟨q1,q2⟩,q3⟩:=hq;rcases Gg hE.types H q3 with h | ⟨p,H,hp⟩
 ·exact .inl h
 have ga:E.P.fieldsOf t=fl:=by simp [Program.fieldsOf,g2]
 have val:∀ (c:Cx) (ac:Act),aK E.G c→VS c s ac.tmps→∃ xs ys:List Value,ac.eval x = .agg xs.toArray∧ac.eval y = .agg ys.toArray∧(Op.equalIn 10000 t (.agg xs.toArray) (.agg ys.toArray)).run E.P c.w = .ok p c.w:=by
  intro c ac h3 h4;have fa:=hx c ac h3 h4;have fb:=hy c ac h3 h4;generalize ac.eval x=u at fa;generalize ac.eval y=v at fb;cases fa with
  |d _ _ fa=>cases fa with
   |agg _ xs x1 x2=>cases fb with
    |d _ _ fb=>cases fb with
     |agg _ ys y1 y2 =>
      refine ⟨xs.toList,ys.toList,by simp,by simp,?_⟩;rw [run_equalIn_struct c.w 9999 t _ _ (by rw [ga]; exact g2) q1,ga];refine hp c.bad c.w c.w xs.toList ys.toList 9998 (fun j z hz=>?_) (fun j z hz=>?_)
      ·have hj:=aR hz;rw [x1] at hj;exact ⟨xs[j],by simp [hj],x2 j z _ hz (by simp [hj])⟩
      ·have hj:=aR hz;rw [y1] at hj;exact ⟨ys[j],by simp [hj],y2 j z _ hz (by simp [hj])⟩
 have guard:∀ (op:BinOp) (xs ys:Array Value) (w:World),(eqGuard op t x y (.agg xs) (.agg ys)).run E.P w = .ok () w:=fun op xs ys w=>run_eqGuard_agg w op t x y xs ys q2;refine .inr ⟨p,H,fun e h=>?_,fun e h=>?_⟩
 ·subst e;refine .quiet fun o c ac h1 _ h3 h4=>⟨.bool p,?_,.d _ _ (.bool _)⟩;obtain ⟨xs,ys,e1,e2,e3⟩:=val c ac h3 h4;simp only [execOp,h1,e1,e2,Sem.run_bind,guard,Result.andThen_ok,run_eql_struct,e3,Sem.run_pure]
 ·subst e;refine .quiet fun o c ac h1 _ h3 h4=>⟨.bool !p,?_,.d _ _ (.bool _)⟩;obtain ⟨xs,ys,e1,e2,e3⟩:=val c ac h3 h4;simp only [execOp,h1,e1,e2,Sem.run_bind,guard,Result.andThen_ok,run_neq_struct,e3,Sem.run_pure]
theorem NG (hE:E.OK) {t0 t e:Nat} {x:Operand} {i0 i ei:bp} (jN:E.T[t0]? = some i0) (hi:E.T[t]? = some i) (bR:E.T[e]? = some ei) (hk:i.k = .slice e) (B0:ei.k = .int .u8) {l:List UInt8} (hx:aY E.G s x (.d (.str l))) :
  bC E (.convert t0 t x) s h (.d (.sl (l.map mn))) h:=fun o c ac h1 h2 h3 h4=>by
 obtain ⟨yJ,d0,k1,k2,-⟩:=cj (hE.types t0 i0 jN);obtain ⟨ti,d,g1,g2,g3,-⟩:=cj (hE.types t i hi);obtain rfl:=kv (hk.symm.trans g3);obtain ⟨tie,de,q1,q2,q3,-⟩:=cj (hE.types e ei bR);obtain rfl:=tB (B0.symm.trans q3);have ex:=nP (hx c ac h3 h4);have cn:=Lib.run_convert_string_bytes (P:=E.P) c.w t0 t e ⟨l.toArray⟩ k2 g2 q2;have NH:Proofs.YtfmdaiojokniiaaGreatDoor.Ext c.w (Lib.bytesWorld c.w e ⟨l.toArray⟩):=⟨rfl,rfl,rfl,by rw [Lib.bytesWorld_size]; omega,fun b hb=>Lib.bytesWorld_at_old c.w e _ b hb⟩;obtain ⟨r1,r2⟩:=h3.grow NH;refine ⟨c.dP (Lib.bytesWorld c.w e ⟨l.toArray⟩),_,.inl (by simp only [execOp,h1,ex,Sem.run_bind,cn,Result.andThen_ok,Sem.run_pure]; rfl),h2,r1,.d _ _ ?_,r2⟩;have bQ:(ByteArray.mk l.toArray).size=(l.map mn).length:=by simp [ByteArray.size]
 rw [bQ];have cZ:∀ (j:Nat) (b:UInt8),l[j]? = some b→(Lib.bytesWorld c.w e ⟨l.toArray⟩).cell? ⟨c.w.heap.size,0+(j*1+0),none⟩=some (.int .u8 b.toNat):=fun j b hb=>by
  have hj:=aR hb;rw [show 0+(j*1+0)=j by omega,Lib.bytesWorld_cell c.w e _ j (by simp [ByteArray.size]; exact hj)];simp [List.getD,hb]
 have key:∀ (i j:Nat) (a y:DV),(l.map mn)[i]? = some a→a.cells[j]? = some y→∃ b,l[i]? = some b∧j=0∧y = .int .u8 b.toNat:=fun i j a y ha hy=>by
  rw [List.getElem?_map] at ha;cases hb:l[i]? with
  |none=>rw [hb] at ha; cases ha
  |some b =>
   rw [hb] at ha;cases ha;simp only [mn,DV.cells] at hy;cases j with
   |zero=>simp at hy; exact ⟨b,rfl,rfl,hy.symm⟩
   |succ j=>simp at hy
 refine .sl _ c.w.heap.size 0 _ 1 (fun i _ => .int .u8 (l.getD i 0).toNat) (fun _ hb=>?_) (by omega) ?_ (fun i a ha=>?_) (fun i j a y ha hy=>?_) (fun i j a y ha hy=>?_) (fun i j a y ha hy=>rfl)
 ·rcases hb with hb | ⟨i,n,hi⟩
  ·have:=h3.bN _ hb; omega
  ·have:=(h3.br i _ n hi).1; omega
 ·rw [List.length_map];have:=grownCap_ge c.w l.length 0 e
  simpa [ByteArray.size] using this
 ·rw [List.getElem?_map] at ha;cases hb:l[i]? with
  |none=>rw [hb] at ha; cases ha
  |some b=>rw [hb] at ha; cases ha; rfl
 ·obtain ⟨b,hb,rfl,rfl⟩:=key i j a y ha hy;refine (cZ i b hb).trans ?_;simp [List.getD,hb]
 ·obtain ⟨b,hb,rfl,rfl⟩:=key i j a y ha hy;simp only [List.getD,hb,Option.getD_some];exact .int _ _
theorem NI {op:BinOp} (ca:Ge op=true) {t t':TypeId} {x y:Operand} {j:IntKind} {a b:Int} (hb:b≠0) (hx:aY E.G s x (.d (.int j a))) (hy:aY E.G s y (.d (.int j b))):bC E (.binOp op t x y t') s h (.d (.int j (yW op j a b))) h :=
 .quiet fun o c ac h1 _ h3 h4=>by
  have e1:=dQ (hx c ac h3 h4);have e2:=dQ (hy c ac h3 h4);refine ⟨.int j (yW op j a b),oN h1 (by rw [e1,e2]; exact tA ..) ?_,.d _ _ (.int _ _)⟩;rw [e1,e2];cases op <;> first | (simp only [binOp,ne_eq,not_true_eq_false,if_false,Op.intDiv,hb]; rfl) | cases ca
theorem NJ {t t':TypeId} {x y:Operand} {a b:List UInt8} (hl:a.length+b.length≤9223372036854775807) (hx:aY E.G s x (.d (.str a))) (hy:aY E.G s y (.d (.str b))):bC E (.binOp .add t x y t') s h (.d (.str (a++b))) h :=
 .quiet fun o c ac h1 _ h3 h4=>by
  have e1:=nP (hx c ac h3 h4);have e2:=nP (hy c ac h3 h4);have e:(⟨a.toArray⟩:ByteArray)++⟨b.toArray⟩=⟨(a++b).toArray⟩:=by
   apply ByteArray.ext;simp
  refine ⟨.string ⟨(a++b).toArray⟩,oN h1 (by rw [e1,e2]; rfl) ?_,.d _ _ (.str _)⟩;rw [e1,e2];have hn:¬ (((ByteArray.mk a.toArray).size+(ByteArray.mk b.toArray).size:Nat):Int)>IntKind.i64.max:=by
   simp [ByteArray.size,IntKind.max,IntKind.bits,IntKind.signed];omega
  simp only [binOp,Op.stringOp,hn,if_false,e];rfl
def wh (E:Env) (o:Op) (s:List AV) (stop:Prop) (k:AV→Prop):Prop :=
 match o with
 | .binOp op t x y _=>aM E.T t stop fun i=>bW E.G s x stop fun a=>bW E.G s y stop fun b =>
  match a,b with
  | .d (.int j m),.d (.int j' n)=>match Gc op with
   |true=>match IntKind.same j j' with
    |true=>k (.d (.int j (BZ op j m n)))
    |false=>stop
   |false=>stop
  | .d (.agg l),.d (.agg m)=>match i.k,we t E.Q with
   | .struct fs,true=>mq E.T 0 fs l m stop fun p=>match op with
    | .eql=>k (.d (.bool p))
    | .neq=>k (.d (.bool !p))
    |_=>stop
   |_,_=>stop
  |_,_=>stop
 | .convert t0 t x=>aM E.T t0 stop fun _=>aM E.T t stop fun i=>bW E.G s x stop fun v=>match i.k,v with
  | .slice e,.d (.str l)=>aM E.T e stop fun ei=>match ei.k with
   | .int .u8=>k (.d (.sl (l.map mn)))
   |_=>stop
  |_,_=>stop
 |_=>stop
theorem Gi (hE:E.OK) {o:Op} {stop:Prop} {k:AV→Prop} (H:wh E o s stop k):stop∨∃ v,k v∧∀ h,bC E o s h v h:=by
 unfold wh at H;split at H
 ·rename_i op t x y t';rcases a7 H with h | ⟨i,hi,H⟩
  ·exact .inl h
  rcases b8 H with h | ⟨a,ha,H⟩
  ·exact .inl h
  rcases b8 H with h | ⟨b,hb,H⟩
  ·exact .inl h
  split at H
  ·split at H
   ·rename_i q;split at H
    ·rename_i p;obtain rfl:=pW p;exact .inr ⟨_,H,fun h=>NB q ha hb⟩
    ·exact .inl H
   ·exact .inl H
  ·split at H
   ·rename_i fs hk hq;by_cases he:op = .eql
    ·subst he;rcases Gh (op := .eql) (t':=t') (s:=s) hE hi (yX hq) hk ha hb H with h | ⟨p,H,h1,-⟩
     ·exact .inl h
     ·exact .inr ⟨_,H,fun h=>h1 rfl h⟩
    ·by_cases tQ:op = .neq
     ·subst tQ;rcases Gh (op := .neq) (t':=t') (s:=s) hE hi (yX hq) hk ha hb H with h | ⟨p,H,-,h1⟩
      ·exact .inl h
      ·exact .inr ⟨_,H,fun h=>h1 rfl h⟩
     ·refine .inl ?_;rcases Gf H with h | ⟨p,h⟩
      ·exact h
      ·split at h
       ·exact absurd rfl he
       ·exact absurd rfl tQ
       ·exact h
   ·exact .inl H
  ·exact .inl H
 ·rename_i t0 t x;rcases a7 H with h | ⟨i0,jN,H⟩
  ·exact .inl h
  rcases a7 H with h | ⟨i,hi,H⟩
  ·exact .inl h
  rcases b8 H with h | ⟨v,hv,H⟩
  ·exact .inl h
  split at H
  ·rename_i e l hk;rcases a7 H with h | ⟨ei,bR,H⟩
   ·exact .inl h
   split at H
   ·rename_i B0;exact .inr ⟨_,H,fun h=>NG hE jN hi bR hk B0 hv⟩
   ·exact .inl H
  ·exact .inl H
 ·exact .inl H
def B1 (E:Env) (o:Op) (s:List AV) (stop:Prop) (k:AV→Prop):Prop :=
 match o with
 | .binOp op _ x y _=>bW E.G s x stop fun a=>bW E.G s y stop fun b =>
  match a,b with
  | .d (.int j m),.d (.int j' n)=>match Gd op with
   |true=>need (0≤n) (k (.d (.int j (oW op j m n.toNat))))
   |false=>match Ge op,IntKind.same j j' with
    |true,true=>need (n≠0) (k (.d (.int j (yW op j m n))))
    |_,_=>stop
  | .d (.str l),.d (.str m)=>match op with
   | .add=>need (l.length+m.length≤9223372036854775807) (k (.d (.str (l++m))))
   |_=>stop
  |_,_=>stop
 |_=>stop
theorem NK {o:Op} {stop:Prop} {k:AV→Prop} (H:B1 E o s stop k):stop∨∃ v,k v∧∀ h,bC E o s h v h:=by
 unfold B1 at H;split at H
 ·rename_i op t x y t';rcases b8 H with h | ⟨a,ha,H⟩
  ·exact .inl h
  rcases b8 H with h | ⟨b,hb,H⟩
  ·exact .inl h
  split at H
  ·split at H
   ·rename_i q;obtain ⟨h0,H⟩:=lj H;exact .inr ⟨_,H,fun h=>NC q h0 ha hb⟩
   ·split at H
    ·rename_i q p;obtain rfl:=pW p;obtain ⟨h0,H⟩:=lj H;exact .inr ⟨_,H,fun h=>NI q h0 ha hb⟩
    ·exact .inl H
  ·split at H
   ·obtain ⟨h0,H⟩:=lj H;exact .inr ⟨_,H,fun h=>NJ h0 ha hb⟩
   ·exact .inl H
  ·exact .inl H
 ·exact .inl H
theorem NL (hE:E.OK) {t e len:Nat} {x i:Operand} {ti ei:bp} (bP:E.T[t]? = some ti) (bR:E.T[e]? = some ei) (hk:ti.k = .array len e) {b off:Nat} {cs:List AV} (hb:h[b]? = some (.cells cs)) {j:IntKind} {m:Nat} (hx:aY E.G s x (.ptr b off)) (hi:aY E.G s i (.d (.int j (.ofNat m)))) (h1:m<len) :
  bC E (.indexAddr t x i) s h (.ptr b (off+m*ei.size)) h := .quiet fun o c ac e1 e2 h3 h4=>by
 subst e2;obtain ⟨lr,d,g1,g2,g3,-⟩:=cj (hE.types t ti bP);obtain rfl:=vJ (hk.symm.trans g3);have key:∀ p,VR c (.ptr b off) p→∃ blk,p = .pointer (some ⟨blk,off,none⟩)∧VR c (.ptr b (off+m*ei.size)) (.pointer (some ⟨blk,off+m*ei.size,none⟩)):=fun p hp=>by
  cases hp with
  |ptr _ _ cs' blk cap k1 k2=>exact ⟨blk,rfl,.ptr _ _ cs' blk cap k1 k2⟩
  |ik _ _ _ k1 _=>rw [hb] at k1; cases k1
 obtain ⟨blk,q1,q2⟩:=key _ (hx c ac h3 h4);refine ⟨_,wa e1 ?_,q2⟩;rw [q1,dQ (hi c ac h3 h4)];have h0:(0:Int)≤Int.ofNat m:=Int.natCast_nonneg m;have rS:Int.ofNat m<(len:Int):=by simpa using h1
 simp only [Instr.indexAt,asIntOf,Sem.run_bind,Sem.run_pure,Result.andThen_ok,run_underlying g2,Instr.sureAddr,h0,rS,and_self,if_true,run_sizeOf (hE.types e ei bR),mb];rfl
theorem NM (hE:E.OK) {t e len:Nat} {x:Operand} {ti ei:bp} (bP:E.T[t]? = some ti) (bR:E.T[e]? = some ei) (hk:ti.k = .array len e) (cC:0<len) {b:Nat} {ds:List DV} (hb:h[b]? = some (.cells (ds.map .d))) (hlen:ds.length=len) (eM:ds.all DV.er=true) (hx:aY E.G s x (.ptr b 0)) :
  bC E (.slice t x none none none) s h (.d (.sl ds)) (h.set b .gone):=fun o c ac h1 h2 h3 h4=>by
 subst h2;obtain ⟨lr,d,g1,g2,g3,-⟩:=cj (hE.types t ti bP);obtain rfl:=vJ (hk.symm.trans g3);have eu:=aR hb;have key:∀ p,VR c (.ptr b 0) p→∃ blk cap,p = .pointer (some ⟨blk,0,none⟩)∧c.own b=some (blk,cap):=fun p hp=>by
  cases hp with
  |ptr _ _ cs' blk cap k1 k2=>exact ⟨blk,cap,rfl,k2⟩
  |ik _ _ _ k1 _=>rw [hb] at k1; cases k1
 obtain ⟨blk,cap,q1,q2⟩:=key _ (hx c ac h3 h4);obtain ⟨iK,il,vs,ty,p1,p2,p3⟩:=h3.cells hb;rw [q2] at p1; cases p1
 let c':Cx:={ c with own:=fun i=>if i=b then none else c.own i,heap:=c.heap.set b .gone }
 have ef:c'.heap[b]? = some .gone:=by show (c.heap.set b .gone)[b]? = _; rw [List.getElem?_set_self eu]
 have iQ:∀ i,i≠b→c'.heap[i]? = c.heap[i]? := fun i hi=>by show (c.heap.set b .gone)[i]? = _; rw [List.getElem?_set_ne (Ne.symm hi)]
 have bA:∀ i,i≠b→c'.own i=c.own i:=fun i hi=>by simp only [c',if_neg hi]
 have iw:∀ i p,c'.own i=some p→i≠b∧c.own i=some p:=fun i p hp=>by
  simp only [c'] at hp;split at hp
  ·cases hp
  ·rename_i q; exact ⟨q,hp⟩
 have bc:Step c c':=⟨rfl,h3.bN,rfl,rfl,rfl,Nat.le_refl _,fun _ _ _=>rfl,fun i x n hi _=>⟨n,(iw i _ hi).2⟩,fun i bx hi=>by
  by_cases bz:i=b
  ·subst bz;cases bx with
   |cells cs=>exact .inr ef
   |arr g sz l=>exact .inr ef
   |map es=>exact .inr ef
   |gone=>exact ef
   |hole=>exact ⟨_,ef⟩
  ·rw [← iQ i bz] at hi;cases bx with
   |cells cs=>exact .inl ⟨cs,hi,bA i bz,rfl⟩
   |arr g sz l=>exact .inl ⟨g,l,hi,.inr ⟨rfl,rfl,bA i bz⟩⟩
   |map es=>exact .inl ⟨es,hi,bA i bz⟩
   |gone=>exact hi
   |hole=>exact ⟨_,hi⟩⟩
 have aO:aK E.G c':=by
  refine h3.next bc (fun i x n hi=>?_) (fun i j x n m hi hj=>h3.inj i j x n m (iw i _ hi).2 (iw j _ hj).2) (fun i bx hi=>?_)
  ·have:=h3.br i x n (iw i _ hi).2;refine ⟨this.1,?_⟩;show i<(c.heap.set b .gone).length;rw [List.length_set];exact this.2
  ·by_cases bz:i=b
   ·subst bz;rw [ef] at hi;cases hi;right;show c'.own i=none;simp [c']
   ·rw [iQ i bz] at hi;exact .inl ⟨hi,bA i bz,fun _ _ _=>rfl⟩
 have bK:∀ (j:Nat) (y:DV),ds[j]? = some y→∃ v,vs[j]? = some v∧v.oneCell'=true∧VD c.bad c.w y v:=fun j y hy=>by
  have hj:=aR hy;have hl:=p3.1;simp at hl;have hv:vs.toList[j]? = some vs[j]:=by simp
  have:=p3.2 j (.d y) _ (by simp [hy]) hv;cases this with
  |d _ _ hd=>exact ⟨_,by simp,vH hd (List.all_eq_true.1 eM y (List.mem_of_getElem? hy)),hd⟩
 refine ⟨c',.slice (some ⟨blk,0,none⟩) ds.length ds.length,.inl ?_,rfl,aO,.d _ _ ?_,bc⟩
 ·have nb:(Instr.sliceBounds false len len none none none).run E.P c.w = .ok (0,len,len) c.w:=rfl;have aJ:¬ (len=0):=by omega
  simp only [execOp,h1,q1,Instr.sliceAt,Sem.run_bind,Sem.run_pure,Result.andThen_ok,run_underlying g2,Instr.sureAddr,Option.map_none,nb,run_sizeOf (hE.types e ei bR),aJ,if_false,Nat.zero_mul,mb,Nat.sub_zero,hlen];rfl
 ·have one:∀ (i j:Nat) (y z:DV),ds[i]? = some y→y.cells[j]? = some z→j=0∧z=y:=fun i j y z hy hz=>by
   have:=List.all_eq_true.1 eM y (List.mem_of_getElem? hy);have hc:y.cells=[y]:=by cases y <;> first | rfl | cases this
   rw [hc] at hz;cases j with
   |zero=>simp at hz; exact ⟨rfl,hz.symm⟩
   |succ j=>simp at hz
  refine .sl ds blk 0 ds.length 1 (fun i j=>(vs[i]?).getD undef) (fun _ gb=>?_) (by omega) (Nat.le_refl _) (fun i y hy=>?_) (fun i j y z hy hz=>?_) (fun i j y z hy hz=>?_) (fun i j y z hy hz=>?_)
  ·rcases gb with gb | ⟨i,n,hi⟩
   ·exact h3.sep b blk cap q2 gb
   ·obtain ⟨k1,k2⟩:=iw i _ hi;exact k1 (h3.inj i b blk n cap k2 q2)
  ·have:=List.all_eq_true.1 eM y (List.mem_of_getElem? hy);cases y <;> first | rfl | cases this
  ·obtain ⟨rfl,rfl⟩:=one i j y z hy hz;obtain ⟨v,r1,r2,r3⟩:=bK i z hy;rw [r1,Option.getD_some];have:=ku p2 i v (by simpa using r1)
   simpa using this
  ·obtain ⟨rfl,rfl⟩:=one i j y z hy hz;obtain ⟨v,r1,r2,r3⟩:=bK i z hy;simp only [r1,Option.getD_some];exact bc.vd r3
  ·obtain ⟨rfl,rfl⟩:=one i j y z hy hz;obtain ⟨v,r1,r2,r3⟩:=bK i z hy;simp only [r1,Option.getD_some];exact r2
theorem NN (hE:E.OK) {t e:Nat} {ti ei:bp} (bP:E.T[t]? = some ti) (bR:E.T[e]? = some ei) (hk:ti.k = .slice e) (cC:0<ei.size) {parts:Array (Nat × Operand)} (hp:parts.toList=[]) :
  bC E (.buildSlice t 0 parts) s h (.own h.length 0) (h++[.arr 0 (e,ei.size) []]):=fun o c ac h1 h2 h3 h4=>by
 subst h2;obtain ⟨lr,d,g1,g2,g3,-⟩:=cj (hE.types t ti bP);obtain rfl:=kv (hk.symm.trans g3);obtain ⟨k1,k2⟩:=h3.add (.arr 0 (e,ei.size) []) 0 (.cells #[] e);have bA:(c.add (.arr 0 (e,ei.size) []) 0 (.cells #[] e)).own c.heap.length=some (c.w.heap.size,0):=by simp [Cx.add]
 have lq:(c.add (.arr 0 (e,ei.size) []) 0 (.cells #[] e)).heap[c.heap.length]? = some (.arr 0 (e,ei.size) []):=by simp [Cx.add]
 refine ⟨_,.slice (some ⟨c.w.heap.size,0,none⟩) 0 0,.inl ?_,rfl,k2 ⟨cC,fun i e he=>by simp at he,.inr ⟨c.w.heap.size,0,#[],bA,heap_alloc_new _ _,by simp,by simp,by simp,fun i j e x he=>by simp at he⟩⟩,.own c.heap.length 0 (e,ei.size) [] c.w.heap.size 0 lq bA,k1⟩;have pV:parts = #[]:=by apply Array.ext'; simpa using hp
 subst pV;have hn:¬ ((0:Nat)>2 ^ 24):=by decide
 simp only [execOp,h1,Instr.buildSlice,Sem.run_bind,Sem.run_pure,Result.andThen_ok,run_underlying g2,run_sizeOf (hE.types e ei bR),Nat.zero_mul,Array.map_empty,hn,if_false,if_true];simp [Instr.fill,newRow,show Array.range 0 = #[] from rfl];rfl
def wi (E:Env) (o:Op) (s:List AV) (h:List ae) (stop:Prop) (k:AV→List ae→Prop):Prop :=
 match o with
 | .indexAddr t x i=>aM E.T t stop fun ti=>match ti.k with
  | .array len e=>aM E.T e stop fun ei=>bW E.G s x stop fun
   | .ptr b off=>aM h b stop fun
    | .cells _=>bW E.G s i stop fun
     | .d (.int _ n)=>match n with
      | .ofNat m=>match Nat.blt m len with
       |true=>k (.ptr b (off+m*ei.size)) h
       |false=>stop
      |_=>stop
     |_=>stop
    |_=>stop
   |_=>stop
  |_=>stop
 | .slice t x none none none=>aM E.T t stop fun ti=>match ti.k with
  | .array len e=>aM E.T e stop fun _=>match Nat.blt 0 len with
   |true=>bW E.G s x stop fun
    | .ptr b 0=>aM h b stop fun
     | .cells cs=>oK cs stop fun ds=>match Nat.beq ds.length len,ds.all DV.er with
      |true,true=>fy h b .gone fun h'=>k (.d (.sl ds)) h'
      |_,_=>stop
     |_=>stop
    |_=>stop
   |_=>stop
  |_=>stop
 | .buildSlice t len parts=>match len with
  | 0=>aM E.T t stop fun ti=>match ti.k with
   | .slice e=>aM E.T e stop fun ei=>match Nat.blt 0 ei.size,parts.toList with
    |true,[]=>l9 h (.arr 0 (e,ei.size) []) 0 fun h' n=>k (.own n 0) h'
    |_,_=>stop
   |_=>stop
  |_=>stop
 |_=>stop
theorem Gj (hE:E.OK) {o:Op} {stop:Prop} {k:AV→List ae→Prop} (H:wi E o s h stop k):stop∨∃ v h',k v h'∧bC E o s h v h':=by
 unfold wi at H;split at H
 ·rename_i t x i;rcases a7 H with h | ⟨ti,bP,H⟩
  ·exact .inl h
  split at H
  ·rename_i len e hk;rcases a7 H with h | ⟨ei,bR,H⟩
   ·exact .inl h
   rcases b8 H with h | ⟨a,ha,H⟩
   ·exact .inl h
   split at H
   ·rename_i b off;rcases a7 H with h | ⟨bx,hb,H⟩
    ·exact .inl h
    split at H
    ·rcases b8 H with h | ⟨n,hn,H⟩
     ·exact .inl h
     split at H
     ·split at H
      ·split at H
       ·rename_i q;exact .inr ⟨_,_,H,NL hE bP bR hk hb ha hn (wg q)⟩
       ·exact .inl H
      ·exact .inl H
     ·exact .inl H
    ·exact .inl H
   ·exact .inl H
  ·exact .inl H
 ·rename_i t x;rcases a7 H with h | ⟨ti,bP,H⟩
  ·exact .inl h
  split at H
  ·rename_i len e hk;rcases a7 H with h | ⟨ei,bR,H⟩
   ·exact .inl h
   split at H
   ·rename_i q2;rcases b8 H with h | ⟨a,ha,H⟩
    ·exact .inl h
    split at H
    ·rename_i b;rcases a7 H with h | ⟨bx,hb,H⟩
     ·exact .inl h
     split at H
     ·rename_i cs
      rcases vE cs stop (fun ds=>match Nat.beq ds.length len,ds.all DV.er with
       |true,true=>fy h b .gone fun h'=>k (.d (.sl ds)) h'
       |_,_=>stop) with ⟨ds,e1,e2⟩ | e2
      ·rw [e2] at H;split at H
       ·rename_i p1 p2;rw [fY] at H;subst e1;exact .inr ⟨_,_,H,NM hE bP bR hk (wg q2) hb (Nat.eq_of_beq_eq_true p1) p2 ha⟩
       ·exact .inl H
      ·rw [e2] at H; exact .inl H
     ·exact .inl H
    ·exact .inl H
   ·exact .inl H
  ·exact .inl H
 ·rename_i t len parts;split at H
  ·rcases a7 H with h | ⟨ti,bP,H⟩
   ·exact .inl h
   split at H
   ·rename_i e hk;rcases a7 H with h | ⟨ei,bR,H⟩
    ·exact .inl h
    split at H
    ·rename_i q1 q2;rw [pU,Nat.zero_add] at H;exact .inr ⟨_,_,H,NN hE bP bR hk (wg q1) q2⟩
    ·exact .inl H
   ·exact .inl H
  ·exact .inl H
 ·exact .inl H
def wj (E:Env) (o:Op) (s:List AV) (h:List ae) (stop:Prop) (k:AV→List ae→Prop):Prop:=wh E o s (wi E o s h stop k) fun v=>k v h
theorem Gk (hE:E.OK) {o:Op} {stop:Prop} {k:AV→List ae→Prop} (H:wj E o s h stop k):stop∨∃ v h',k v h'∧bC E o s h v h':=by
 rcases Gi hE H with H | ⟨v,H,ho⟩
 ·exact Gj hE H
 ·exact .inr ⟨v,h,H,ho h⟩
end
end Go.aw
end
section
namespace Go.aw
open Go Go.RowKit
def oX:DV→DV→Bool
 | .int j m,.int k n=>IntKind.same j k&&(m==n)
 | .str a,.str b=>a==b
 | .bool a,.bool b=>a==b
 |_,_=>false
def rT:List DV→List DV→Bool
 | [],[]=>true
 |a::l,b::m=>oX a b&&rT l m
 |_,_=>false
def dY:DV→DV→Bool
 | .agg l,.agg m=>rT l m
 |a,b=>oX a b
def eh (k:DV):List (DV × DV)→Option Nat
 | []=>none
 |p::l=>if dY k p.1 then some 0 else (eh k l).map (· + 1)
def findD (k:DV):List (DV × DV)→Option DV
 | []=>none
 |p::l=>if dY k p.1 then some p.2 else findD k l
def bO (k v:DV):List (DV × DV)→List (DV × DV)
 | []=>[(k,v)]
 |p::l=>if dY k p.1 then (k,v)::l else p::bO k v l
def mr:TK→DV→Prop
 | .int j,x=>∃ n,x = .int j n
 | .string,x=>∃ s,x = .str s
 | .bool,x=>∃ b,x = .bool b
 |_,_=>False
def rU (T:List bp):Nat→List (Nat × Nat)→List DV→Prop
 |_,[],[]=>True
 |n,f::fs,a::l=>f.1=n∧(∃ i,T[f.2]? = some i∧mr i.k a)∧rU T (n+1) fs l
 |_,_,_=>False
def cW (T:List bp) (k:TK) (x:DV):Prop:=match k with
 | .struct fs=>∃ l,x = .agg l∧rU T 0 fs l
 |k=>mr k x
def fB:DV→Value
 | .int j n => .int j n
 | .str s => .string ⟨s.toArray⟩
 | .bool b => .bool b
 | .agg l => .agg (l.map fun
  | .int j n => .int j n
  | .str s => .string ⟨s.toArray⟩
  | .bool b => .bool b
  |_=>undef).toArray
 |_=>undef
def tR:DV→Prop
 | .int _ _=>True
 | .str _=>True
 | .bool _=>True
 |_=>False
theorem mr.flat {k:TK} {x:DV} (h:mr k x):tR x:=by
 cases k <;> first | (obtain ⟨_,rfl⟩:=h; trivial) | exact h.elim
theorem rU.flat {T:List bp}:∀ {n:Nat} {fs:List (Nat × Nat)} {l:List DV},rU T n fs l→∀ x∈l,tR x
 |_,[],[],_,x,hx=>by simp at hx
 |_,_::_,[],h,_,_=>h.elim
 |_,[],_::_,h,_,_=>h.elim
 |n,f::fs,a::l,h,x,hx=>by
  rcases List.mem_cons.1 hx with rfl | hx
  ·obtain ⟨-,⟨i,-,h⟩,-⟩:=h;exact h.flat
  ·exact h.2.2.flat x hx
theorem yZ {bad:Nat→Prop} {w:World} {x:DV} {v:Value} (hf:tR x) (h:VD bad w x v):v=fB x:=by
 cases x <;> first | exact hf.elim | (cases h; rfl)
theorem cW.cases {T:List bp} {k:TK} {x:DV} (h:cW T k x):tR x∨∃ l,x = .agg l∧∀ y∈l,tR y:=by
 unfold cW at h;split at h
 ·obtain ⟨l,rfl,h⟩:=h;exact .inr ⟨l,rfl,h.flat⟩
 ·exact .inl h.flat
theorem rV {T:List bp} {k:TK} {bad:Nat→Prop} {w:World} {x:DV} {v:Value} (hf:cW T k x) (h:VD bad w x v):v=fB x:=by
 rcases hf.cases with fN | ⟨l,rfl,fN⟩
 ·exact yZ fN h
 ·cases h with
  |agg _ vs hl hv =>
   simp only [fB]
   congr 1
   apply Array.ext
   ·simpa using hl.symm
   ·intro j h1 h2;have hj:j<l.length:=by omega
    have e:=hv j l[j] vs[j] (by simp) (by simp [h1]);have:=yZ (fN _ (List.getElem_mem hj)) e;rw [this];simp only [List.getElem_toArray,List.getElem_map];have rP:=fN _ (List.getElem_mem hj);generalize l[j]=y at rP;cases y <;> first | rfl | exact rP.elim
theorem B2 (j:IntKind):IntKind.same j j=true:=by cases j <;> rfl
theorem Gl {a b:DV} (h:oX a b=true):a=b:=by
 unfold oX at h;split at h
 ·simp only [Bool.and_eq_true,beq_iff_eq] at h;obtain rfl:=pW h.1;rw [h.2]
 ·simp at h; rw [h]
 ·simp at h; rw [h]
 ·cases h
theorem Gm:∀ {a b:List DV},rT a b=true→a=b
 | [],[],_=>rfl
 | [],_::_,h=>by cases h
 |_::_,[],h=>by cases h
 |x::a,y::b,h=>by
  simp only [rT,Bool.and_eq_true] at h;rw [Gl h.1,Gm h.2]
theorem Gn {a b:DV} (h:dY a b=true):a=b:=by
 unfold dY at h;split at h
 ·rw [Gm h]
 ·exact Gl h
theorem B3 (a b:List UInt8):((⟨a.toArray⟩:ByteArray)==⟨b.toArray⟩)=(a==b):=by
 show (a.toArray==b.toArray)=_;simp
theorem B4 {α:Type}:∀ {l:List α} {p:α × α},p∈l.zip l→p.1=p.2∧p.1∈l
 | [],p,h=>by simp at h
 |a::l,p,h=>by
  rcases List.mem_cons.1 h with rfl | h
  ·exact ⟨rfl,List.mem_cons_self ..⟩
  ·exact ⟨(B4 h).1,List.mem_cons_of_mem _ (B4 h).2⟩
theorem NO (n:Nat) {x:DV} (h:tR x):Instr.sameBits n (fB x) (fB x)=true:=by
 cases x <;> first | exact h.elim | (cases n <;> simp [fB,Instr.sameBits,B3])
theorem Gp {T:List bp} {k:TK} {x:DV} (h:cW T k x):Instr.sameBits 10000 (fB x) (fB x)=true:=by
 rcases h.cases with h1 | ⟨l,rfl,h1⟩
 ·exact NO _ h1
 ·show Instr.sameBits (9999+1) _ _=true;simp only [fB,Instr.sameBits,beq_self_eq_true,Bool.true_and,List.all_eq_true];intro p hp;obtain ⟨e1,e2⟩:=B4 hp;obtain ⟨p1,p2⟩:=p;simp only at e1 e2;subst e1;obtain ⟨y,hy,rfl⟩:=List.mem_map.1 e2;have:=h1 y hy;cases y <;> first | exact this.elim | simp [Instr.sameBits,B3]
def wk (bad:Nat→Prop) (w:World) (es:List (DV × DV)) (en:List MapEntry):Prop:=en.length=es.length∧∀ (j:Nat) (k x:DV) (m:MapEntry),es[j]? = some (k,x)→en[j]? = some m→VD bad w k m.key∧VD bad w x m.val
theorem wk.cons {bad:Nat→Prop} {w:World} {p:DV × DV} {m:MapEntry} {es:List (DV × DV)} {en:List MapEntry} (h:wk bad w (p::es) (m::en)):VD bad w p.1 m.key∧VD bad w p.2 m.val∧wk bad w es en:=by
 obtain ⟨h1,h2⟩:=h;have:=h2 0 p.1 p.2 m rfl rfl;exact ⟨this.1,this.2,by simpa using h1,fun j k x m' hk hm=>h2 (j+1) k x m' (by simpa using hk) (by simpa using hm)⟩
theorem y0 {k:DV}:∀ {es:List (DV × DV)} {j:Nat},eh k es=some j→∃ p,es[j]? = some p∧dY k p.1=true∧findD k es=some p.2
 | [],_,h=>by cases h
 |p::es,j,h=>by
  unfold eh at h;split at h
  ·rename_i q;cases h;exact ⟨p,rfl,q,by simp [findD,q]⟩
  ·rename_i q;cases hf:eh k es with
   |none=>rw [hf] at h; cases h
   |some i =>
    rw [hf] at h;cases h;obtain ⟨p',h1,h2,h3⟩:=y0 hf;exact ⟨p',by simpa using h1,h2,by simp [findD,q,h3]⟩
theorem B5 {k:DV}:∀ {es:List (DV × DV)},eh k es=none→findD k es=none
 | [],_=>rfl
 |p::es,h=>by
  unfold eh at h;split at h
  ·cases h
  ·rename_i q;cases hf:eh k es with
   |none=>simp [findD,q,B5 hf]
   |some i=>rw [hf] at h; cases h
theorem wm {k v:DV}:∀ {es:List (DV × DV)} {j:Nat},eh k es=some j→bO k v es=es.set j (k,v)
 | [],_,h=>by cases h
 |p::es,j,h=>by
  unfold eh at h;split at h
  ·rename_i q;cases h;simp [bO,q]
  ·rename_i q;cases hf:eh k es with
   |none=>rw [hf] at h; cases h
   |some i =>
    rw [hf] at h;cases h;simp [bO,q,wm hf]
theorem wo {k v:DV}:∀ {es:List (DV × DV)},eh k es=none→bO k v es=es++[(k,v)]
 | [],_=>rfl
 |p::es,h=>by
  unfold eh at h;split at h
  ·cases h
  ·rename_i q;cases hf:eh k es with
   |none=>simp [bO,q,wo hf]
   |some i=>rw [hf] at h; cases h
theorem oY {P:Program} {w:World} {r:Nat} {es:Array MapEntry} {clock:Nat} (hb:w.heap[r]? = some (.map es clock)):(getObj r).run P w = .ok (.map es clock) w:=by
 simp [getObj,Sem.run,hb]
theorem wq {P:Program} {w:World} {r:Nat} {es:Array MapEntry} {clock:Nat} (o:Obj) (hb:w.heap[r]? = some (.map es clock)):(setObj r o).run P w = .ok () { w with heap:=w.heap.setIfInBounds r o }:=by
 simp [setObj,Sem.run,hb]
theorem NP {P:Program} {w:World} {kt:TypeId} {d:TypeDesc} {k:Value} {l:List MapEntry} {a:Option (Nat × Value)} (hd:P.underlying kt=some d) (h:Instr.findNow d k l 0=some a):(Instr.findKey kt k l).run P w = .ok a w:=by
 simp [Instr.findKey,run_underlying hd,Result.andThen,h]
section
variable {E:Env}
def B6:TK→Prop
 | .int _=>True
 | .string=>True
 | .bool=>True
 |_=>False
inductive qj (E:Env) (t:Nat):TK→Prop
 |plain (i:bp) (hi:E.T[t]? = some i) (h:B6 i.k):qj E t i.k
 |struct (i:bp) (hi:E.T[t]? = some i) (fs:List (Nat × Nat)) (hk:i.k = .struct fs) (hq:t∈E.Q):qj E t (.struct fs)
theorem Gq {T:List bp}:∀ {n:Nat} {fs:List (Nat × Nat)} {l m:List DV},rU T n fs l→rU T n fs m→mq T n fs l m False (· = rT l m)
 |_,[],[],[],_,_=>rfl
 |_,_::_,[],_,h,_=>h.elim
 |_,[],_::_,_,h,_=>h.elim
 |_,_::_,_::_,[],_,h=>h.elim
 |_,[],[],_::_,_,h=>h.elim
 |n,f::fs,a::l,b::m,h,h'=>by
  obtain ⟨e1,⟨i,hi,ha⟩,hl⟩:=h;obtain ⟨-,⟨i',bY,hb⟩,hm⟩:=h';rw [hi] at bY;cases bY;simp only [mq];have:Nat.beq f.1 n=true:=by rw [e1]; exact Nat.beq_refl n
  rw [this];simp only;rw [yy hi];have key:∀ (K:Bool→Prop),K (oX a b)→qi i.k a b False K:=fun K hK=>by
   unfold mr at ha hb;split at ha
   ·rename_i j hk;obtain ⟨x,rfl⟩:=ha;rw [hk] at hb ⊢;obtain ⟨y,rfl⟩:=hb;simp only [qi,B2]
    simpa [oX,B2] using hK
   ·rename_i hk;obtain ⟨x,rfl⟩:=ha;rw [hk] at hb ⊢;obtain ⟨y,rfl⟩:=hb;exact hK
   ·rename_i hk;obtain ⟨x,rfl⟩:=ha;rw [hk] at hb ⊢;obtain ⟨y,rfl⟩:=hb;exact hK
   ·exact ha.elim
  refine key _ ?_;have ih:=Gq hl hm;have mono:∀ {n:Nat} {fs:List (Nat × Nat)} {l m:List DV} {K K':Bool→Prop},(∀ p,K p→K' p)→mq T n fs l m False K→mq T n fs l m False K':=by
   intro n fs
   induction fs generalizing n with
   |nil=>intro l m K K' hk H; cases l <;> cases m <;> first | exact hk _ H | exact H
   |cons f fs B7 =>
    intro l m K K' hk H;cases l with
    |nil=>exact H
    |cons a l=>cases m with
     |nil=>exact H
     |cons b m =>
      simp only [mq] at H ⊢;split at H
      ·rcases a7 H with H | ⟨i,hi,H⟩
       ·exact H.elim
       rw [yy hi];unfold qi at H ⊢;split at H
       ·split at H
        ·exact B7 (fun p hp=>hk _ hp) H
        ·exact H
       ·exact B7 (fun p hp=>hk _ hp) H
       ·exact B7 (fun p hp=>hk _ hp) H
       ·exact H
      ·exact H
  refine mono (fun p hp=>?_) ih;rw [hp,rT]
theorem NQ (hE:E.OK) {t:Nat} {i:bp} (hi:E.T[t]? = some i) {fs:List (Nat × Nat)} (hk:i.k = .struct fs) (hq:t∈E.Q) {x y:DV} (hx:cW E.T (.struct fs) x) (hy:cW E.T (.struct fs) y) {bad:Nat→Prop} {w:World} {u v:Value} (hu:VD bad w x u) (hv:VD bad w y v) :
  (Op.equal t u v).run E.P w = .ok (dY x y) w:=by
 obtain ⟨l,rfl,hl⟩:=hx;obtain ⟨m,rfl,hm⟩:=hy;obtain ⟨ti,d,g1,g2,g3,-⟩:=cj (hE.types t i hi);obtain ⟨fl,rfl,rfl⟩:=oO (hk.symm.trans g3);have tS:=hE.eqs t hq;simp only [yx,g2,Bool.and_eq_true,Bool.not_eq_true',List.all_eq_true,bne_iff_ne,ne_eq] at tS;obtain ⟨⟨q1,q2⟩,q3⟩:=tS;rcases Gg hE.types (Gq hl hm) q3 with h | ⟨p,rfl,hp⟩
 ·exact h.elim
 have ga:E.P.fieldsOf t=fl:=by simp [Program.fieldsOf,g2]
 cases hu with
 |agg _ xs x1 x2=>cases hv with
  |agg _ ys y1 y2 =>
   show (Op.equalIn (9999+1) t _ _).run E.P w=_;rw [run_equalIn_struct w 9999 t _ _ (by rw [ga]; exact g2) q1,ga];have:=hp bad w w xs.toList ys.toList 9998 (fun j z hz=>?_) (fun j z hz=>?_)
   ·simpa [dY] using this
   ·have hj:=aR hz;rw [x1] at hj;exact ⟨xs[j],by simp [hj],x2 j z _ hz (by simp [hj])⟩
   ·have hj:=aR hz;rw [y1] at hj;exact ⟨ys[j],by simp [hj],y2 j z _ hz (by simp [hj])⟩
theorem NR {td:TypeDesc} {k:TK} (hk:k=tk td) (hp:B6 k) {x y:DV} (hx:mr k x) (hy:mr k y):Instr.sameNow td (fB x) (fB y)=some (dY x y):=by
 subst hk;cases td <;> simp only [tk,B6] at hp hx hy
 ·obtain ⟨a,rfl⟩:=hx; obtain ⟨b,rfl⟩:=hy; rfl
 ·obtain ⟨a,rfl⟩:=hx; obtain ⟨b,rfl⟩:=hy;simp [Instr.sameNow,fB,dY,oX,B2]
 ·obtain ⟨a,rfl⟩:=hx; obtain ⟨b,rfl⟩:=hy;simp [Instr.sameNow,fB,dY,oX,B3]
def jR (k:DV) (es:List (DV × DV)) (en:List MapEntry) (i:Nat):Option (Nat × Value):=(eh k es).bind fun j=>(en[j]?).map fun m=>(i+j,m.val)
theorem Gr {k:DV} {p:DV × DV} {m:MapEntry} {es:List (DV × DV)} {en:List MapEntry} {i:Nat}:jR k (p::es) (m::en) i=if dY k p.1 then some (i,m.val) else jR k es en (i+1):=by
 simp only [jR,eh];split
 ·simp
 ·cases eh k es with
  |none=>rfl
  |some j =>
   simp;cases en[j]? with
   |none=>rfl
   |some m=>simp; omega
theorem B8 (hE:E.OK) {t:Nat} {k:TK} (hT:qj E t k) {x:DV} (hx:cW E.T k x) {bad:Nat→Prop} {w:World} {u:Value} (hu:VD bad w x u) {es:List (DV × DV)} {en:List MapEntry} (kx:∀ p∈es,cW E.T k p.1) (tT:wk bad w es en) :
  (Instr.findKey t u en).run E.P w = .ok (jR x es en 0) w:=by
 cases hT with
 |plain i hi h =>
  obtain ⟨ti,d,g1,g2,g3,-⟩:=cj (hE.types t i hi);refine NP g2 ?_;have hF:∀ y,cW E.T i.k y→mr i.k y:=fun y hy=>by
   unfold cW at hy;split at hy
   ·rename_i q; rw [q] at h; exact h.elim
   ·exact hy
  obtain rfl:=rV hx hu;generalize 0=n
  induction es generalizing en n with
  |nil =>
   obtain rfl:en=[]:=List.eq_nil_of_length_eq_zero (by simpa using tT.1);rfl
  |cons p es ih=>cases en with
   |nil=>have:=tT.1; simp at this
   |cons m en =>
    obtain ⟨h1,h2,h3⟩:=tT.cons;have hp:=kx p (List.mem_cons_self ..);have e1:=rV hp h1;rw [Gr,Instr.findNow,e1,NR g3 h (hF _ hx) (hF _ hp)];cases dY x p.1 with
    |true=>rfl
    |false =>
     have ha:∀ q∈es,cW E.T i.k q.1:=fun q hq=>kx q (List.mem_cons_of_mem _ hq);first | exact ih ha h3 (n+1) | exact ih h3 ha (n+1) | exact ih h3 (n+1) ha
 |struct i hi fs hk hq =>
  obtain ⟨ti,d,g1,g2,g3,-⟩:=cj (hE.types t i hi);obtain ⟨fl,rfl,-⟩:=oO (hk.symm.trans g3);rw [run_findKey_eq w (by rw [g2]) u en];generalize 0=n
  induction es generalizing en n with
  |nil =>
   obtain rfl:en=[]:=List.eq_nil_of_length_eq_zero (by simpa using tT.1);simp [Instr.findAsking,jR,eh]
  |cons p es ih=>cases en with
   |nil=>have:=tT.1; simp at this
   |cons m en =>
    obtain ⟨h1,h2,h3⟩:=tT.cons;have hp:=kx p (List.mem_cons_self ..);rw [Gr];simp only [Instr.findAsking,Sem.run_bind,NQ hE hi hk hq hx hp hu h1,Result.andThen_ok];cases dY x p.1 with
    |true=>simp
    |false =>
     simp only [Bool.false_eq_true,if_false];have ha:∀ q∈es,cW E.T (.struct _) q.1:=fun q hq=>kx q (List.mem_cons_of_mem _ hq);first | exact ih ha h3 (n+1) | exact ih h3 ha (n+1) | exact ih h3 (n+1) ha
theorem B9 (hE:E.OK) {t:Nat} {k:TK} (hT:qj E t k) {x:DV} (hx:cW E.T k x) {bad:Nat→Prop} {w:World} {u:Value} (hu:VD bad w x u) (em:Bool):(Instr.checkKey em 10000 t u).run E.P w = .ok () w:=by
 have one:∀ (n:Nat) (t:Nat) (i:bp) (hi:E.T[t]? = some i) (y:DV),mr i.k y→(Instr.checkKey em (n+1) t (fB y)).run E.P w = .ok () w:=fun n t i hi y hy=>by
  obtain ⟨ti,d,g1,g2,g3,-⟩:=cj (hE.types t i hi);unfold Instr.checkKey;simp only [Sem.run_bind,run_underlying g2,Result.andThen];unfold mr at hy;split at hy
  ·rename_i q; obtain ⟨a,rfl⟩:=hy; obtain rfl:=tB (q.symm.trans g3); simp [fB]
  ·rename_i q; obtain ⟨a,rfl⟩:=hy; obtain rfl:=pX (q.symm.trans g3); simp [fB]
  ·rename_i q;obtain ⟨a,rfl⟩:=hy;have:d = .bool:=by rw [q] at g3; cases d <;> first | rfl | cases g3
   subst this;simp [fB]
  ·exact hy.elim
 obtain rfl:=rV hx hu;cases hT with
 |plain i hi h =>
  have hF:mr i.k x:=by
   unfold cW at hx;split at hx
   ·rename_i q; rw [q] at h; exact h.elim
   ·exact hx
  exact one 9999 t i hi x hF
 |struct i hi fs hk hq =>
  obtain ⟨ti,d,g1,g2,g3,-⟩:=cj (hE.types t i hi);obtain ⟨fl,rfl,rfl⟩:=oO (hk.symm.trans g3);obtain ⟨l,rfl,hl⟩:=hx;show (Instr.checkKey em (9999+1) t _).run E.P w=_;rw [Instr.checkKey];simp only [Sem.run_bind,run_underlying g2,Result.andThen_ok,fB];rw [← Array.forIn_toList]
  generalize kB:(l.map fun
   | .int j n=>Value.int j n
   | .str s => .string ⟨s.toArray⟩
   | .bool b => .bool b
   |_=>undef)=cs
  have bK:∀ (j:Nat) (y:DV),l[j]? = some y→cs[0+j]? = some (fB y):=fun j y hy=>by
   rw [← kB];have:=hl.flat y (List.mem_of_getElem? hy);simp [hy];cases y <;> first | rfl | exact this.elim
  clear kB;have go:∀ (fl:List Field) (n:Nat) (l:List DV),rU E.T n (fl.map fun f=>(f.offset,f.type)) l→(∀ (j:Nat) (y:DV),l[j]? = some y→cs[n+j]? = some (fB y)) →
    (forIn fl PUnit.unit fun f _ =>
     if f.name ≠ "_" then do
      let d ← part f.type cs.toArray f.offset
      Instr.checkKey em 9999 f.type d
      pure (ForInStep.yield PUnit.unit)
     else pure (ForInStep.yield PUnit.unit):Sem PUnit).run E.P w = .ok PUnit.unit w:=by
   intro fl
   induction fl with
   |nil=>intro n l _ _; simp
   |cons f fl ih =>
    intro n l h hv;cases l with
    |nil=>exact h.elim
    |cons a l =>
     obtain ⟨e1,⟨fi,iL,nd⟩,hr⟩:=h;simp only at e1 iL;have eV:fi.k.agg=false:=by
      unfold mr at nd;split at nd <;> first | (rename_i q; rw [q]; rfl) | exact nd.elim
     have h0 := hv 0 a rfl;rw [Nat.add_zero] at h0;have hp := yK (hE.types _ fi iL) w cs n (fB a) h0 eV;have rW := ih (n + 1) l hr (fun j y hy => by rw [show n + 1 + j = n + (j + 1) by omega]; exact hv (j + 1) y (by simpa using hy));simp only [List.forIn_cons, Sem.run_bind];by_cases yY : f.name = "_"
     ·simp only [yY,ne_eq,not_true_eq_false,if_false,Sem.run_bind,Sem.run_pure,Result.andThen_ok];exact rW
     ·simp only [yY,ne_eq,not_false_eq_true,if_true,Sem.run_bind,e1,hp,Result.andThen_ok,one 9998 f.type fi iL a nd,Sem.run_pure];exact rW
  have:=go fl.toList 0 l hl bK;rw [this];rfl
end
section
variable {E:Env} {s:List AV} {h:List ae} {c:Cx} {G:List (Nat × DV)}
theorem NS {t:Nat}:bC E (.makeMap t none) s h (.map h.length) (h++[.map []]):=fun o c ac h1 h2 h3 h4=>by
 subst h2;obtain ⟨k1,k2⟩:=h3.add (.map []) 0 (.map #[] 0);have bA:(c.add (.map []) 0 (.map #[] 0)).own c.heap.length=some (c.w.heap.size,0):=by simp [Cx.add]
 have lq:(c.add (.map []) 0 (.map #[] 0)).heap[c.heap.length]? = some (.map []):=by simp [Cx.add]
 refine ⟨_,.map (some c.w.heap.size),.inl ?_,rfl,k2 ⟨c.w.heap.size,0,#[],0,bA,heap_alloc_new _ _,⟨rfl,by simp,by simp,by simp,rfl⟩,fun j k x m hj=>by simp at hj⟩,.map c.heap.length [] c.w.heap.size 0 lq bA,k1⟩;simp only [execOp,h1,Option.map_none,Instr.makeMap];rfl
theorem NT {b:Nat} {es:List (DV × DV)} (hb:c.heap[b]? = some (.map es)) {v:Value} (hv:VR c (.map b) v):∃ blk cap,v = .map (some blk)∧c.own b=some (blk,cap):=by
 cases hv with
 |map _ db blk cap k1 k2=>exact ⟨blk,cap,rfl,k2⟩
 |l8 _ _ k1 _=>rw [hb] at k1; cases k1
theorem tU (h3:aK G c) {b:Nat} {es:List (DV × DV)} (hb:c.heap[b]? = some (.map es)) {v:Value} (hv:VR c (.map b) v):∃ (blk cap:Nat) (en:Array MapEntry) (ck:Nat),v = .map (some blk)∧c.own b=some (blk,cap)∧c.w.heap[blk]? = some (.map en ck)∧ma en ck es.length∧wk c.bad c.w es en.toList:=by
 obtain ⟨blk,cap,rfl,ho⟩:=NT hb hv;obtain ⟨iK,il,en,ck,p1,p2,p3,p4⟩:=h3.box b _ hb;rw [ho] at p1;cases p1;exact ⟨blk,cap,en,ck,rfl,ho,p2,p3,by simpa using p3.size,fun j k x m hk hm=>p4 j k x m hk (by simpa using hm)⟩
@[irreducible] def wu (E : Env) (e : Nat) (kd : TK) (x : DV) (es : List (DV × DV)) (K : DV → Bool → Prop) : Prop :=
 ∃ (z:DV) (zv:Value),cW E.T kd x∧(∀ p∈es,cW E.T kd p.1)∧(∀ w,(zeroValue e).run E.P w = .ok zv w)∧(∀ bad w,VD bad w z zv)∧K ((findD x es).getD z) (findD x es).isSome
theorem n0 {E:Env} {e:Nat} {kd:TK} {x:DV} {es:List (DV × DV)} {K:DV→Bool→Prop} (z:DV) (zv:Value) {v:DV} {f:Bool} (h1:cW E.T kd x) (h2:∀ p∈es,cW E.T kd p.1) (h3:∀ w,(zeroValue e).run E.P w = .ok zv w) (h4:∀ bad w,VD bad w z zv)
  (e1:(findD x es).getD z=v) (e2:(findD x es).isSome=f) (k:K v f):wu E e kd x es K:=by
 unfold wu;exact ⟨z,zv,h1,h2,h3,h4,by rw [e1,e2]; exact k⟩
theorem NU {E:Env} {e:Nat} {kd:TK} {x:DV} {es:List (DV × DV)} {K:DV→Bool→Prop} (h:wu E e kd x es K) :
  ∃ (z:DV) (zv:Value),cW E.T kd x∧(∀ p∈es,cW E.T kd p.1)∧(∀ w,(zeroValue e).run E.P w = .ok zv w)∧(∀ bad w,VD bad w z zv)∧K ((findD x es).getD z) (findD x es).isSome:=by unfold wu at h; exact h
theorem NV (hE:E.OK) {t kt e:Nat} {m ko:Operand} {ti:bp} (bP:E.T[t]? = some ti) (hk:ti.k = .map kt e) {kd:TK} (hT:qj E kt kd) {b:Nat} {es:List (DV × DV)} (hb:h[b]? = some (.map es)) (hm:aY E.G s m (.map b)) {x:DV} (hx:aY E.G s ko (.d x))
  (h1:cW E.T kd x) (h2:∀ p∈es,cW E.T kd p.1) {z:DV} {zv:Value} (hz:∀ w,(zeroValue e).run E.P w = .ok zv w) (NW:∀ bad w,VD bad w z zv) (ok:Bool) :
  bC E (.lookup t m ko ok) s h (match ok with | true => .d (.aD [(findD x es).getD z,.bool (findD x es).isSome]) | false => .d ((findD x es).getD z)) h := .quiet fun o c ac e1 e2 h3 h4=>by
 subst e2;obtain ⟨lr,d,g1,g2,g3,-⟩:=cj (hE.types t ti bP);have hd:d = .map kt e:=by rw [hk] at g3; cases d <;> first | (cases g3; rfl) | cases g3
 subst hd;obtain ⟨blk,cap,en,ck,q1,q2,q3,qe,q4⟩:=tU h3 hb (hm c ac h3 h4);have cx:=hx c ac h3 h4;generalize hu:ac.eval ko=u at cx;cases cx with
 |d _ _ cx =>
  have r1:=B9 hE hT h1 cx en.isEmpty;have r2:=B8 hE hT h1 cx h2 q4
  have hv:∃ (v:Value) (f:Bool),f=(findD x es).isSome∧VD c.bad c.w ((findD x es).getD z) v∧((match jR x es en.toList 0 with
    |some (_,v)=>pure (v,true)
    |none=>do pure (← zeroValue e,false):Sem (Value × Bool))).run E.P c.w = .ok (v,f) c.w:=by
   cases hf:eh x es with
   |none =>
    rw [B5 hf];refine ⟨zv,false,rfl,NW _ _,?_⟩;simp [jR,hf,hz]
   |some j =>
    obtain ⟨p,p1,p2,p3⟩:=y0 hf;rw [p3];have hj:j<en.toList.length:=by rw [q4.1]; exact aR p1
    refine ⟨en.toList[j].val,true,rfl,(q4.2 j p.1 p.2 _ p1 (by simp)).2,?_⟩;have:en.toList[j]? = some en.toList[j]:=by simp
    simp only [jR,hf,Option.bind_some,this,Option.map_some];rfl
  obtain ⟨v,f,rfl,eH,cn⟩:=hv;have main:(Instr.lookup t (.map (some blk)) u ok).run E.P c.w = .ok (if ok then .tuple #[v,.bool (findD x es).isSome] else v) c.w:=by
   simp only [Instr.lookup,Sem.run_bind,run_underlying g2,Result.andThen_ok,oY q3,Sem.run_pure,r1,r2];have:=cn;cases Gs:jR x es en.toList 0 with
   |none =>
    rw [Gs] at this;simp only [Sem.run_bind,Sem.run_pure] at this ⊢;rw [hz] at this ⊢;simp only [Result.andThen_ok,Result.ok.injEq,Prod.mk.injEq] at this ⊢;rw [← this.1.1,← this.1.2];first | exact ⟨rfl,rfl⟩ | exact ⟨rfl,trivial⟩ | rfl
   |some q =>
    rw [Gs] at this;simp only [Sem.run_pure,Result.ok.injEq,Prod.mk.injEq] at this ⊢;rw [← this.1.1,← this.1.2];first | exact ⟨rfl,rfl⟩ | exact ⟨rfl,trivial⟩ | rfl
  refine ⟨_,by simp only [execOp,e1,q1,hu,Sem.run_bind,main,Result.andThen_ok,Sem.run_pure]; rfl,?_⟩;cases ok with
  |true =>
   refine .d _ _ (.aD _ _ rfl fun j y w hy hw=>?_)
   match j with
   | 0=>simp at hy hw; subst hy; subst hw; exact eH
   | 1=>simp at hy hw; subst hy; subst hw; exact .bool _
   |j+2=>simp at hy
  |false=>exact .d _ _ eH
theorem Gt (hE:E.OK) {op:Op} {t kt e:Nat} {m ko vo:Operand} (ca:op = .mapUpdate t m ko vo∨op = .insert t m ko vo) {ti:bp} (bP:E.T[t]? = some ti) (hk:ti.k = .map kt e) {kd:TK} (hT:qj E kt kd) {b:Nat} {es:List (DV × DV)} (hb:h[b]? = some (.map es)) (hm:aY E.G s m (.map b)) {x y:DV} (hx:aY E.G s ko (.d x)) (hy:aY E.G s vo (.d y))
  (h1:cW E.T kd x) (h2:∀ p∈es,cW E.T kd p.1):bC E op s h (.d .undef) (h.set b (.map (bO x y es))):=fun o c ac e1 e2 h3 h4=>by
 subst e2;obtain ⟨lr,d,g1,g2,g3,-⟩:=cj (hE.types t ti bP);have hd:d = .map kt e:=by rw [hk] at g3; cases d <;> first | (cases g3; rfl) | cases g3
 subst hd;have eu:=aR hb;obtain ⟨blk,cap,en,ck,q1,q2,q3,qe,q4⟩:=tU h3 hb (hm c ac h3 h4);have cx:=hx c ac h3 h4;have mo:=hy c ac h3 h4;generalize hu:ac.eval ko=u at cx;generalize hw:ac.eval vo=w at mo;cases cx with
 |d _ _ cx=>cases mo with
  |d _ _ mo =>
   have r1:=B9 hE hT h1 cx false;have r2:=B8 hE hT h1 cx h2 q4;have hblk:blk<c.w.heap.size:=(h3.br b blk cap q2).1;have main:∃ (gW:Array MapEntry) (lu:Nat),(Instr.mapUpdate t (.map (some blk)) u w).run E.P c.w = .ok () { c.w with heap:=c.w.heap.setIfInBounds blk (.map gW lu) }∧ma gW lu (bO x y es).length ∧
     ∀ (j:Nat) (k v:DV) (mm:MapEntry),(bO x y es)[j]? = some (k,v)→gW[j]? = some mm→VD c.bad c.w k mm.key∧VD c.bad c.w v mm.val:=by
    cases hf:eh x es with
    |none =>
     refine ⟨en.push { key:=u,val:=w,born:=ck },ck+1,?_,?_,?_⟩
     ·simp only [Instr.mapUpdate,Sem.run_bind,run_underlying g2,Result.andThen_ok,oY q3,r1,r2,jR,hf,Option.bind_none,wq _ q3]
     ·rw [wo hf,List.length_append];exact qe.push u w
     ·intro j k v mm hj dL;rw [wo hf] at hj;have hl:en.size=es.length:=by simpa using q4.1
      rcases Nat.lt_or_ge j es.length with aj | aC
      ·rw [List.getElem?_append_left aj] at hj;rw [Array.getElem?_push,if_neg (by omega)] at dL;exact q4.2 j k v mm hj (by simpa using dL)
      ·have iO:j=es.length:=by
        have:=aR hj;simp at this;omega
       subst iO;rw [List.getElem?_append_right (Nat.le_refl _)] at hj;simp at hj;obtain ⟨rfl,rfl⟩:=hj;rw [Array.getElem?_push,if_pos hl.symm] at dL;cases dL;exact ⟨cx,mo⟩
    |some i =>
     obtain ⟨p,p1,p2,p3⟩:=y0 hf;have hl:en.size=es.length:=by simpa using q4.1
     have hi:i<en.size:=by rw [hl]; exact aR p1
     have ju:en[i]? = some en[i]:=by simp [hi]
     have NX:=(q4.2 i p.1 p.2 en[i] p1 (by simp [hi])).1;have wv:=Gn p2;have e3:=rV h1 cx;have e4:=rV (h2 p (List.mem_of_getElem? p1)) NX;have B':Instr.sameBits 10000 en[i].key u=true:=by
      rw [e3,e4,← wv];exact Gp h1
     refine ⟨en.modify i fun e=>{ e with key:=u,val:=w },ck,?_,?_,?_⟩
     ·have Ca:jR x es en.toList 0=some (i,en[i].val):=by
       simp [jR,hf,hi]
      have y4:(Instr.keyThatStays en[i].key u).run E.P c.w = .ok u c.w:=by
       simp only [Instr.keyThatStays,B',if_true,Sem.run_pure]
      simp only [Instr.mapUpdate,Sem.run_bind,run_underlying g2,Result.andThen_ok,oY q3,r1,r2,Ca,ju,Option.map_some,Option.getD_some,y4,wq _ q3]
     ·rw [wm hf,List.length_set];exact qe.modify i u w
     ·intro j k v mm hj dL;rw [wm hf] at hj;by_cases lv:j=i
      ·subst lv;rw [List.getElem?_set_self (by omega)] at hj;cases hj;rw [Array.getElem?_modify,if_pos rfl,ju] at dL;cases dL;exact ⟨cx,mo⟩
      ·rw [List.getElem?_set_ne (Ne.symm lv)] at hj;rw [Array.getElem?_modify,if_neg (Ne.symm lv)] at dL;exact q4.2 j k v mm hj (by simpa using dL)
   obtain ⟨gW,lu,cn,hlen,fc⟩:=main
   let c':Cx:={ c with heap:=c.heap.set b (.map (bO x y es)),w:={ c.w with heap:=c.w.heap.setIfInBounds blk (.map gW lu) } }
   have wx:c'.w.heap[blk]? = some (.map gW lu):=by simp [c',hblk]
   have qk:∀ b',b'≠blk→c'.w.heap[b']? = c.w.heap[b']? := fun b' bZ=>by simp [c',Array.getElem?_setIfInBounds,Ne.symm bZ]
   have oZ:c'.heap[b]? = some (.map (bO x y es)):=by show (c.heap.set b _)[b]? = _; rw [List.getElem?_set_self eu]
   have iQ:∀ i,i≠b→c'.heap[i]? = c.heap[i]? := fun i hi=>by show (c.heap.set b _)[i]? = _; rw [List.getElem?_set_ne (Ne.symm hi)]
   have bc:Step c c':=⟨rfl,h3.bN,rfl,rfl,rfl,by simp [c'],fun b' _ bL=>qk b' (fun nf=>bL b cap (nf ▸ q2)),fun i b' n hi _=>⟨n,hi⟩,fun i bx hi=>by
    by_cases bz:i=b
    ·subst bz;rw [hb] at hi;cases hi;exact .inl ⟨_,oZ,rfl⟩
    ·rw [← iQ i bz] at hi;cases bx with
     |cells cs=>exact .inl ⟨cs,hi,rfl,rfl⟩
     |arr g sz l=>exact .inl ⟨g,l,hi,.inr ⟨rfl,rfl,rfl⟩⟩
     |map es=>exact .inl ⟨es,hi,rfl⟩
     |gone=>exact hi
     |hole=>exact ⟨_,hi⟩⟩
   have aO:aK E.G c':=by
    refine h3.next bc (fun i b' n hi=>?_) h3.inj (fun i bx hi=>?_)
    ·have:=h3.br i b' n hi;refine ⟨by simpa [c'] using this.1,?_⟩;show i<(c.heap.set b _).length;rw [List.length_set];exact this.2
    ·by_cases bz:i=b
     ·subst bz;rw [oZ] at hi;cases hi;right;exact ⟨blk,cap,gW,lu,q2,wx,hlen,fun j k v mm hj dL=>⟨bc.vd (fc j k v mm hj dL).1,bc.vd (fc j k v mm hj dL).2⟩⟩
     ·rw [iQ i bz] at hi;exact .inl ⟨hi,rfl,fun b' n hn=>qk b' (fun nf=>bz (h3.inj i b blk n cap (nf ▸ hn) q2))⟩
   refine ⟨c',undef,.inr ⟨?_,rfl⟩,rfl,aO,.d _ _ .undef,bc⟩;rcases ca with rfl | rfl
   ·simp only [execOp,e1,q1,hu,hw,Sem.run_bind,cn,Result.andThen_ok,Sem.run_pure];rfl
   ·simp only [execOp,e1,q1,hu,hw,Sem.run_bind,cn,Result.andThen_ok,Sem.run_pure];rfl
theorem NY (hE:E.OK) {t:Nat} {args:Array Operand} {ts:Array TypeId} {m:Operand} (gT:args.toList[0]? = some m) (gU:ts.toList[0]? = some t) {ti:bp} (bP:E.T[t]? = some ti) {kt e:Nat} (hk:ti.k = .map kt e) {b:Nat} {es:List (DV × DV)} (hb:h[b]? = some (.map es)) (hm:aY E.G s m (.map b)) :
  bC E (.call { callee := .builtin .len,args:=args,argTypes:=ts }) s h (.d (.int .i64 es.length)) h := .quiet fun o c ac e1 e2 h3 h4=>by
 subst e2;obtain ⟨lr,d,g1,g2,g3,-⟩:=cj (hE.types t ti bP);have hd:d = .map kt e:=by rw [hk] at g3; cases d <;> first | (cases g3; rfl) | cases g3
 subst hd;obtain ⟨blk,cap,en,ck,q1,q2,q3,qe,q4⟩:=tU h3 hb (hm c ac h3 h4);refine ⟨.int .i64 es.length,?_,.d _ _ (.int _ _)⟩;have hl:en.size=es.length:=by simpa using q4.1
 have fa:args[0]? = some m:=by simpa using gT
 have me:ts[0]? = some t:=by simpa using gU
 have tC:(args.map ac.eval)[0]? = some (.map (some blk)):=by rw [Array.getElem?_map,fa]; simp [q1]
 simp only [execOp,e1,resolve,invoke,builtin,Builtin.len_,me,tC,Sem.run_bind,Sem.run_pure,Result.andThen_ok,run_underlying g2,oY q3,goInt,hl]
def tV (E:Env) (kt:Nat) (stop:Prop) (k:TK→Prop):Prop:=aM E.T kt stop fun i=>match i.k with
 | .int j=>k (.int j)
 | .string=>k .string
 | .bool=>k .bool
 | .struct fs=>match we kt E.Q with
  |true=>k (.struct fs)
  |false=>stop
 |_=>stop
theorem y5 {kt:Nat} {stop:Prop} {k:TK→Prop} (H:tV E kt stop k):stop∨∃ kd,qj E kt kd∧k kd:=by
 unfold tV at H;rcases a7 H with H | ⟨i,hi,H⟩
 ·exact .inl H
 split at H
 ·rename_i q; exact .inr ⟨_,q ▸ .plain i hi (by rw [q]; trivial),H⟩
 ·rename_i q; exact .inr ⟨_,q ▸ .plain i hi (by rw [q]; trivial),H⟩
 ·rename_i q; exact .inr ⟨_,q ▸ .plain i hi (by rw [q]; trivial),H⟩
 ·rename_i fs q;split at H
  ·rename_i q2; exact .inr ⟨_,.struct i hi fs q (yX q2),H⟩
  ·exact .inl H
 ·exact .inl H
def tW (E:Env) (o:Op) (s:List AV) (h:List ae) (stop:Prop) (k:AV→List ae→Prop):Prop :=
 match o with
 | .makeMap _ none=>l9 h (.map []) 0 fun h' n=>k (.map n) h'
 | .lookup t m x ok=>aM E.T t stop fun ti=>match ti.k with
  | .map kt e=>bW E.G s m stop fun
   | .map b=>aM h b stop fun
    | .map es=>bW E.G s x stop fun
     | .d y=>tV E kt stop fun kd=>wu E e kd y es fun v f=>match ok with
      |true=>k (.d (.aD [v,.bool f])) h
      |false=>k (.d v) h
     |_=>stop
    |_=>stop
   |_=>stop
  |_=>stop
 | .call { callee := .builtin .len,args:=args,argTypes:=ts }=>aM args.toList 0 stop fun m=>aM ts.toList 0 stop fun t=>aM E.T t stop fun ti=>match ti.k with
  | .map _ _=>bW E.G s m stop fun
   | .map b=>aM h b stop fun
    | .map es=>k (.d (.int .i64 es.length)) h
    |_=>stop
   |_=>stop
  |_=>stop
 | .mapUpdate t m x v=>aM E.T t stop fun ti=>match ti.k with
  | .map kt _=>bW E.G s m stop fun
   | .map b=>aM h b stop fun
    | .map es=>bW E.G s x stop fun
     | .d y=>bW E.G s v stop fun
      | .d z=>tV E kt stop fun kd=>need (cW E.T kd y∧∀ p∈es,cW E.T kd p.1) (fy h b (.map (bO y z es)) fun h'=>k (.d .undef) h')
      |_=>stop
     |_=>stop
    |_=>stop
   |_=>stop
  |_=>stop
 |_=>stop
theorem NZ (hE:E.OK) {o:Op} {stop:Prop} {k:AV→List ae→Prop} (H:tW E o s h stop k):stop∨∃ v h',k v h'∧bC E o s h v h':=by
 unfold tW at H;split at H
 ·rw [pU,Nat.zero_add] at H;exact .inr ⟨_,_,H,NS⟩
 ·rename_i t m x ok;rcases a7 H with H | ⟨ti,bP,H⟩
  ·exact .inl H
  split at H
  ·rename_i kt e hk;rcases b8 H with H | ⟨a,ha,H⟩
   ·exact .inl H
   split at H
   ·rename_i b;rcases a7 H with H | ⟨bx,hb,H⟩
    ·exact .inl H
    split at H
    ·rename_i es;rcases b8 H with H | ⟨y,hy,H⟩
     ·exact .inl H
     split at H
     ·rename_i y;rcases y5 H with H | ⟨kd,hT,H⟩
      ·exact .inl H
      obtain ⟨z,zv,f1,f2,f3,f4,H⟩:=NU H;have:=NV (s:=s) hE bP hk hT hb ha hy f1 f2 f3 f4 ok;cases ok with
      |true=>exact .inr ⟨_,_,H,this⟩
      |false=>exact .inr ⟨_,_,H,this⟩
     ·exact .inl H
    ·exact .inl H
   ·exact .inl H
  ·exact .inl H
 ·rename_i args ts;rcases a7 H with H | ⟨m,hm,H⟩
  ·exact .inl H
  rcases a7 H with H | ⟨t,ht,H⟩
  ·exact .inl H
  rcases a7 H with H | ⟨ti,bP,H⟩
  ·exact .inl H
  split at H
  ·rename_i kt e hk;rcases b8 H with H | ⟨a,ha,H⟩
   ·exact .inl H
   split at H
   ·rename_i b;rcases a7 H with H | ⟨bx,hb,H⟩
    ·exact .inl H
    split at H
    ·exact .inr ⟨_,_,H,NY hE hm ht bP hk hb ha⟩
    ·exact .inl H
   ·exact .inl H
  ·exact .inl H
 ·rename_i t m x v;rcases a7 H with H | ⟨ti,bP,H⟩
  ·exact .inl H
  split at H
  ·rename_i kt e hk;rcases b8 H with H | ⟨a,ha,H⟩
   ·exact .inl H
   split at H
   ·rename_i b;rcases a7 H with H | ⟨bx,hb,H⟩
    ·exact .inl H
    split at H
    ·rename_i es;rcases b8 H with H | ⟨y,hy,H⟩
     ·exact .inl H
     split at H
     ·rename_i y;rcases b8 H with H | ⟨z,hz,H⟩
      ·exact .inl H
      split at H
      ·rename_i z;rcases y5 H with H | ⟨kd,hT,H⟩
       ·exact .inl H
       obtain ⟨⟨f1,f2⟩,H⟩:=lj H;rw [fY] at H;exact .inr ⟨_,_,H,Gt hE (.inl rfl) bP hk hT hb ha hy hz f1 f2⟩
      ·exact .inl H
     ·exact .inl H
    ·exact .inl H
   ·exact .inl H
  ·exact .inl H
 ·exact .inl H
def n4 (E:Env) (o:Op) (s:List AV) (h:List ae) (stop:Prop) (k:AV→List ae→Prop):Prop:=oU E.T E.G o s h (B1 E o s (tW E o s h stop k) fun v=>k v h) k
theorem Cb (hE:E.OK) {o:Op} {stop:Prop} {k:AV→List ae→Prop} (H:n4 E o s h stop k):stop∨∃ v h',k v h'∧bC E o s h v h':=by
 rcases NA hE H with H | H
 ·rcases NK H with H | ⟨v,H,ho⟩
  ·exact NZ hE H
  ·exact .inr ⟨v,h,H,ho h⟩
 ·exact .inr H
end
end Go.aw
end
