/- Several texts of mine, one behind the other. Conditions: as each says. -/
import Derived.Test.YtcmnpelmmekdkaaGreatDoorY0
import Derived.RangeFuncNested
import Derived.RangeFuncLeaves
import Derived.Laws.AppendOwn
import Derived.Laws.MakeOwn
import Derived.Laws.StructEq
import Derived.Laws.BytesString
import Derived.Lib.ConvBytes
import Derived.WideKeyRuns
import Derived.MapKept
set_option linter.unusedVariables false
set_option linter.unusedSimpArgs false
section
namespace Go.ax
open Go Go.RowKit
inductive aG where
 |code (c:Code)
 |inBlock (id:Nat)
 |inLoop (c:Code)
 |bE (ops:Array Oper) (l:List Oper)
 |ql (l:Nat)
 |tF
def aG.bM:aG→Item
 | .code c => .code c
 | .inBlock id => .inBlock id
 | .inLoop c => .inLoop c
 | .bE ops l => .inRegion ops ((List.range ops.size).drop (ops.size - l.length))
 | .ql l => .inRangeFunc l
 | .tF => .beginRound
def aG.ok:aG→Prop
 | .bE ops l=>∃ n,n≤ops.size∧l=ops.toList.drop n
 |_=>True
structure ie where
 f:FuncId
 cE:Option Nat
 aH:List Nat
def marks (l:List Nat):List Deferred:=l.map fun d=>{ target := .collected d,args := #[] }
structure cC where
 ae:ie
 todo:List aG
 jh:List AV
def bf (x:ie):Frame:={ (default:Frame) with fn:=x.f,kind := .normal,roundOf:=x.cE }
def cC.bM (f:cC) (t:Array Value):Frame:=(bf f.ae).atR ⟨t,marks f.ae.aH⟩ (f.todo.map aG.bM)
def cC.ok (f:cC):Prop:=∀ i∈f.todo,i.ok
def eY:List cC→List (Array Value)→List Frame
 |f::fs,t::ts=>f.bM t::eY fs ts
 |_,_=>[]
def CR (c:Cx):List cC→List (Array Value)→Prop
 | [],[]=>True
 |f::fs,t::ts=>VS c f.jh t∧f.ok∧CR c fs ts
 |_,_=>False
theorem qm {c c':Cx} (h:∀ x v,VR c x v→VR c' x v):∀ {fs:List cC} {ts:List (Array Value)},CR c fs ts→CR c' fs ts
 | [],[],_=>trivial
 |_::_,_::_,h'=>⟨⟨h'.1.1,fun i x v hx hv=>h x v (h'.1.2 i x v hx hv)⟩,h'.2.1,qm h h'.2.2⟩
theorem Step.cr {c c':Cx} (h:Step c c'):∀ {fs:List cC} {ts:List (Array Value)},CR c fs ts→CR c' fs ts
 | [],[],_=>trivial
 |_::_,_::_,h'=>⟨h.vs h'.1,h'.2.1,h.cr h'.2.2⟩
def yq (c0 c:Cx) (i:Nat):ag→Prop
 | .cells cs=>(∃ cs',c.heap[i]? = some (.cells cs')∧c.own i=c0.own i∧cs'.length=cs.length)∨c.heap[i]? = some .gone
 | .arr _ ts l=>(∃ g' l',c.heap[i]? = some (.arr g' ts l')∧(0<g'∨g'=0∧l'.length=l.length∧c.own i=c0.own i))∨c.heap[i]? = some .gone
 | .map _=>(∃ ew,c.heap[i]? = some (.map ew)∧c.own i=c0.own i)∨c.heap[i]? = some .gone
 | .gone=>c.heap[i]? = some .gone
structure Rel (c0 c:Cx):Prop where
 au:c.au=c0.au
 os:c.w.os=c0.w.os
 tape:c.w.tape=c0.w.tape
 output:c.w.output=c0.w.output
 size:c0.w.heap.size≤c.w.heap.size
 keep:∀ b,b<c0.w.heap.size→(∀ i n,c0.own i≠some (b,n))→c.w.heap[b]? = c0.w.heap[b]?
 dC:∀ i b n,c.own i=some (b,n)→b<c0.w.heap.size→∃ m,c0.own i=some (b,m)
 boxes:∀ i bx,c0.heap[i]? = some bx→yq c0 c i bx
def Bq (h:List ag):Prop:=∀ (i g:Nat) (ts:Nat × Nat) (l:List DV),h[i]? = some (.arr g ts l)→g=0
theorem Rel.refl (c:Cx) (hf:Bq c.heap):Rel c c:=⟨rfl,rfl,rfl,rfl,Nat.le_refl _,fun _ _ _=>rfl,fun i b n h _=>⟨n,h⟩,fun i bx h=>by
  cases bx with
  |cells cs=>exact .inl ⟨cs,h,rfl,rfl⟩
  |arr g sz l=>exact .inl ⟨g,l,h,.inr ⟨hf i g sz l h,rfl,rfl⟩⟩
  |map es=>exact .inl ⟨es,h,rfl⟩
  |gone=>exact h⟩
theorem Rel.step {c0 c c':Cx} (h:Rel c0 c) (k:Step c c'):Rel c0 c' where
 au:=k.au.trans h.au
 os:=k.os.trans h.os
 tape:=k.tape.trans h.tape
 output:=k.output.trans h.output
 size:=Nat.le_trans h.size k.size
 keep:=fun x hx hn=>by
  rw [k.keep x (Nat.lt_of_lt_of_le hx h.size) (fun i n hi=>by obtain ⟨m,hj⟩:=h.dC i x n hi hx; exact hn i m hj)];exact h.keep x hx hn
 dC:=fun i x n hi hx=>by
  obtain ⟨m,hj⟩:=k.dC i x n hi (Nat.lt_of_lt_of_le hx h.size);exact h.dC i x m hj hx
 boxes:=fun i bx hi=>by
  have h1:=h.boxes i bx hi;cases bx with
  |cells cs =>
   rcases h1 with ⟨cs',h1,h2,h3⟩ | h1
   ·rcases k.boxes i _ h1 with ⟨D3,k1,k2,k3⟩ | k1
    ·exact .inl ⟨D3,k1,k2.trans h2,k3.trans h3⟩
    ·exact .inr k1
   ·exact .inr (k.boxes i _ h1)
  |arr g sz l =>
   rcases h1 with ⟨g',l',h1,h2⟩ | h1
   ·rcases k.boxes i _ h1 with ⟨D4,D5,k1,k2⟩ | k1
    ·refine .inl ⟨D4,D5,k1,?_⟩;rcases h2 with h2 | ⟨h2,h3,h4⟩ <;> rcases k2 with k2 | ⟨k2,k3,k4⟩
     ·left; omega
     ·left; omega
     ·left; omega
     ·exact .inr ⟨k2.trans h2,k3.trans h3,k4.trans h4⟩
    ·exact .inr k1
   ·exact .inr (k.boxes i _ h1)
  |map es =>
   rcases h1 with ⟨ew,h1,h2⟩ | h1
   ·rcases k.boxes i _ h1 with ⟨D6,k1,k2⟩ | k1
    ·exact .inl ⟨D6,k1,k2.trans h2⟩
    ·exact .inr k1
   ·exact .inr (k.boxes i _ h1)
  |gone=>exact k.boxes i _ h1
structure fw (c0 c:Cx):Prop where
 lim:∀ b,c0.au b→b<c0.w.heap.size
 nh:∀ i p,c0.own i=some p→i<c0.heap.length
 au:∀ b,c0.au b→c.au b
 qo:∀ b,c.au b→c0.au b∨c0.w.heap.size≤b
 os:c.w.os=c0.w.os
 tape:c.w.tape=c0.w.tape
 output:c.w.output=c0.w.output
 size:c0.w.heap.size≤c.w.heap.size
 keep:∀ b,b<c0.w.heap.size→(∀ i n,c0.own i≠some (b,n))→c.w.heap[b]? = c0.w.heap[b]?
 dC:∀ i b n,c.own i=some (b,n)→b<c0.w.heap.size→∃ m,c0.own i=some (b,m)
 boxes:∀ i bx,c0.heap[i]? = some bx→yq c0 c i bx
theorem Rel.x {c0 c:Cx} (h:Rel c0 c) (hb:∀ b,c0.au b→b<c0.w.heap.size) (ho:∀ i b n,c0.own i=some (b,n)→b<c0.w.heap.size∧i<c0.heap.length):fw c0 c:=⟨hb,fun i p hp=>(ho i p.1 p.2 hp).2,fun b h'=>by rw [h.au]; exact h',fun b h'=>by rw [h.au] at h'; exact .inl h',h.os,h.tape,h.output,h.size,h.keep,h.dC,h.boxes⟩
theorem fw.step {c0 c c':Cx} (h:fw c0 c) (k:Step c c'):fw c0 c':=by
 have h1:Rel ({ c0 with au:=c.au }) c:=⟨rfl,h.os,h.tape,h.output,h.size,h.keep,h.dC,fun i bx hi=>by
  have:=h.boxes i bx hi
  cases bx <;> exact this⟩
 have h2:=h1.step k
 exact ⟨h.lim,h.nh,fun b hb=>by rw [k.au]; exact h.au b hb,fun b hb=>by rw [k.au] at hb; exact h.qo b hb,h2.os,h2.tape,h2.output,h2.size,h2.keep,h2.dC,fun i bx hi=>by
  have:=h2.boxes i bx hi
  cases bx <;> exact this⟩
def Cx.ob (c:Cx) (au:Nat→Prop):Cx:={ c with au:=au }
theorem fw.clean {c0 c:Cx} (h:fw c0 c):Rel c0 (c.ob c0.au):=⟨rfl,h.os,h.tape,h.output,h.size,h.keep,h.dC,fun i bx hi=>by
 have:=h.boxes i bx hi
 cases bx <;> exact this⟩
theorem ni {c c':Cx} {i:Nat} {bx:ag} (h1:c.heap[i]? = some bx) (h2:c'.heap[i]? = c.heap[i]?) (h3:c'.own i=c.own i):tj c c' i bx:=by
 rw [h1] at h2;cases bx with
 |cells cs=>exact .inl ⟨cs,h2,h3,rfl⟩
 |arr g sz l=>exact .inl ⟨g,l,h2,.inr ⟨rfl,rfl,h3⟩⟩
 |map es=>exact .inl ⟨es,h2,h3⟩
 |gone=>exact h2
theorem jE.gen {c c':Cx} (lM:∀ x v,VR c x v→VR c' x v) (eZ:∀ x v,VD c.bad c.w x v→VD c'.bad c'.w x v) {i:Nat} {bx:ag} (hb:jE c i bx) (ho:c'.own i=c.own i) (hw:∀ b n,c.own i=some (b,n)→c'.w.heap[b]? = c.w.heap[b]?):jE c' i bx:=by
 cases bx with
 |cells cs =>
  obtain ⟨blk,cap,vs,ty,h1,h2,h3,h4⟩:=hb;exact ⟨blk,cap,vs,ty,ho.trans h1,(hw blk cap h1).trans h2,h3,fun j x v hx hv=>lM x v (h4 j x v hx hv)⟩
 |arr g ts l =>
  obtain ⟨h0,h1,h2⟩:=hb;refine ⟨h0,h1,?_⟩;rcases h2 with ⟨h2,h3⟩ | ⟨blk,cap,vs,h2,h3,h4,h5,h6,h7⟩
  ·exact .inl ⟨ho.trans h2,h3⟩
  ·refine .inr ⟨blk,cap,vs,ho.trans h2,(hw blk cap h2).trans h3,h4,h5,h6,fun i j e x he hx=>?_⟩;obtain ⟨v,h8,x8,h9⟩:=h7 i j e x he hx;exact ⟨v,h8,x8,eZ x v h9⟩
 |map es =>
  obtain ⟨blk,cap,en,ck,h1,h2,h3,h4⟩:=hb;exact ⟨blk,cap,en,ck,ho.trans h1,(hw blk cap h1).trans h2,h3,fun j k x m hx hm=>⟨eZ _ _ (h4 j k x m hx hm).1,eZ _ _ (h4 j k x m hx hm).2⟩⟩
 |gone=>exact ho.trans hb
theorem JB {c:Cx} {au:Nat→Prop} (hb:∀ b,au b→c.au b) (b:Nat) (_:b<c.w.heap.size) (hn:¬ c.bad b):¬ (c.ob au).bad b∧(c.ob au).w.heap[b]? = c.w.heap[b]? :=
 ⟨fun h=>hn (h.elim (fun h => .inl (hb b h)) .inr),rfl⟩
theorem Et {c:Cx} {au:Nat→Prop} (hb:∀ b,au b→c.au b) {x:AV} {v:Value} (hv:VR c x v):VR (c.ob au) x v:=tn (JB hb) (fun _ _ hi=>ni hi rfl rfl) hv
theorem aE.ob {G:List (Nat × DV)} {c:Cx} {au:Nat→Prop} (ho:aE G c) (hb:∀ b,au b→c.au b):aE G (c.ob au) where
 bD:=fun b h=>ho.bD b (hb b h)
 bI:=ho.bI
 inj:=ho.inj
 sep:=fun i b n hi h=>ho.sep i b n hi (hb b h)
 box:=fun i bx hi=>(ho.box i bx hi).gen (fun _ _=>Et hb) (fun _ _ hv=>hv.mono (JB hb)) rfl (fun _ _ _=>rfl)
 fO:=fun g e hg=>Et hb (ho.fO g e hg)
structure Row where
 blk:Nat
 cap:Nat
 ts:Nat × Nat
 l:List DV
structure qp (lim:Nat) (c:Cx) (r:Row):Prop where
 au:c.au r.blk
 new:lim≤r.blk
 pos:0<r.ts.2
 len:∀ (i:Nat) (e:DV),r.l[i]? = some e→e.cells.length=r.ts.2
 mem:∃ vs:Array Value,c.w.heap[r.blk]? = some (.cells vs r.ts.1 (0,0))∧vs.size=r.cap*r.ts.2∧r.l.length≤r.cap∧r.cap≤maxLen ∧
  ∀ (i j:Nat) (e x:DV),r.l[i]? = some e→e.cells[j]? = some x→∃ v,vs[i*r.ts.2+j]? = some v∧v.oneCell'=true∧VD c.bad c.w x v
structure Iter where
 bm:Nat
 r:Nat
 en:Array MapEntry
 ck:Nat
 since:Nat
 seen:List Nat
 es:List (DV × DV)
structure lN (lim:Nat) (c:Cx) (i:Iter):Prop where
 Eu:c.au i.bm
 yr:c.au i.r
 JC:lim≤i.r
 map:c.w.heap[i.bm]? = some (.map i.en i.ck)
 iter:∃ c0,i.since≤c0∧(i.seen≠[]→c0=i.ck)∧c.w.heap[i.r]? = some (.mapIter (some i.bm) i.since ((i.seen.map fun j=>((i.en[j]?).map (·.born)).getD 0).toArray) c0)
 old:∀ x∈i.en.toList,x.born<i.since
 qs:o3 i.en i.ck i.es.length
 val:∀ (j:Nat) (k x:DV) (m:MapEntry),i.es[j]? = some (k,x)→i.en[j]? = some m→VD c.bad c.w k m.key∧VD c.bad c.w x m.val
 lt:∀ j∈i.seen,j<i.en.size
structure mA where
 l:Nat
 d:Nat
 st:LoopState
 pe:Option Code
 fn:FuncId
 tm:Array Value
 ps:Array Tmp
 assign:Code
 body:Code
 jh:List AV
def mA.fj (i:mA):Loop:={ state:=i.st,pending:=i.pe,fn:=i.fn,tmps:=i.tm,params:=i.ps,assign:=i.assign,body:=i.body,defers:=i.d }
structure oc (lim:Nat) (c:Cx) (i:mA):Prop where
 au:c.au i.l
 new:lim≤i.l
 mem:c.w.heap[i.l]? = some (.loop i.fj)
 jh:VS c i.jh i.tm
structure rV (lim:Nat) (c:Cx) (d:Nat):Prop where
 au:c.au d
 new:lim≤d
 mem:c.w.heap[d]? = some (.deferred (some []))
inductive bU where
 |row (r:Row)
 |iter (i:Iter)
 |loop (i:mA)
 |mark (d:Nat)
def bU.dc:bU→List Nat
 | .row r=>[r.blk]
 | .iter i=>[i.bm,i.r]
 | .loop i=>[i.l]
 | .mark d=>[d]
def iO (lim:Nat) (c:Cx):bU→Prop
 | .row r=>qp lim c r
 | .iter i=>lN lim c i
 | .loop i=>oc lim c i
 | .mark d=>rV lim c d
structure ig (lim:Nat) (c:Cx) (rows:List bU):Prop where
 each:∀ r∈rows,iO lim c r
 nodup:(rows.flatMap bU.dc).Nodup
theorem ig.nil {lim:Nat} {c:Cx}:ig lim c []:=⟨fun r hr=>by simp at hr,List.nodup_nil⟩
theorem qp.gen {lim:Nat} {c c':Cx} {r:Row} (h:qp lim c r) (hb:c'.au r.blk) (hw:c'.w.heap[r.blk]? = c.w.heap[r.blk]?) (eZ:∀ x v,VD c.bad c.w x v→VD c'.bad c'.w x v):qp lim c' r:=by
 obtain ⟨h1,h2,h3,h4,vs,h5,h6,h7,h8,h9⟩:=h;exact ⟨hb,h2,h3,h4,vs,hw.trans h5,h6,h7,h8,fun i j e x he hx=>by obtain ⟨v,k1,k2,k3⟩:=h9 i j e x he hx; exact ⟨v,k1,k2,eZ x v k3⟩⟩
theorem lN.gen {lim:Nat} {c c':Cx} {i:Iter} (h:lN lim c i) (hb:c'.au i.bm) (hr:c'.au i.r) (hw:c'.w.heap[i.bm]? = c.w.heap[i.bm]?) (Br:c'.w.heap[i.r]? = c.w.heap[i.r]?) (eZ:∀ x v,VD c.bad c.w x v→VD c'.bad c'.w x v):lN lim c' i:=by
 obtain ⟨h1,h2,h3,h4,h5,h6,h7,h8,h9⟩:=h;exact ⟨hb,hr,h3,hw.trans h4,(by obtain ⟨c0,k1,k0,k2⟩:=h5; exact ⟨c0,k1,k0,Br.trans k2⟩),h6,h7,fun j k x m h1 h2=>⟨eZ _ _ (h8 j k x m h1 h2).1,eZ _ _ (h8 j k x m h1 h2).2⟩,h9⟩
theorem iO.au {lim:Nat} {c:Cx}:∀ {g:bU},iO lim c g→∀ b∈g.dc,c.au b
 | .row r,h,b,hb=>by simp [bU.dc] at hb; subst hb; exact qp.au h
 | .iter i,h,b,hb=>by simp [bU.dc] at hb; rcases hb with rfl | rfl; exact lN.Eu h; exact lN.yr h
 | .loop i,h,b,hb=>by simp [bU.dc] at hb; subst hb; exact oc.au h
 | .mark d,h,b,hb=>by simp [bU.dc] at hb; subst hb; exact rV.au h
theorem iO.gen {lim:Nat} {c c':Cx} {g:bU} (h:iO lim c g) (hb:∀ b∈g.dc,c'.au b∧c'.w.heap[b]? = c.w.heap[b]?) (eZ:∀ x v,VD c.bad c.w x v→VD c'.bad c'.w x v) (lM:∀ x v,VR c x v→VR c' x v):iO lim c' g:=by
 cases g with
 |loop i =>
  obtain ⟨h1,h2,h3,h4⟩:=h;have:=hb i.l (by simp [bU.dc]);exact ⟨this.1,h2,this.2.trans h3,h4.1,fun j x v hx hv=>lM x v (h4.2 j x v hx hv)⟩
 |mark d =>
  obtain ⟨h1,h2,h3⟩:=h;have:=hb d (by simp [bU.dc]);exact ⟨this.1,h2,this.2.trans h3⟩
 |row r=>exact qp.gen h (hb _ (by simp [bU.dc])).1 (hb _ (by simp [bU.dc])).2 eZ
 |iter i=>exact lN.gen h (hb i.bm (by simp [bU.dc])).1 (hb i.r (by simp [bU.dc])).1 (hb i.bm (by simp [bU.dc])).2 (hb i.r (by simp [bU.dc])).2 eZ
theorem ig.step {G:List (Nat × DV)} {lim:Nat} {c c':Cx} {rows:List bU} (h:ig lim c rows) (ho:aE G c) (st:Step c c'):ig lim c' rows :=
 ⟨fun r hr=>(h.each r hr).gen (fun b hb=>by
  have h1:=(h.each r hr).au b hb
  exact ⟨by rw [st.au]; exact h1,st.keep b (ho.bD _ h1) (fun i n hi=>ho.sep i _ n hi h1)⟩) (fun _ _=>st.vd) (fun _ _=>st.vr),h.nodup⟩
def bU.flat:bU→Prop
 | .loop _=>False
 |_=>True
structure ep (lim:Nat) (c:Cx) (rows loops:List bU):Prop where
 all:ig lim c (rows++loops)
 flat:∀ g∈rows,g.flat
theorem ep.nil {lim:Nat} {c:Cx}:ep lim c [] []:=⟨.nil,fun g h=>by simp at h⟩
theorem ep.step {G:List (Nat × DV)} {lim:Nat} {c c':Cx} {rows loops:List bU} (h:ep lim c rows loops) (ho:aE G c) (st:Step c c'):ep lim c' rows loops:=⟨h.all.step ho st,h.flat⟩
structure FX where
 f0:FuncId
 cE:Option Nat
 aH:List Nat
 cls:List cC
 loops:List bU
 inl:List FuncId
structure bY where
 n:Nat
 Q:AV→List ag→Prop
 rows:List bU
 fx:FX
@[irreducible] def AW (E : Env) (f0 : FuncId) (cur : cC) (cls : List cC) (h : List ag) (R : bY) : Prop :=
 ∀ (c0 c:Cx) (t:Array Value) (ts:List (Array Value)),c0.heap.length=R.n→cur.ok→c.heap=h→aE E.G c→fw c0 c→ep c0.w.heap.size c R.rows R.fx.loops→VS c cur.jh t→CR c cls ts→∀ cs,∃ (c':Cx) (fr:Frame) (r:AV) (v:Value),
  R.Q r c'.heap∧VR c' r v∧aE E.G c'∧fw c0 c'∧Steps E.P (lone (cur.bM t) (eY cls ts++cs) c.w) (lone fr cs c'.w)∧fr.fn=f0∧fr.leaving E.P c'.w (.returned v)
def Ev (E:Env) (cur:cC) (cls:List cC) (h:List ag) (cur':cC) (cls':List cC) (h':List ag):Prop :=
 ∀ (c:Cx) (t:Array Value) (ts:List (Array Value)),cur.ok→c.heap=h→aE E.G c→VS c cur.jh t→CR c cls ts→∃ (c':Cx) (t':Array Value) (ea:List (Array Value)),
  cur'.ok∧c'.heap=h'∧aE E.G c'∧VS c' cur'.jh t'∧CR c' cls' ea∧Step c c'∧∀ cs,Steps E.P (lone (cur.bM t) (eY cls ts++cs) c.w) (lone (cur'.bM t') (eY cls' ea++cs) c'.w)
theorem AW.jJ {E:Env} {f0:FuncId} {cur cur':cC} {cls cls':List cC} {h h':List ag} {R:bY} (hl:Ev E cur cls h cur' cls' h') (H:AW E f0 cur' cls' h' R):AW E f0 cur cls h R:=by
 unfold AW at H ⊢;intro c0 c t ts h0 h1 h2 h3 hr bX h4 h5 cs;obtain ⟨c',t',ea,k1,k2,k3,k4,k5,k6,k7⟩:=hl c t ts h1 h2 h3 h4 h5;obtain ⟨c2,fr,r,v,e1,e2,e3,e4,e5,e6⟩:=H c0 c' t' ea h0 k1 k2 k3 (hr.step k6) (bX.step h3 k6) k4 k5 cs;exact ⟨c2,fr,r,v,e1,e2,e3,e4,(k7 cs).trans e5,e6⟩
section
variable {E:Env} {f0:FuncId} {ae:ie} {k:List aG} {s:List AV} {cls:List cC} {h:List ag} {R:bY}
theorem Ev.todo {td Ew:List aG} (aK:(∀ i∈td,i.ok)→∀ i∈Ew,i.ok) (hs:∀ (a:Act) (cs:List Frame) (w:World),step E.P (lone ((bf ae).atR a (td.map aG.bM)) cs w) = .next (lone ((bf ae).atR a (Ew.map aG.bM)) cs w)) :
  Ev E ⟨ae,td,s⟩ cls h ⟨ae,Ew,s⟩ cls h:=fun c t ts h1 h2 h3 h4 h5 =>
 ⟨c,t,ts,aK h1,h2,h3,h4,h5,Step.refl c h3.bD,fun _ => .one (hs _ _ _)⟩
theorem eb {i:aG} (h:∀ j∈i::k,j.ok):∀ j∈k,j.ok:=fun j hj=>h j (List.mem_cons_of_mem _ hj)
theorem vU {c:Code}:(aG.code c).ok:=trivial
theorem Rx {n:Nat}:(aG.inBlock n).ok:=trivial
theorem JD {c:Code}:(aG.inLoop c).ok:=trivial
theorem gq {i:aG} (h:i.ok) (hk:∀ j∈k,j.ok):∀ j∈i::k,j.ok:=fun j hj=>by
 rcases List.mem_cons.1 hj with rfl | hj
 ·exact h
 ·exact hk j hj
theorem AW.skip (H:AW E f0 ⟨ae,k,s⟩ cls h R):AW E f0 ⟨ae,.code .skip::k,s⟩ cls h R := .jJ (.todo eb fun _ _ _=>stepR_skip) H
theorem AW.inBlock {id:Nat} (H:AW E f0 ⟨ae,k,s⟩ cls h R):AW E f0 ⟨ae,.inBlock id::k,s⟩ cls h R := .jJ (.todo eb fun _ _ _=>stepR_inBlock) H
theorem AW.seq {a b:Code} (H:AW E f0 ⟨ae,.code a :: .code b::k,s⟩ cls h R):AW E f0 ⟨ae,.code (.seq a b)::k,s⟩ cls h R := .jJ (.todo (fun h=>gq vU (gq vU (eb h))) fun _ _ _=>stepR_seq) H
theorem AW.block {id:Nat} {b:Code} (H:AW E f0 ⟨ae,.code b :: .inBlock id::k,s⟩ cls h R):AW E f0 ⟨ae,.code (.block id b)::k,s⟩ cls h R := .jJ (.todo (fun h=>gq vU (gq Rx (eb h))) fun _ _ _=>stepR_block) H
theorem AW.loop {b:Code} (H:AW E f0 ⟨ae,.code b :: .inLoop b::k,s⟩ cls h R):AW E f0 ⟨ae,.code (.loop b)::k,s⟩ cls h R := .jJ (.todo (fun h=>gq vU (gq JD (eb h))) fun _ _ _=>stepR_loop) H
theorem AW.inLoop {b:Code} (H:AW E f0 ⟨ae,.code b :: .inLoop b::k,s⟩ cls h R):AW E f0 ⟨ae,.inLoop b::k,s⟩ cls h R := .jJ (.todo (fun h=>gq vU (gq JD (eb h))) fun _ _ _=>stepR_inLoop) H
theorem AW.region {id:Nat} {ops:Array Oper} (H:AW E f0 ⟨ae,.bE ops ops.toList::k,s⟩ cls h R):AW E f0 ⟨ae,.code (.region id ops false)::k,s⟩ cls h R :=
 .jJ (.todo (fun h=>gq (i := .bE ops ops.toList) ⟨0,by simp,by simp⟩ (eb h)) fun a cs w=>by
  rw [List.map_cons,List.map_cons];simp only [aG.bM];rw [stepR_region]
  simp) H
theorem AW.Ry {ops:Array Oper} (H:AW E f0 ⟨ae,k,s⟩ cls h R):AW E f0 ⟨ae,.bE ops []::k,s⟩ cls h R :=
 .jJ (.todo eb fun a cs w=>by
  rw [List.map_cons];simp only [aG.bM,List.length_nil,Nat.sub_zero]
  rw [List.drop_of_length_le (by simp),stepR_region_end]) H
def o8 (id:Nat):List aG→Option (List aG)
 | .inBlock i::r=>match Nat.beq i id with
  |true=>some r
  |false=>o8 id r
 |_::r=>o8 id r
 | []=>none
theorem tG {id:Nat}:∀ {l r:List aG},o8 id l=some r→exitTo id (l.map aG.bM)=some (r.map aG.bM)
 | .inBlock i::l,r,hl=>by
  simp only [o8] at hl;simp only [List.map_cons,aG.bM,exitTo];split at hl
  ·rename_i q; cases hl; rw [if_pos (by simpa using Nat.eq_of_beq_eq_true q)]
  ·rename_i q
   rw [if_neg (by intro hh; have : i = id := by simpa using hh
                  rw [this, Nat.beq_refl] at q; cases q)]
   exact tG hl
 | .code c::l,r,hl=>tG (l:=l) hl
 | .inLoop c::l,r,hl=>tG (l:=l) hl
 | .ql c::l,r,hl=>tG (l:=l) hl
 | .tF::l,r,hl=>tG (l:=l) hl
 | .bE ops q::l,r,hl=>tG (l:=l) hl
theorem tH {id:Nat}:∀ {l r:List aG},o8 id l=some r→(∀ i∈l,i.ok)→∀ i∈r,i.ok
 | .inBlock i::l,r,hl,hk=>by
  simp only [o8] at hl;split at hl
  ·cases hl; exact eb hk
  ·exact tH hl (eb hk)
 | .code c::l,r,hl,hk=>tH (l:=l) hl (eb hk)
 | .inLoop c::l,r,hl,hk=>tH (l:=l) hl (eb hk)
 | .ql c::l,r,hl,hk=>tH (l:=l) hl (eb hk)
 | .tF::l,r,hl,hk=>tH (l:=l) hl (eb hk)
 | .bE ops q::l,r,hl,hk=>tH (l:=l) hl (eb hk)
theorem AW.exit {id:Nat} {r:List aG} (hr:o8 id k=some r) (H:AW E f0 ⟨ae,r,s⟩ cls h R):AW E f0 ⟨ae,.code (.exit id)::k,s⟩ cls h R :=
 .jJ (.todo (fun h=>tH hr (eb h)) fun _ _ _=>stepR_exit (tG hr)) H
theorem AW.cond {x:Operand} {a b:Code} {t:Bool} (hx:bp E.G s x (.d (.bool t))) (H:AW E f0 ⟨ae,.code (if t then a else b)::k,s⟩ cls h R):AW E f0 ⟨ae,.code (.cond x a b)::k,s⟩ cls h R :=
 .jJ (cur':=⟨ae,.code (if t then a else b)::k,s⟩) (cls':=cls) (h':=h) (fun c t' ts h1 h2 h3 h4 h5=>⟨c,t',ts,gq vU (eb h1),h2,h3,h4,h5,Step.refl c h3.bD,fun _ => .one (stepR_cond (tw (hx c ⟨t',marks ae.aH⟩ h3 h4)))⟩) H
theorem mB {ops:Array Oper} {o:Oper} {l:List Oper} (hk:(aG.bE ops (o::l)).ok):∃ i,ops[i]? = some o∧(aG.bE ops (o::l)).bM = .inRegion ops (i::(List.range ops.size).drop (ops.size - l.length))∧(aG.bE ops l).ok:=by
 obtain ⟨n,h1,h2⟩:=hk;have h3:(ops.toList.drop n).length=l.length+1:=by rw [← h2]; rfl
 have h4:ops.size - n=l.length+1:=by simpa using h3
 have hn:n<ops.size:=by omega
 refine ⟨n,?_,?_,n+1,by omega,?_⟩
 ·have:=congrArg (·[0]?) h2;simp at this
  simpa using this.symm
 ·simp only [aG.bM,List.length_cons]
  congr 1
  rw [show ops.size - (l.length+1)=n by omega,show ops.size - l.length=n+1 by omega];rw [List.drop_eq_getElem_cons (by simpa using hn)];simp
 ·have:=congrArg List.tail h2
  simpa using this
theorem Bs {P:Program} {o:Oper} {ρ : Operand→Value} {ro:Option Nat} {w w':World} {n:Next} (h:(execOp ρ o).run P w = .ok n w') (hn:∀ d,n ≠ .defer d):(o.semAt ro ρ).run P w = .ok n w':=by
 rw [Oper.semAt_eq]
 ·exact h
 ·intro c hc;simp only [execOp,hc,Sem.run_bind] at h;cases hr:(resolve ρ c o.type).run P w with
  |ok d w1 =>
   rw [hr] at h;simp only [Result.andThen_ok,Sem.run_pure] at h;cases h;exact hn d rfl
  |halt a b=>rw [hr] at h; cases h
theorem tI {P:Program} {b:Frame} {a:Act} {k:List Item} {cs:List Frame} {w w':World} {ops:Array Oper} {i:Nat} {rest:List Nat} {o:Oper} {v:Value} (ho:ops[i]? = some o) (hw:Region.wanted o (yielded ops a.tmps)=true) (hd:Ee P o a w v w') :
  step P (lone (b.atR a (.inRegion ops (i::rest)::k)) cs w) = .next (lone (b.atR (a.put o.dst v) (.inRegion ops rest::k)) cs w'):=by
 have hg:=stepGR_op (P:=P) (b:=b) (k:=k) (cs:=cs) (w:=w) (rest:=rest) ho hw;have fy:∀ v,(b.atR a (.inRegion ops (i::rest)::k)).finish v=b.atR (a.put o.dst v) (.inRegion ops rest::k):=by
  intro v; rw [Frame.finish_atR,ho]; rfl
 rcases hd with hr | ⟨hr,rfl⟩
 ·exact step_lone_go (by rw [hg,← fy]; simp [stepG.apply,Bs hr])
 ·exact step_lone_go (by rw [hg,← fy]; simp [stepG.apply,Bs hr])
def bG (s:List AV) (d:Option Nat) (v:AV):List AV:=match d with
 |some d=>s.set d v
 |none=>s
theorem di {α:Sort _} (s:List AV) (d:Option Nat) (v:AV) (k:List AV→α):bJ s d v k=k (bG s d v):=by
 cases d with
 |none=>rfl
 |some d=>simp only [bJ,gQ,bG]
theorem VS.bG {c:Cx} {a:Act} (hs:VS c s a.tmps) (d:Option Nat) {x:AV} {v:Value} (hv:VR c x v):VS c (bG s d x) (a.put d v).tmps:=by
 cases d with
 |none=>exact hs
 |some d=>exact hs.put d hv
theorem put_defers (a:Act) (d:Option Nat) (v:Value):(a.put d v)=⟨(a.put d v).tmps,a.defers⟩:=by cases d <;> rfl
def ik (ops:Array Oper) (o:Oper) (s:List AV) (b:Bool):Prop:=∀ (c:Cx) (t:Array Value),VS c s t→Region.wanted o (yielded ops t)=b
theorem eO {ops:Array Oper} {o:Oper} (h:o.guard=none):ik ops o s true:=fun _ _ _=>by simp [Region.wanted,h]
theorem Bt {ops:Array Oper} {o oj:Oper} {j d:Nat} {g b:Bool} (h:o.guard=some (j,g)) (hj:ops.toList[j]? = some oj) (hd:oj.dst=some d) (hs:s[d]? = some (.d (.bool b))):ik ops o s (b==g):=fun c t hv=>by
 have eA:d<t.size:=by
  rw [← hv.1];rcases Nat.lt_or_ge d s.length with h | h
  ·exact h
  ·rw [List.getElem?_eq_none h] at hs; cases hs
 have ht:t[d]? = some (.bool b):=by
  rw [Array.getElem?_eq_getElem eA,tw (hv.2 d _ _ hs (Array.getElem?_eq_getElem eA))]
 have dK:ops[j]? = some oj:=by simpa using hj
 simp only [Region.wanted,h,yielded,dK,hd,Option.bind_some,ht];cases b <;> cases g <;> rfl
theorem yu {ops:Array Oper} {o oj:Oper} {j d:Nat} {g:Bool} (h:o.guard=some (j,g)) (hj:ops.toList[j]? = some oj) (hd:oj.dst=some d) (hs:s[d]? = some (.d .undef)):ik ops o s false:=fun c t hv=>by
 have eA:d<t.size:=by
  rw [← hv.1];rcases Nat.lt_or_ge d s.length with h | h
  ·exact h
  ·rw [List.getElem?_eq_none h] at hs; cases hs
 have ht:t[d]? = some Go.undef:=by
  have:=hv.2 d _ _ hs (Array.getElem?_eq_getElem eA);rw [Array.getElem?_eq_getElem eA];generalize t[d]=u at this;cases this with
  |d _ _ hx=>cases hx; rfl
 have dK:ops[j]? = some oj:=by simpa using hj
 simp only [Region.wanted,h,yielded,dK,hd,Option.bind_some,ht];rfl
theorem AW.op {ops:Array Oper} {o:Oper} {l:List Oper} {v:AV} {h':List ag} (hw:ik ops o s true) (ho:aQ E o.op s h v h') (H:AW E f0 ⟨ae,.bE ops l::k,bG s o.dst v⟩ cls h' R):AW E f0 ⟨ae,.bE ops (o::l)::k,s⟩ cls h R :=
 .jJ (fun c t ts h1 h2 h3 h4 h5=>by
  obtain ⟨i,hi,hc,aK⟩:=mB (h1 _ (List.mem_cons_self ..));obtain ⟨c',u,k1,k2,k3,k4,k5⟩:=ho o c ⟨t,marks ae.aH⟩ rfl h2 h3 h4;refine ⟨c',((⟨t,marks ae.aH⟩:Act).put o.dst u).tmps,ts,gq aK (eb h1),k2,k3,VS.bG (a:=⟨t,marks ae.aH⟩) (k5.vs h4) o.dst k4,k5.cr h5,k5,fun cs => .one ?_⟩;simp only [cC.bM,List.map_cons,hc];rw [tI hi (hw c t h4) k1,put_defers]
  rfl) H
theorem AW.JE {ops:Array Oper} {o:Oper} {l:List Oper} (hw:ik ops o s false) (H:AW E f0 ⟨ae,.bE ops l::k,bG s o.dst (.d .undef)⟩ cls h R):AW E f0 ⟨ae,.bE ops (o::l)::k,s⟩ cls h R :=
 .jJ (fun c t ts h1 h2 h3 h4 h5=>by
  obtain ⟨i,hi,hc,aK⟩:=mB (h1 _ (List.mem_cons_self ..));refine ⟨c,((⟨t,marks ae.aH⟩:Act).put o.dst Go.undef).tmps,ts,gq aK (eb h1),h2,h3,VS.bG (a:=⟨t,marks ae.aH⟩) h4 o.dst (.d _ _ .undef),h5,Step.refl c h3.bD,fun cs => .one ?_⟩;simp only [cC.bM,List.map_cons,hc];rw [stepR_op_skip (by simp [hi]; exact hw c t h4)];simp only [hi,Option.bind_some];rw [put_defers]
  rfl) H
end
end Go.ax
end
section
namespace Go.ax
open Go Go.RowKit
def lO (bad:Nat→Prop) (w:World) (l:List DV) (vs:List Value):Prop:=l.length=vs.length∧∀ (j:Nat) (x:DV) (v:Value),l[j]? = some x→vs[j]? = some v→VD bad w x v
def vV (G:List (Nat × DV)) (au:Nat→Prop) (w:World):Prop:=∀ g e,(g,e)∈G→VR ⟨fun _=>none,[],au,w⟩ (.b8 e 0) (.pointer (some ⟨g,0,none⟩))
def qu (P : Program) (f : FuncId) : Prop := ∃ fn, P.funcs[f]? = some fn ∧ fn.body.isNone = false ∧ (fn.name == "runtime.NumGoroutine") = false
@[irreducible] def aA (E : Env) (f : FuncId) (args : List DV) (R : DV → Prop) : Prop :=
 qu E.P f∧∀ (au:Nat→Prop) (w:World) (vs:List Value),(∀ b,au b→b<w.heap.size)→vV E.G au w→lO au w args vs →
  Calls E.P f vs.toArray w fun e w'=>∃ v r,e = .returned v∧R r∧VD au w' r v∧Proofs.YtcmnpelmmekdkaaGreatDoor.Ext w w'
theorem yw {au:Nat→Prop} {w:World} {h:List ag} {b:Nat}:(⟨fun _=>none,h,au,w⟩:Cx).bad b↔au b :=
 ⟨fun hb=>hb.elim id (fun ⟨_,_,h⟩=>(by cases h)),.inl⟩
theorem yx {au:Nat→Prop} {w:World} {h:List ag} {x:DV} {v:Value} (hv:VD au w x v):VD (⟨fun _=>none,h,au,w⟩:Cx).bad w x v :=
 hv.mono fun _ _ hn=>⟨fun hb=>hn (yw.1 hb),rfl⟩
theorem aA.mono {E:Env} {f:FuncId} {args:List DV} {R R':DV→Prop} (H:aA E f args R) (hr:∀ r,R r→R' r):aA E f args R':=by
 unfold aA at H ⊢;exact ⟨H.1,fun au w vs h1 h2 h3=>(H.2 au w vs h1 h2 h3).mono fun e w' ⟨v,r,k1,k2,k3,k4⟩=>⟨v,r,k1,hr r k2,k3,k4⟩⟩
def nj (args:List AV) (n:Nat):List AV:=args++List.replicate (n - args.length) (.d .undef)
theorem Ex {c:Cx} {args:List AV} {vs:List Value} (n:Nat) (hv:VL c args vs):VS c (nj args n) (vs.toArray++Array.replicate (n - vs.toArray.size) undef):=by
 have hl:=hv.1;refine ⟨by simp [nj,hl],fun i x v hx hu=>?_⟩;simp only [nj] at hx;rcases Nat.lt_or_ge i args.length with hi | hi
 ·rw [List.getElem?_append_left hi] at hx;rw [Array.getElem?_append_left (by simp; omega)] at hu;exact hv.2 i x v hx (by simpa using hu)
 ·rw [List.getElem?_append_right hi,List.getElem?_replicate] at hx;rw [Array.getElem?_append_right (by simp; omega)] at hu;split at hx
  ·cases hx;simp [Array.getElem?_replicate] at hu;obtain ⟨-,rfl⟩:=hu;exact .d _ _ .undef
  ·cases hx
section
variable {E:Env} {f0:FuncId} {ae:ie} {k:List aG} {s:List AV} {cls:List cC} {h:List ag} {R:bY}
theorem Rel.ext {c0 c:Cx} (h:Rel c0 c) (hn:∀ i,c0.own i=none):Proofs.YtcmnpelmmekdkaaGreatDoor.Ext c0.w c.w:=⟨h.os,h.tape,h.output,h.size,fun b hb=>h.keep b hb (fun i n hi=>by rw [hn i] at hi; cases hi)⟩
@[irreducible] def aC (E : Env) (f : FuncId) (h : List ag) (args : List AV) (Q : AV → List ag → Prop) : Prop :=
 qu E.P f∧Bq h∧∀ (c:Cx) (vs:List Value),c.heap=h→aE E.G c→VL c args vs →
  Calls E.P f vs.toArray c.w fun e w'=>∃ (c':Cx) (r:AV) (v:Value),e = .returned v∧c'.w=w'∧Q r c'.heap∧VR c' r v∧aE E.G c'∧Rel c c'
theorem aC.mono {E:Env} {f:FuncId} {h:List ag} {args:List AV} {Q Q':AV→List ag→Prop} (H:aC E f h args Q) (hq:∀ r h,Q r h→Q' r h):aC E f h args Q':=by
 unfold aC at H ⊢;exact ⟨H.1,H.2.1,fun c vs h1 h2 h3=>(H.2.2 c vs h1 h2 h3).mono fun e w' ⟨c',r,v,k1,k2,k3,k4⟩=>⟨c',r,v,k1,k2,hq _ _ k3,k4⟩⟩
theorem aC.JF {f : FuncId} {fn : Func} {body : Code} {args : List AV} {Q : AV → List ag → Prop} (hf : E.P.funcs[f]? = some fn) (hb : fn.body = some body) (hn : (fn.name == "runtime.NumGoroutine") = false) (vW : Bq h)
  (H:AW E f ⟨⟨f,none,[]⟩,[.code body],nj args fn.ntmps⟩ [] h ⟨h.length,Q,[],⟨f,none,[],[],[],[]⟩⟩):aC E f h args Q:=by
 unfold AW at H;unfold aC;refine ⟨⟨fn,hf,by rw [hb]; rfl,hn⟩,vW,fun c vs h1 h2 h3=>?_⟩;intro cs;obtain ⟨c',fr,r,v,e1,e2,e3,e4,e5,e6,e7⟩:=H c c _ [] (by rw [h1]) (fun i hi=>by simp at hi; subst hi; trivial) h1 h2 ((Rel.refl c (by rw [h1]; exact vW)).x h2.bD h2.bI) .nil (Ex fn.ntmps h3) trivial cs;refine ⟨.returned v,c'.w,fr,⟨c'.ob c.au,r,v,rfl,rfl,e1,Et e4.au e2,e3.ob e4.au,e4.clean⟩,?_,e6,e7⟩;have Rz:Frame.enter E.P f vs.toArray .normal=(⟨⟨f,none,[]⟩,[.code body],nj args fn.ntmps⟩:cC).bM (vs.toArray++Array.replicate (fn.ntmps - vs.toArray.size) undef):=by
  simp [Frame.enter,cC.bM,Frame.atR,hf,hb,bf,aG.bM,marks]
 show Steps E.P _ _;rw [Rz];exact e5
theorem yy {P:Program} {o:Oper} {a:Act} {w:World} {fx:Operand} {args:Array Operand} {ts:Array TypeId} {f:FuncId} {v1 v2:Array Value} (h1:o.op = .call { callee := .value fx,args:=args,argTypes:=ts }) (hf:a.eval fx = .func (.func f) v1 v2) (hb:qu P f) :
  (execOp a.eval o).run P w = .ok (.enter f (v1++args.map a.eval++v2)) w:=by
 obtain ⟨fn,g1,g2,g3⟩:=hb;simp only [execOp,h1,resolve,hf,Deferred.ofValue,invoke,callFunc,Sem.run_bind,Sem.run_pure,Result.andThen_ok,program,Sem.run,g1,g3,g2,Bool.false_eq_true,if_false]
theorem Ey {P:Program} {b:Frame} {a:Act} {k:List Item} {cs:List Frame} {w:World} {ops:Array Oper} {i:Nat} {rest:List Nat} {o:Oper} {f:FuncId} {args:Array Value} (ho:ops[i]? = some o) (hw:Region.wanted o (yielded ops a.tmps)=true)
  (hr:(execOp a.eval o).run P w = .ok (.enter f args) w) :
  step P (lone (b.atR a (.inRegion ops (i::rest)::k)) cs w) = .next (lone (Frame.enter P f args .normal) (b.atR a (.inRegion ops (i::rest)::k)::cs) w):=by
 have hg:=stepGR_op (P:=P) (b:=b) (k:=k) (cs:=cs) (w:=w) (rest:=rest) ho hw;have tJ:=Bs (ro:=b.roundOf) hr (by simp);exact step_lone_go (by rw [hg]; simp [stepG.apply,tJ,Frame.atR])
theorem lP {c:Cx} {f:Fn} {a1 a2:List AV} {v:Value} (hv:VR c (.fn f a1 a2) v):∃ v1 v2:List Value,v = .func f v1.toArray v2.toArray∧VL c a1 v1∧VL c a2 v2:=by
 cases hv with
 |fn _ _ _ v1 v2 h1 h2 h3 h4=>exact ⟨v1.toList,v2.toList,by simp,⟨by simpa using h1,fun j x v hx hu=>h3 j x v hx (by simpa using hu)⟩,⟨by simpa using h2,fun j x v hx hu=>h4 j x v hx (by simpa using hu)⟩⟩
theorem VL.append {c:Cx} {a1 a2:List AV} {v1 v2:List Value} (h1:VL c a1 v1) (h2:VL c a2 v2):VL c (a1++a2) (v1++v2):=by
 refine ⟨by simp [h1.1,h2.1],fun j x v hx hv=>?_⟩;rcases Nat.lt_or_ge j a1.length with hj | hj
 ·rw [List.getElem?_append_left hj] at hx;rw [List.getElem?_append_left (by rw [← h1.1]; exact hj)] at hv;exact h1.2 j x v hx hv
 ·rw [List.getElem?_append_right hj] at hx;rw [List.getElem?_append_right (by rw [← h1.1]; exact hj),← h1.1] at hv;exact h2.2 _ x v hx hv
theorem AW.call {ops:Array Oper} {o:Oper} {l:List Oper} {fx:Operand} {args:Array Operand} {ts:Array TypeId} {f:FuncId} {a1 a2 av:List AV} {ds:List DV} {R1:DV→Prop} (hw:ik ops o s true) (ho:o.op = .call { callee := .value fx,args:=args,argTypes:=ts })
  (hf:bp E.G s fx (.fn (.func f) a1 a2)) (ha:gU E.G s args.toList av) (hd:a1++av++a2=ds.map .d) (hc:aA E f ds R1)
  (H:∀ r,R1 r→AW E f0 ⟨ae,.bE ops l::k,bG s o.dst (.d r)⟩ cls h R):AW E f0 ⟨ae,.bE ops (o::l)::k,s⟩ cls h R:=by
 unfold AW at H ⊢;unfold aA at hc;intro c0 c t ts h0 h1 h2 h3 hr bX h4 h5 cs;obtain ⟨i,hi,eB,aK⟩:=mB (h1 _ (List.mem_cons_self ..));obtain ⟨v1,v2,e1,e2,e3⟩:=lP (hf c ⟨t,marks ae.aH⟩ h3 h4);have e4:=ha c ⟨t,marks ae.aH⟩ h3 h4;have e5:=(e2.append e4).append e3;rw [hd] at e5;have eG:∀ b,c.bad b→b<c.w.heap.size:=fun b hb=>hb.elim (h3.bD b) fun ⟨j,n,hj⟩=>(h3.bI j b n hj).1;have yz:vV E.G c.bad c.w:=fun g e hg=>by
  have hp:∀ p,VR c (.b8 e 0) p→VR ⟨fun _=>none,[],c.bad,c.w⟩ (.b8 e 0) p:=fun p hp=>by
   cases hp with
   |b8 _ _ blk o' fv k1 k2 k3 k4=>exact .b8 _ _ blk o' fv (fun hb=>k1 (yw.1 hb)) k2 k3 (fun j x hx=>yx (k4 j x hx))
  exact hp _ (h3.fO g e hg)
 obtain ⟨e,w',fr,⟨v,r,rfl,hR,hv,hx⟩,Ez,od,EA⟩:=hc.2 c.bad c.w _ eG yz ⟨by simpa using e5.1,e5.o5⟩ ((bf ae).atR ⟨t,marks ae.aH⟩ (.inRegion ops (i::(List.range ops.size).drop (ops.size - l.length))::k.map aG.bM)::(eY cls ts++cs));obtain ⟨k1,k2⟩:=h3.grow hx;have tK:VS (c.dN w') (bG s o.dst (.d r)) ((⟨t,marks ae.aH⟩:Act).put o.dst v).tmps:=VS.bG (a:=⟨t,marks ae.aH⟩) (k2.vs h4) o.dst (.d _ _ hv);obtain ⟨c2,tL,r2,u2,q1,q2,q3,tM,q4,q5,q6⟩:=H r hR c0 (c.dN w') _ ts h0 (gq aK (eb h1)) h2 k1 (hr.step k2) (bX.step h3 k2) tK (k2.cr h5) cs;refine ⟨c2,tL,r2,u2,q1,q2,q3,tM,?_,q5,q6⟩;have cR:=yy (P:=E.P) (w:=c.w) (a:=⟨t,marks ae.aH⟩) ho e1 hc.1;have jK:(v1.toArray++args.map (⟨t,marks ae.aH⟩:Act).eval++v2.toArray)=(v1++args.toList.map (⟨t,marks ae.aH⟩:Act).eval++v2).toArray:=by
  apply Array.ext';simp
 rw [jK] at cR;have s1:=Ey (P:=E.P) (b:=bf ae) (k:=k.map aG.bM) (cs:=eY cls ts++cs) (rest:=(List.range ops.size).drop (ops.size - l.length)) hi (hw c t h4) cR;have s2:=step_leave_returned (c:=(bf ae).atR ⟨t,marks ae.aH⟩ (.inRegion ops (i::(List.range ops.size).drop (ops.size - l.length))::k.map aG.bM)) (cs:=eY cls ts++cs) EA;rw [Frame.finish_atR,hi] at s2;have EB:(⟨ae,.bE ops (o::l)::k,s⟩:cC).bM t=(bf ae).atR ⟨t,marks ae.aH⟩ (.inRegion ops (i::(List.range ops.size).drop (ops.size - l.length))::k.map aG.bM):=by
  simp only [cC.bM,List.map_cons,eB]
 rw [EB];refine .head s1 (Steps.trans Ez (.head s2 ?_));have aX:(bf ae).atR ((⟨t,marks ae.aH⟩:Act).put ((some o).bind (·.dst)) v) (.inRegion ops ((List.range ops.size).drop (ops.size - l.length))::k.map aG.bM)=(⟨ae,.bE ops l::k,bG s o.dst (.d r)⟩:cC).bM ((⟨t,marks ae.aH⟩:Act).put o.dst v).tmps:=by
  simp only [cC.bM,List.map_cons,aG.bM,Option.bind_some];rw [put_defers]
 rw [aX];exact q4
end
end Go.ax
end
section
namespace Go.ax
open Go Go.RowKit
section
variable {E:Env} {f0 ae:FuncId} {k:List aG} {s:List AV} {cls:List cC} {h:List ag} {R:bY}
def vX (G:List (Nat × DV)) (h:List ag) (x:AV) (r:DV):Prop:=∀ (c:Cx) (v:Value),aE G c→c.heap=h→VR c x v→VD c.au c.w r v
theorem JG {c:Cx} {x:DV} {v:Value} (hv:VD c.bad c.w x v):VD c.au c.w x v:=hv.mono fun _ _ hn=>⟨fun hb=>hn (.inl hb),rfl⟩
theorem RA {G:List (Nat × DV)} (x:DV):vX G h (.d x) x:=fun c v _ _ hv=>by cases hv with | d _ _ hv=>exact JG hv
theorem RB {G:List (Nat × DV)} {b g:Nat} {ts:Nat × Nat} {l:List DV} (hb:h[b]? = some (.arr g ts l)):vX G h (.own b g) (.sl l):=fun c v ho hh hv=>by
 subst hh;obtain ⟨q0,q1,q2⟩:=ho.box b _ hb;cases hv with
 |own _ _ _ l' blk cap k1 k2 =>
  rw [hb] at k1; cases k1;rcases q2 with ⟨q2,-⟩ | ⟨lI,ki,vs,q2,q3,q4,q5,q6,q7⟩
  ·rw [k2] at q2; cases q2
  ·rw [k2] at q2; cases q2;have bX:=ng q3;refine .sl l blk 0 cap ts.2 (fun i j=>vs.toList.getD (i*ts.2+j) undef) (fun _=>ho.sep b blk cap k2) q0 q5 q1 (fun i j e x he hx=>?_) (fun i j e x he hx=>?_) (fun i j e x he hx=>?_)
   ·obtain ⟨v,g1,-,g2⟩:=q7 i j e x he hx;rw [bX (i*ts.2+j) v (by simpa using g1)];simp [List.getD,g1]
   ·obtain ⟨v,g1,-,g2⟩:=q7 i j e x he hx;simp only [List.getD,Array.getElem?_toList,g1,Option.getD_some];exact JG g2
   ·obtain ⟨v,g1,g2,-⟩:=q7 i j e x he hx;simp only [List.getD,Array.getElem?_toList,g1,Option.getD_some];exact g2
 |iL _ _ _ k1 k2=>rw [hb] at k1; cases k1; exact .slnil
 |kg _ _ g' _ _ _ k1 k2 _=>rw [hb] at k1; cases k1; omega
 |jD _ _ _ k1 _=>rw [hb] at k1; cases k1
 |mu _ _ _ _ _ _ k1 _ _=>rw [hb] at k1; cases k1
def Bu {α:Sort _} (h:List ag) (x:AV) (stop:α) (k:DV→α):α :=
 match x with
 | .d x=>k x
 | .own b g=>aV h b stop fun
  | .arr g' _ l=>match Nat.beq g g' with
   |true=>k (.sl l)
   |false=>stop
  |_=>stop
 |_=>stop
theorem JI {G:List (Nat × DV)} {x:AV} {stop:Prop} {k:DV→Prop} (H:Bu h x stop k):stop∨∃ r,vX G h x r∧k r:=by
 unfold Bu at H;split at H
 ·exact .inr ⟨_,RA _,H⟩
 ·rcases bj H with h | ⟨bx,hb,H⟩
  ·exact .inl h
  split at H
  ·split at H
   ·rename_i q;have:=Nat.eq_of_beq_eq_true q;subst this;exact .inr ⟨_,RB hb,H⟩
   ·exact .inl H
  ·exact .inl H
 ·exact .inl H
def yA {α:Sort _} (d:AV→α→(DV→α)→α):List AV→(stop:α)→(List DV→α)→α
 | [],_,k=>k []
 |x::l,stop,k=>d x stop fun r=>yA d l stop fun l'=>k (r::l')
def RC (G:List (Nat × DV)) (h:List ag) (l:List AV) (r:List DV):Prop:=∀ (c:Cx) (vs:List Value),aE G c→c.heap=h→VL c l vs→lO c.au c.w r vs
theorem EC {G:List (Nat × DV)} {d:AV→Prop→(DV→Prop)→Prop} (hd:∀ {x:AV} {stop:Prop} {k:DV→Prop},d x stop k→stop∨∃ r,vX G h x r∧k r) {stop:Prop}:∀ {l:List AV} {k:List DV→Prop},yA d l stop k→stop∨∃ r,RC G h l r∧k r
 | [],k,H => .inr ⟨[],fun c vs _ _ hv=>⟨by simpa using hv.1,fun j x v hx=>by simp at hx⟩,H⟩
 |x::l,k,H=>by
  simp only [yA] at H;rcases hd H with h | ⟨r,hr,H⟩
  ·exact .inl h
  rcases EC hd H with h | ⟨rs,JJ,H⟩
  ·exact .inl h
  refine .inr ⟨r::rs,fun c vs h1 h2 hv=>?_,H⟩;cases vs with
  |nil=>have:=hv.1; simp at this
  |cons v vs =>
   obtain ⟨g1,g2⟩:=hv.head;have g3:=JJ c vs h1 h2 g2;refine ⟨by simp [g3.1],fun j y u hy hu=>?_⟩;cases j with
   |zero=>simp at hy hu; subst hy; subst hu; exact hr c v h1 h2 g1
   |succ j=>exact g3.2 j y u (by simpa using hy) (by simpa using hu)
def Bv {α:Sort _} (h:List ag) (x:AV) (stop:α) (k:DV→α):α :=
 match x with
 | .agg l=>yA (Bu h) l stop fun r=>k (.agg r)
 |x=>Bu h x stop k
theorem JK {G:List (Nat × DV)} {x:AV} {stop:Prop} {k:DV→Prop} (H:Bv h x stop k):stop∨∃ r,vX G h x r∧k r:=by
 unfold Bv at H;split at H
 ·rcases EC (G:=G) (h:=h) JI H with h | ⟨r,hr,H⟩
  ·exact .inl h
  refine .inr ⟨_,fun c v h1 h2 hv=>?_,H⟩;obtain ⟨vs,rfl,gT⟩:=rR hv;have:=hr c vs h1 h2 gT;exact .agg _ _ (by simpa using this.1) fun j x v hx hu=>this.2 j x v hx (by simpa using hu)
 ·exact JI H
def vY {α:Sort _} (T:List bB) (s:List AV) (h:List ag):List ResultVar→(stop:α)→(List AV→α)→α
 | [],_,k=>k []
 | .tmp t::l,stop,k=>aV s t stop fun v=>vY T s h l stop fun l'=>k (v::l')
 | .cell a t::l,stop,k=>aV T t stop fun i=>aV s a stop fun
  | .ptr b off=>aV h b stop fun
   | .cells c=>kP i c off stop fun v=>vY T s h l stop fun l'=>k (v::l')
   |_=>stop
  |_=>stop
def tN (t:Array Value):ResultVar→Sem Value
 | .tmp t'=>pure (t.getD t' undef)
 | .cell a t'=>do loadVar t' (← asAddr (t.getD a undef))
theorem Bw (hE:E.OK) {stop:Prop}:∀ {l:List ResultVar} {k:List AV→Prop},vY E.T s h l stop k→stop∨∃ r,k r∧∀ (c:Cx) (t:Array Value),c.heap=h→aE E.G c→VS c s t→∃ vs:List Value,VL c r vs∧(l.mapM (tN t)).run E.P c.w = .ok vs c.w
 | [],k,H => .inr ⟨[],H,fun c t _ _ hs=>⟨[],.nil,by simp⟩⟩
 | .tmp n::l,k,H=>by
  simp only [vY] at H;rcases bj H with h | ⟨x,hx,H⟩
  ·exact .inl h
  rcases Bw hE H with h | ⟨r,hk,hr⟩
  ·exact .inl h
  refine .inr ⟨x::r,hk,fun c t hc ho hs=>?_⟩;obtain ⟨vs,h1,h2⟩:=hr c t hc ho hs;have hl:n<t.size:=by
   rw [← hs.1];rcases Nat.lt_or_ge n s.length with h | h
   ·exact h
   ·rw [List.getElem?_eq_none h] at hx; cases hx
  refine ⟨t[n]::vs,.cons (hs.2 n x _ hx (by simp [hl])) h1,?_⟩;rw [List.mapM_cons];simp only [tN,Sem.run_bind,Sem.run_pure,Result.andThen_ok,h2];simp [hl]
 | .cell a ty::l,k,H=>by
  simp only [vY] at H;rcases bj H with h | ⟨i,hi,H⟩
  ·exact .inl h
  rcases bj H with h | ⟨x,hx,H⟩
  ·exact .inl h
  split at H
  ·rename_i b off;rcases bj H with h1 | ⟨bx,hb,H⟩
   ·exact .inl h1
   split at H
   ·rename_i cs;rcases Bk H with h1 | ⟨v,H,hp⟩
    ·exact .inl h1
    rcases Bw hE H with h | ⟨r,hk,hr⟩
    ·exact .inl h
    refine .inr ⟨v::r,hk,fun c t hc ho hs=>?_⟩;obtain ⟨vs,h1,h2⟩:=hr c t hc ho hs;subst hc;have hl:a<t.size:=by
     rw [← hs.1];rcases Nat.lt_or_ge a s.length with h | h
     ·exact h
     ·rw [List.getElem?_eq_none h] at hx; cases hx
    obtain ⟨blk,cap,us,ty',g1,g2,g3⟩:=ho.cells hb;obtain ⟨u,hu,qc⟩:=hp E.P ty c blk 0 us.toList (hE.types ty i hi) g3 (ng g2);have rS:=hs.2 a _ t[a] hx (by simp [hl]);have RD:t[a] = .pointer (some ⟨blk,0+off,none⟩):=by
     generalize t[a]=p at rS;cases rS with
     |ptr _ _ cs' lI ki cP cQ=>rw [g1] at cQ; cases cQ; rw [Nat.zero_add]
     |jf _ _ _ cP _=>rw [hb] at cP; cases cP
    have qv:(loadVar ty ⟨blk,0+off,none⟩).run E.P c.w = .ok u c.w:=hu;refine ⟨u::vs,.cons qc h1,?_⟩;rw [List.mapM_cons];have hg:t.getD a undef = .pointer (some ⟨blk,0+off,none⟩):=by simp [hl,RD]
    simp only [tN,hg,asAddr,Sem.run_bind,Sem.run_pure,Result.andThen_ok,qv,h2]
   ·exact .inl H
  ·exact .inl H
def packed:List Value→Value
 | [v]=>v
 |vs => .tuple vs.toArray
theorem ED {P:Program} {fn:Func} {t:Array Value} {w:World} {vs:List Value} (h:(fn.results.toList.mapM (tN t)).run P w = .ok vs w) :
  (results fn t).run P w = .ok (packed vs) w:=by
 have e1:results fn t=(do let vs ← fn.results.mapM (tN t); pure (if h:vs.size=1 then vs[0] else .tuple vs)):=by
  rfl
 have e2:(fn.results.mapM (tN t):Sem (Array Value))=List.toArray <$> (fn.results.toList.mapM (tN t)):=by
  rw [Array.mapM_eq_mapM_toList]
 simp only [e1,e2,Sem.run_bind,map_eq_pure_bind,h,Result.andThen_ok,Sem.run_pure];cases vs with
 |nil=>rfl
 |cons v vs=>cases vs with
  |nil=>rfl
  |cons u vs=>simp [packed]
def nk {α:Sort _} (T:List bB) (s:List AV) (h:List ag) (rs:List ResultVar) (stop:α) (k:AV→List ag→α):α :=
 vY T s h rs stop fun
  | [x]=>k x h
  |l=>k (.aL l) h
theorem AW.JL (hE:E.OK) {td:List aG} (oe:∀ (a:Act) (cs:List Frame) (w:World),step E.P (lone ((bf ⟨ae,none,[]⟩).atR a (td.map aG.bM)) cs w) = .next (lone { (bf ⟨ae,none,[]⟩).atR a (td.map aG.bM) with mode := .returning } cs w))
  {fn:Func} (hf:E.P.funcs[ae]? = some fn) (H:nk E.T s h fn.results.toList False R.Q):AW E ae ⟨⟨ae,none,[]⟩,td,s⟩ [] h R:=by
 unfold AW;intro c0 c t ts h0 h1 h2 h3 hr bX h4 h5 cs;unfold nk at H;rcases Bw hE H with h' | ⟨l,H,hl⟩
 ·cases h'
 obtain ⟨vs,g1,g2⟩:=hl c t h2 h3 h4;have fin:∀ r v,packed vs=v→R.Q r h→VR c r v→∃ (c':Cx) (fr:Frame) (r:AV) (v:Value),
   R.Q r c'.heap∧VR c' r v∧aE E.G c'∧fw c0 c'∧Steps E.P (lone ((⟨⟨ae,none,[]⟩,td,s⟩:cC).bM t) (eY [] ts++cs) c.w) (lone fr cs c'.w)∧fr.fn=ae∧fr.leaving E.P c'.w (.returned v):=fun r v e1 e2 e3=>by
  refine ⟨c,_,r,v,by rw [h2]; exact e2,e3,h3,hr,.one (oe ⟨t,[]⟩ cs c.w),rfl,rfl,rfl,rfl,fn,hf,?_⟩;rw [← e1];exact ED g2
 split at H
 ·rename_i x;cases vs with
  |nil=>have:=g1.1; simp at this
  |cons v vs=>cases vs with
   |cons u vs=>have:=g1.1; simp at this
   |nil=>exact fin x v rfl H g1.head.1
 ·rename_i aJ;refine fin (.aL l) (.tuple vs.toArray) ?_ H (.aL _ _ (by simpa using g1.1) fun j x v hx hu=>g1.2 j x v hx (by simpa using hu));cases vs with
  |nil=>rfl
  |cons v vs=>cases vs with
   |nil =>
    have:=g1.1;cases l with
    |nil=>simp at this
    |cons x l=>cases l with
     |nil=>exact absurd rfl (aJ x)
     |cons y l=>simp at this
   |cons u vs=>rfl
def yB (R:DV→Prop) (x:AV) (h:List ag):Prop :=
 match x with
 | .aL l=>yA (Bv h) l False fun r=>R (.aL r)
 |x=>Bv h x False R
theorem RE {G:List (Nat × DV)} {R:DV→Prop} {x:AV} (H:yB R x h):∃ r,vX G h x r∧R r:=by
 unfold yB at H;split at H
 ·rcases EC (G:=G) (h:=h) JK H with h' | ⟨r,hr,H⟩
  ·cases h'
  refine ⟨_,fun c v h1 h2 hv=>?_,H⟩;cases hv with
  |aL _ vs hl bT =>
   have:=hr c vs.toList h1 h2 ⟨by simpa using hl,fun j x v hx hv=>bT j x v hx (by simpa using hv)⟩;exact .aL _ _ (by simpa using this.1) fun j x v hx hu=>this.2 j x v hx (by simpa using hu)
 ·rcases JK (G:=G) H with h' | h'
  ·cases h'
  ·exact h'
theorem aA.RF {f:FuncId} {args:List DV} {R:DV→Prop} (H:aC E f [] (args.map .d) (yB R)):aA E f args R:=by
 unfold aC at H;unfold aA;refine ⟨H.1,fun au w vs h1 h2 h3=>?_⟩
 let c:Cx:=⟨fun _=>none,[],au,w⟩
 have hv:VL c (args.map .d) vs := .tz h3.1 fun j x v hx hu=>yx (h3.2 j x v hx hu);have ho:aE E.G c:=⟨h1,fun i b n hi=>(by cases hi),fun i j b n m hi=>(by cases hi),fun i b n hi=>(by cases hi),fun i bx hi=>(by simp [c] at hi),h2⟩;refine (H.2.2 c vs rfl ho hv).mono fun e w' ⟨c',r,v,k1,k2,k3,k4,k5,k6⟩=>?_;obtain ⟨d,hd,hR⟩:=RE (G:=E.G) k3;subst k2;have:=hd c' v k5 rfl k4;rw [k6.au] at this;exact ⟨v,d,k1,hR,this,k6.ext fun _=>rfl⟩
theorem AW.ret (hE:E.OK) {fn:Func} (hf:E.P.funcs[ae]? = some fn) (H:nk E.T s h fn.results.toList False R.Q):AW E ae ⟨⟨ae,none,[]⟩,.code .ret::k,s⟩ [] h R := .JL hE (fun _ _ _=>stepR_ret rfl) hf H
theorem AW.RG (hE:E.OK) {fn:Func} (hf:E.P.funcs[ae]? = some fn) (H:nk E.T s h fn.results.toList False R.Q):AW E ae ⟨⟨ae,none,[]⟩,[],s⟩ [] h R := .JL hE (fun _ _ _=>stepR_end rfl) hf H
end
end Go.ax
end
section
namespace Go.ax
open Go Go.RowKit
@[irreducible] def need (C K : Prop) : Prop := C ∧ K
theorem bQ {C K:Prop} (h:C) (k:K):need C K:=by unfold need; exact ⟨h,k⟩
theorem nn {C K:Prop} (h:need C K):C∧K:=by unfold need at h; exact h
def np (b:UInt8):DV := .int .u8 b.toNat
def two {β:Type} (l:List β) (stop:Prop) (k:β→β→Prop):Prop :=
 match l with
 | [a,b]=>k a b
 |_=>stop
theorem JM {β:Type} {l:List β} {stop:Prop} {k:β→β→Prop} (H:two l stop k):stop∨∃ a b,l=[a,b]∧k a b:=by
 unfold two at H;split at H
 ·exact .inr ⟨_,_,rfl,H⟩
 ·exact .inl H
def Bx (e:Nat) (ei:bB) (h:List ag) (a:AV) (m:List DV) (stop:Prop) (k:AV→List ag→Prop):Prop :=
 match a with
 | .d .a8=>need (m.length≤2147483648∧∀ e∈m,e.cells.length=ei.size) (lH h (.arr 1 (e,ei.size) m) 0 fun h' n=>k (.own n 1) h')
 | .own b g=>aV h b stop fun
  | .arr g' ts l=>match Nat.beq g g',Nat.beq ts.1 e,Nat.beq ts.2 ei.size with
   |true,true,true=>need (l.length+m.length≤2147483648∧∀ e∈m,e.cells.length=ei.size) (fN h b (.arr (g+1) ts (l++m)) fun h'=>k (.own b (g+1)) h')
   |_,_,_=>stop
  |_=>stop
 |_=>stop
def nr (T:List bB) (G:List (Nat × DV)) (o:Op) (s:List AV) (h:List ag) (stop:Prop) (k:AV→List ag→Prop):Prop :=
 match o with
 | .call { callee := .builtin .append,args:=args,argTypes:=ts }=>two args.toList stop fun x y=>two ts.toList stop fun t0 t1=>aV T t0 stop fun i0=>aV T t1 stop fun i1 =>
  match i0.k with
  | .slice e=>aV T e stop fun ei=>match Nat.beq ei.zero.length ei.size,Nat.blt 0 ei.size,Nat.ble ei.bytes 65536 with
   |true,true,true=>cH G s x stop fun a=>cH G s y stop fun b =>
    match i1.k,b with
    | .slice _,.d (.sl m)=>Bx e ei h a m stop k
    | .string,.d (.str z)=>match ei.k with
     | .int .u8=>Bx e ei h a (z.map np) stop k
     |_=>stop
    |_,_=>stop
   |_,_,_=>stop
  |_=>stop
 | .makeSlice t n c=>aV T t stop fun i=>match i.k with
  | .slice e=>aV T e stop fun ei=>match Nat.beq ei.zero.length ei.size,Nat.blt 0 ei.size,Nat.ble ei.bytes 65536,ei.zero.all DV.eW with
   |true,true,true,true=>cH G s n stop fun
    | .d (.int _ a)=>cH G s c stop fun
     | .d (.int _ b) =>
      match ei.zero with
      | [z]=>need (0≤a∧a≤b∧b≤2147483648) (lH h (.arr 0 (e,ei.size) (List.replicate a.toNat z)) 0 fun h' n=>k (.own n 0) h')
      |zl=>need (0≤a∧a≤b∧b≤2147483648) (lH h (.arr 0 (e,ei.size) (List.replicate a.toNat (.agg zl))) 0 fun h' n=>k (.own n 0) h')
     |_=>stop
    |_=>stop
   |_,_,_,_=>stop
  |_=>stop
 |_=>stop
theorem aZ {β:Type} {l:List β} {n:Nat} {e:β} (h:l[n]? = some e):n<l.length:=by
 rcases Nat.lt_or_ge n l.length with h' | h'
 ·exact h'
 ·rw [List.getElem?_eq_none h'] at h; cases h
section
variable {E:Env} {s:List AV} {h:List ag} {c:Cx} {G:List (Nat × DV)} {P:Program}
structure Src (P:Program) (size:Nat) (w:World) (x:Value) (n:Nat) (news:List Value):Prop where
 len:∀ w,(Builtin.lenOf x).run P w = .ok n w
 cells:∀ d:Nat,(Builtin.firstCells size n x).run P { w with drawn:=d } = .ok news.toArray { w with drawn:=d }
 one:∀ v∈news,v.oneCell'=true
 size:news.length=n*size
theorem RH {t0 t1 e:TypeId} {i:TypeInfo} {d1:TypeDesc} (h0:P.underlying t0=some (.slice e)) (h1:P.underlying t1=some d1) (iP:∀ k,d1 ≠ .int k) (hi:P.info? e=some i) {w:World} {g n m cap:Nat} {cur:Array Value} {x:Value} {news:List Value}
  (hg:w.heap[g]? = some (.cells cur e (0,0))) (hs:Src P i.size w x m news) (kl:n+m≤cap) (dD:n*i.size+news.length≤cur.size) (ty:TypeId) :
  (Builtin.append_ #[t0,t1] ty #[.slice (some ⟨g,0,none⟩) n cap,x]).run P w = .ok (.slice (some ⟨g,0,none⟩) (n+m) cap) (w.setCells g (n*i.size) news):=by
 have aR:=run_storeCells_cells (P:=P) g (n*i.size) news 0 w (fun j hj=>by
   simp only [World.cell?,hg]
   simp; omega) (fun j hj=>by simp [World.frozen?,hg]) hs.one
 simp only [Nat.add_zero] at aR;have hc:=hs.cells w.drawn;simp [Builtin.append_,run_underlying h0,run_underlying h1,Go.sizeOf,typeInfo,hi,hs.len,kl,hc,kQ,aR]
theorem RI {t0 t1 e:TypeId} {i:TypeInfo} {d1:TypeDesc} (h0:P.underlying t0=some (.slice e)) (h1:P.underlying t1=some d1) (iP:∀ k,d1 ≠ .int k) (hi:P.info? e=some i) {w:World} {n cap:Nat} {b:Option Addr} {x:Value}
  (hs:Src P i.size w x 0 []) (kl:n≤cap) (ty:TypeId):(Builtin.append_ #[t0,t1] ty #[.slice b n cap,x]).run P w = .ok (.slice b n cap) w:=by
 have hc:=hs.cells w.drawn;cases b <;> simp [Builtin.append_,run_underlying h0,run_underlying h1,Go.sizeOf,typeInfo,hi,hs.len,kl,hc,storeCells]
theorem JN {t0 t1 e:TypeId} {i:TypeInfo} {z:Value} {d1:TypeDesc} (h0:P.underlying t0=some (.slice e)) (h1:P.underlying t1=some d1) (iP:∀ k,d1 ≠ .int k) (hi:P.info? e=some i) (hz:i.zero=some z) {w:World} {n m cap:Nat} {b:Option Addr} {x:Value} {iD news:List Value}
  (hold:∀ d:Nat,(Builtin.firstCells i.size n (.slice b n cap)).run P { w with drawn:=d } = .ok iD.toArray { w with drawn:=d }) (hs:Src P i.size w x m news) (hg:cap<n+m) (RJ:n+m≤2147483648) (mC:i.bytes≤65536) (ty:TypeId) :
  (Builtin.append_ #[t0,t1] ty #[.slice b n cap,x]).run P w = .ok (.slice (some ⟨w.heap.size,0,none⟩) (n+m) (grownCap w (n+m) cap e)) (w.drew.alloc (.cells (iD.toArray++news.toArray++Builtin.zeroCells z.cells (grownCap w (n+m) cap e - (n+m))) e)):=by
 have hn:¬ (n+m≤cap):=by omega
 have RL:¬ (9223372036854775807<((n:Int)+(m:Int))):=by omega
 have dD:(n+m)*i.bytes≤140737488355328:=by
  calc (n+m)*i.bytes≤2147483648*65536:=Nat.mul_le_mul RJ mC
   _=140737488355328:=by decide
 have RM:¬ (281474976710656<Builtin.nextslicecap (n+m) cap*i.bytes):=by
  have:=growslice_fits (old:=cap) (need:=n+m) (bytes:=i.bytes) (by omega) dD;omega
 have hc:=hs.cells w.drew.drawn;have ho:=hold w.drew.drawn;have rW:(Builtin.firstCells i.size m x).run P w.drew = .ok news.toArray w.drew:=hc;have cQ:(Builtin.firstCells i.size n (.slice b n cap)).run P w.drew = .ok iD.toArray w.drew:=ho;simp [Builtin.append_,run_underlying h0,run_underlying h1,Go.sizeOf,typeInfo,zeroValue,hi,hz,hs.len,hn,RL,RM,Question.forced,rW,cQ,newRow,grownCap]
 congr 2
 apply Array.ext';simp [List.append_assoc]
theorem JO {c:Cx} {m:List DV} {x:Value} {sz:Nat} (bP:0<sz) (hm:∀ e∈m,e.cells.length=sz) (hv:VD c.bad c.w (.sl m) x):∃ news:List Value,Src P sz c.w x m.length news∧(∀ (j:Nat) (y:DV) (v:Value),(flat m)[j]? = some y→news[j]? = some v→VD c.bad c.w y v):=by
 have dO:gp sz m:=fun i e he=>hm e (List.mem_of_getElem? he);cases hv with
 |slnil=>exact ⟨[],⟨fun _=>rfl,fun _=>rfl,fun v hv=>by simp at hv,by simp⟩,fun j y v hy=>by simp [flat] at hy⟩
 |kO a=>exact ⟨[],⟨fun _=>rfl,fun _=>by simp [Builtin.firstCells,loadCells,loadCellsFrom],fun v hv=>by simp at hv,by simp⟩,fun j y v hy=>by simp [flat] at hy⟩
 |sl _ blk off cap dE f hb By je hlen dP bT cg =>
  by_cases aJ:m=[]
  ·subst aJ;exact ⟨[],⟨fun _=>rfl,fun _=>by simp [Builtin.firstCells,loadCells,loadCellsFrom],fun v hv=>by simp at hv,by simp⟩,fun j y v hy=>by simp [flat] at hy⟩
  obtain ⟨e0,r,hr⟩:=List.exists_cons_of_ne_nil aJ;have kj:dE=sz:=(hlen 0 e0 (by rw [hr]; rfl)).symm.trans (hm e0 (by rw [hr]; simp));subst kj;have at_:∀ (idx:Nat),idx<m.length*dE→∃ (i j:Nat) (e y:DV),idx=i*dE+j∧j<dE∧m[i]? = some e∧e.cells[j]? = some y∧idx / dE=i∧idx % dE=j:=fun idx rX=>by
   have hd:idx / dE<m.length:=Nat.div_lt_of_lt_mul (by rw [Nat.mul_comm]; exact rX);have vZ:idx % dE<dE:=Nat.mod_lt _ bP;have hl:idx % dE<m[idx / dE].cells.length:=by rw [hlen _ _ (List.getElem?_eq_getElem hd)]; exact vZ
   exact ⟨idx / dE,idx % dE,m[idx / dE],m[idx / dE].cells[idx % dE],by rw [Nat.mul_comm]; exact (Nat.div_add_mod idx dE).symm,vZ,List.getElem?_eq_getElem hd,List.getElem?_eq_getElem hl,rfl,rfl⟩
  have eR:∀ (j:Nat) (v:Value),((List.range (m.length*dE)).map fun idx=>f (idx / dE) (idx % dE))[j]? = some v→j<m.length*dE∧v=f (j / dE) (j % dE):=fun j v hv=>by
   have hj:j<m.length*dE:=by have:=aZ hv; simpa using this
   simp [hj] at hv;exact ⟨hj,hv.symm⟩
  refine ⟨(List.range (m.length*dE)).map fun idx=>f (idx / dE) (idx % dE),⟨fun _=>rfl,fun d=>?_,fun v hv=>?_,by simp⟩,fun j y v hy hv=>?_⟩
  ·have:=run_loadCells_list (P:=P) { c.w with drawn:=d } ⟨blk,off,none⟩ ((List.range (m.length*dE)).map fun idx=>f (idx / dE) (idx % dE)) (fun j v hv=>by
    obtain ⟨hj,rfl⟩:=eR j v hv;obtain ⟨i,jj,e,y,e1,e2,e3,e4,e5,e6⟩:=at_ j hj;rw [kQ,e5,e6,e1]
    exact dP i jj e y e3 e4)
   simpa [Builtin.firstCells] using this
  ·obtain ⟨j,RN⟩:=List.getElem?_of_mem hv;obtain ⟨hj,rfl⟩:=eR j v RN;obtain ⟨i,jj,e,y,e1,e2,e3,e4,e5,e6⟩:=at_ j hj;rw [e5,e6];exact cg i jj e y e3 e4
  ·obtain ⟨hj,rfl⟩:=eR j v hv;obtain ⟨i,jj,e,y',e1,e2,e3,e4,e5,e6⟩:=at_ j hj;have:=flat_get dO e3 e2;rw [← e1,hy,e4] at this;cases this;rw [e5,e6];exact bT i jj e y e3 e4
theorem JP {c:Cx} {z:List UInt8}:Src P 1 c.w (.string ⟨z.toArray⟩) (z.map np).length (z.map fun b=>Value.int .u8 b.toNat)∧(∀ (j:Nat) (y:DV) (v:Value),(flat (z.map np))[j]? = some y→(z.map fun b=>Value.int .u8 b.toNat)[j]? = some v→VD c.bad c.w y v):=by
 have RO:flat (z.map np)=z.map np:=by
  induction z with
  |nil=>rfl
  |cons b z ih=>simp only [List.map_cons,flat,List.flatMap_cons] at ih ⊢; rw [ih]; rfl
 refine ⟨⟨fun _=>by simp [Builtin.lenOf,ByteArray.size],fun d=>?_,fun v hv=>?_,by simp⟩,fun j y v hy hv=>?_⟩
 ·simp [Builtin.firstCells]
 ·obtain ⟨b,-,rfl⟩:=List.mem_map.1 hv; rfl
 ·rw [RO] at hy;rw [List.getElem?_map] at hy hv;cases hz:z[j]? with
  |none=>rw [hz] at hy; cases hy
  |some b=>rw [hz] at hy hv; cases hy; cases hv; exact .int _ _
def iE (c:Cx) (l:List DV) (vs:List Value):Prop:=∀ (idx:Nat) (y:DV),(flat l)[idx]? = some y→∃ v,vs[idx]? = some v∧v.oneCell'=true∧VD c.bad c.w y v
theorem iE.ij {c:Cx} {l:List DV} {vs:Array Value} {sz:Nat} (dO:gp sz l) (h:iE c l vs.toList):∀ (i j:Nat) (e x:DV),l[i]? = some e→e.cells[j]? = some x→∃ v,vs[i*sz+j]? = some v∧v.oneCell'=true∧VD c.bad c.w x v:=fun i j e x he hx=>by
 have hj:j<sz:=by rw [← dO i e he]; exact aZ hx
 obtain ⟨v,h1,h2⟩:=h (i*sz+j) x (by rw [flat_get dO he hj]; exact hx);exact ⟨v,by simpa using h1,h2⟩
theorem iE.JQ {c:Cx} {l:List DV} {vs:Array Value} {sz:Nat} (bP:0<sz) (dO:gp sz l) (h:∀ (i j:Nat) (e x:DV),l[i]? = some e→e.cells[j]? = some x→∃ v,vs[i*sz+j]? = some v∧v.oneCell'=true∧VD c.bad c.w x v):iE c l vs.toList:=fun idx y hy=>by
 have ai:=aZ hy;rw [kS dO] at ai;have hd:idx / sz<l.length:=Nat.div_lt_of_lt_mul (by rw [Nat.mul_comm]; exact ai);have vZ:idx % sz<sz:=Nat.mod_lt _ bP;have h1:=flat_get dO (List.getElem?_eq_getElem hd) vZ;have e1:idx / sz*sz+idx % sz=idx:=by rw [Nat.mul_comm]; exact Nat.div_add_mod idx sz
 rw [e1,hy] at h1;obtain ⟨v,h2,h3⟩:=h (idx / sz) (idx % sz) _ y (List.getElem?_eq_getElem hd) h1.symm;rw [e1] at h2;exact ⟨v,by simpa using h2,h3⟩
theorem iE.append {c:Cx} {l m:List DV} {vs news:List Value} {tail:List Value} {sz:Nat} (dO:gp sz l) (hl:iE c l vs) (gh:l.length*sz≤vs.length) (cg:∀ v∈news,v.oneCell'=true) (hlen:news.length=(flat m).length) (hn:∀ (j:Nat) (y:DV) (v:Value),(flat m)[j]? = some y→news[j]? = some v→VD c.bad c.w y v) :
  iE c (l++m) (vs.take (l.length*sz)++news++tail):=fun idx y hy=>by
 rw [Bn] at hy;have iF:=kS dO;have RP:(vs.take (l.length*sz)).length=l.length*sz:=by simp; omega
 rcases Nat.lt_or_ge idx (l.length*sz) with h | h
 ·rw [List.getElem?_append_left (by omega)] at hy;obtain ⟨v,h1,h2⟩:=hl idx y hy;refine ⟨v,?_,h2⟩;rw [List.append_assoc,List.getElem?_append_left (by omega),List.getElem?_take,if_pos h];exact h1
 ·rw [List.getElem?_append_right (by omega),iF] at hy;have ai:=aZ hy;have rX:idx - l.length*sz<news.length:=by omega
  refine ⟨news[idx - l.length*sz],?_,cg _ (List.getElem_mem rX),hn _ y _ hy (by simp [rX])⟩;rw [List.append_assoc,List.getElem?_append_right (by omega),RP,List.getElem?_append_left rX];simp [rX]
theorem iE.step {c c':Cx} (hs:Step c c') {l:List DV} {vs:List Value} (h:iE c l vs):iE c' l vs:=fun idx y hy=>by
 obtain ⟨v,h1,h2,h3⟩:=h idx y hy;exact ⟨v,h1,h2,hs.vd h3⟩
theorem EE {sz:Nat} {l m:List DV} (hl:gp sz l) (hm:∀ e∈m,e.cells.length=sz):gp sz (l++m):=fun i e he=>by
 rcases Nat.lt_or_ge i l.length with h | h
 ·rw [List.getElem?_append_left h] at he; exact hl i e he
 ·rw [List.getElem?_append_right h] at he; exact hm e (List.mem_of_getElem? he)
def Cx.fR (c:Cx) (b g:Nat) (ts:Nat × Nat) (l:List DV) (own:Option (Nat × Nat)) (w:World):Cx:={ c with own:=fun i=>if i=b then own else c.own i,heap:=c.heap.set b (.arr g ts l),w:=w }
theorem aE.fR {G:List (Nat × DV)} (ho:aE G c) {b g:Nat} {ts:Nat × Nat} {l l':List DV} (hb:c.heap[b]? = some (.arr g ts l)) {w:World} (own:Option (Nat × Nat)) (RQ:w.os=c.w.os) (RR:w.tape=c.w.tape) (RS:w.output=c.w.output) (gr:c.w.heap.size≤w.heap.size)
  (og:∀ k,k<c.w.heap.size→(∀ n,c.own b≠some (k,n))→w.heap[k]? = c.w.heap[k]?) (bC:∀ k n,own=some (k,n)→k<w.heap.size∧(k<c.w.heap.size→∃ m,c.own b=some (k,m))) :
  let c':=c.fR b (g+1) ts l' own w
  Step c c'∧((gp ts.2 l'∧((own=none∧l'=[])∨∃ (blk cap:Nat) (vs:Array Value),own=some (blk,cap)∧w.heap[blk]? = some (.cells vs ts.1 (0,0))∧vs.size=cap*ts.2∧l'.length≤cap∧cap≤maxLen∧iE c' l' vs.toList))→aE G c'):=by
 intro c';have ez:=aZ hb
 have aR:Step c c':={
  au:=rfl
  bD:=ho.bD
  os:=RQ
  tape:=RR
  output:=RS
  size:=gr
  keep:=fun x hx hn=>og x hx (fun n=>hn b n)
  dC:=fun i x n hi hx=>by
   simp only [c',Cx.fR] at hi;split at hi
   ·rename_i bL; subst bL; exact (bC x n hi).2 hx
   ·exact ⟨n,hi⟩
  boxes:=fun i bx hi=>by
   by_cases bL:i=b
   ·subst bL;rw [hb] at hi;cases hi;exact .inl ⟨g+1,l',by show (c.heap.set i _)[i]? = _; rw [List.getElem?_set_self ez],.inl (Nat.lt_succ_self _)⟩
   ·have h':c'.heap[i]? = some bx:=by show (c.heap.set b _)[i]? = _; rw [List.getElem?_set_ne (Ne.symm bL)]; exact hi
    have qd:c'.own i=c.own i:=by simp only [c',Cx.fR]; rw [if_neg bL]
    cases bx with
    |cells cs=>exact .inl ⟨cs,h',qd,rfl⟩
    |arr g sz l=>exact .inl ⟨g,l,h',.inr ⟨rfl,rfl,qd⟩⟩
    |map es=>exact .inl ⟨es,h',qd⟩
    |gone=>exact h' }
 refine ⟨aR,fun dX=>ho.next aR ?_ ?_ ?_⟩
 ·intro i x n hi;have hl:c'.heap.length=c.heap.length:=by simp [c',Cx.fR]
  rw [hl];simp only [c',Cx.fR] at hi;split at hi
  ·rename_i bL; subst bL; exact ⟨(bC x n hi).1,ez⟩
  ·have:=ho.bI i x n hi; exact ⟨Nat.lt_of_lt_of_le this.1 gr,this.2⟩
 ·intro i j x n m hi hj;simp only [c',Cx.fR] at hi hj;split at hi <;> split at hj
  ·omega
  ·rename_i h1 h2;have:=(ho.bI j x m hj).1;obtain ⟨q,hq⟩:=(bC x n hi).2 this;exact absurd (ho.inj j b x m q hj hq) h2
  ·rename_i h1 h2;have:=(ho.bI i x n hi).1;obtain ⟨q,hq⟩:=(bC x m hj).2 this;exact absurd (ho.inj i b x n q hi hq) h1
  ·exact ho.inj i j x n m hi hj
 ·intro i bx hi;by_cases bL:i=b
  ·subst bL;have cO:(c.heap.set i (.arr (g+1) ts l'))[i]? = some bx:=hi;rw [List.getElem?_set_self ez] at cO;cases cO;right;have ec:c'.own i=own:=by simp [c',Cx.fR]
   obtain ⟨q0,-,-⟩:=ho.box i _ hb;obtain ⟨dO,RT⟩:=dX;refine ⟨q0,dO,?_⟩;rcases RT with ⟨h1,h2⟩ | ⟨blk,cap,vs,h1,h2,h3,h4,h5,h6⟩
   ·exact .inl ⟨ec.trans h1,h2⟩
   ·exact .inr ⟨blk,cap,vs,ec.trans h1,h2,h3,h4,h5,h6.ij dO⟩
  ·left;have cO:(c.heap.set b (.arr (g+1) ts l'))[i]? = some bx:=hi;rw [List.getElem?_set_ne (Ne.symm bL)] at cO;refine ⟨cO,by simp only [c',Cx.fR]; rw [if_neg bL],fun x n hn=>og x (ho.bI i x n hn).1 (fun m hm=>bL (ho.inj i b x n m hn hm))⟩
theorem oh {b g:Nat} {ts:Nat × Nat} {l:List DV} (hb:c.heap[b]? = some (.arr g ts l)) {v:Value} (hv:VR c (.own b g) v):(∃ blk cap,c.own b=some (blk,cap)∧v = .slice (some ⟨blk,0,none⟩) l.length cap)∨(l=[]∧v = .slice none 0 0∧c.own b=none):=by
 cases hv with
 |own _ _ _ l' blk cap k1 k2=>rw [hb] at k1; cases k1; exact .inl ⟨blk,cap,k2,rfl⟩
 |iL _ _ _ k1 k2=>rw [hb] at k1; cases k1; exact .inr ⟨rfl,rfl,k2⟩
 |kg _ _ g' _ _ _ k1 k2 _=>rw [hb] at k1; cases k1; omega
 |jD _ _ _ k1 _=>rw [hb] at k1; cases k1
 |mu _ _ _ _ _ _ k1 _ _=>rw [hb] at k1; cases k1
theorem JS {β:Type} {vs news:List β} {o:Nat} (h:o+news.length≤vs.length):dG vs o news=vs.take o++news++vs.drop (o+news.length):=by
 have h1:vs=vs.take o++(vs.drop o).take news.length++vs.drop (o+news.length):=by
  rw [List.append_assoc,← List.drop_drop,List.take_append_drop,List.take_append_drop]
 have h2:(vs.take o).length=o:=by simp; omega
 have:=Er news (vs.take o) ((vs.drop o).take news.length) (vs.drop (o+news.length)) (by simp; omega);rw [← h1,h2] at this;exact this
theorem o9 {n:Nat} (h:n≤2147483648):n≤maxLen:=by unfold maxLen; omega
theorem JT (aK:aE G c) {t0 t1:TypeId} {i:TypeInfo} {z:Value} {d1:TypeDesc} {ts:Nat × Nat} (h0:P.underlying t0=some (.slice ts.1)) (h1:P.underlying t1=some d1) (iP:∀ k,d1 ≠ .int k) (hi:P.info? ts.1=some i) (hz:i.zero=some z) (gm:z.cells.size=i.size) (gr:i.size=ts.2) (mC:i.bytes≤65536)
  {b g:Nat} {l m:List DV} (hb:c.heap[b]? = some (.arr g ts l)) {v x:Value} (hv:VR c (.own b g) v) {news:List Value} (hs:Src P i.size c.w x m.length news) (hn:∀ (j:Nat) (y:DV) (v:Value),(flat m)[j]? = some y→news[j]? = some v→VD c.bad c.w y v) (hm:∀ e∈m,e.cells.length=ts.2) (qw:l.length+m.length≤2147483648) (ty:TypeId) :
  ∃ (c':Cx) (v':Value),(Builtin.append_ #[t0,t1] ty #[v,x]).run P c.w = .ok v' c'.w∧c'.heap=c.heap.set b (.arr (g+1) ts (l++m))∧aE G c'∧VR c' (.own b (g+1)) v'∧Step c c':=by
 obtain ⟨q0,q1,q2⟩:=aK.box b _ hb;have ez:=aZ hb;have JU:gp ts.2 (l++m):=EE q1 hm;have qx:(flat m).length=m.length*ts.2:=kS (fun i e he=>hm e (List.mem_of_getElem? he));have om:news.length=(flat m).length:=by rw [hs.size,qx,gr]
 have km:∀ own w,(c.fR b (g+1) ts (l++m) own w).heap[b]? = some (.arr (g+1) ts (l++m)):=fun own w=>by show (c.heap.set b _)[b]? = _; rw [List.getElem?_set_self ez]
 have v7:∀ own w,(c.fR b (g+1) ts (l++m) own w).own b=own:=fun own w=>by simp [Cx.fR]
 have grown:∀ (iD:List Value) (cap:Nat) (bs:Option Addr),(∀ (idx:Nat) (y:DV),(flat l)[idx]? = some y→∃ v,iD[idx]? = some v∧v.oneCell'=true∧VD c.bad c.w y v)→iD.length=l.length*ts.2→(∀ d:Nat,(Builtin.firstCells i.size l.length (.slice bs l.length cap)).run P { c.w with drawn:=d } = .ok iD.toArray { c.w with drawn:=d })→cap<l.length+m.length→v = .slice bs l.length cap →
   ∃ (c':Cx) (v':Value),(Builtin.append_ #[t0,t1] ty #[v,x]).run P c.w = .ok v' c'.w∧c'.heap=c.heap.set b (.arr (g+1) ts (l++m))∧aE G c'∧VR c' (.own b (g+1)) v'∧Step c c':=by
  intro iD cap bs hold v8 EF je RU;subst RU;have hr:=JN h0 h1 iP hi hz EF hs je qw mC ty;have aP:=grownCap_ge c.w (l.length+m.length) cap ts.1;have hle:=grownCap_le_maxLen c.w (l.length+m.length) cap ts.1 (o9 qw);generalize grownCap c.w (l.length+m.length) cap ts.1=nc at hr aP hle
  let cells:Array Value:=iD.toArray++news.toArray++Builtin.zeroCells z.cells (nc - (l.length+m.length))
  have hw:(c.w.drew.alloc (.cells cells ts.1)).heap[c.w.heap.size]? = some (.cells cells ts.1 (0,0)):=heap_alloc_new c.w.drew _;obtain ⟨k1,k2⟩:=aK.fR (l':=l++m) hb (w:=c.w.drew.alloc (.cells cells ts.1)) (some (c.w.heap.size,nc)) rfl rfl rfl (by simp) (fun k hk _=>Below.heap_alloc c.w.drew _ k hk) (fun k n e=>by cases e; exact ⟨by simp,fun h=>by omega⟩);refine ⟨_,_,hr,rfl,k2 ⟨JU,.inr ⟨c.w.heap.size,nc,cells,rfl,hw,?_,by simpa using aP,hle,?_⟩⟩,?_,k1⟩
  ·simp only [cells,Array.size_append,List.size_toArray,size_zeroCells,gm,v8,om,qx,gr,← Nat.add_mul]
   congr 1
   omega
  ·have:=iE.append (c:=c) (l:=l) (m:=m) (vs:=iD) (news:=news) (tail:=(Builtin.zeroCells z.cells (nc - (l.length+m.length))).toList) q1 hold (by omega) hs.one om hn;rw [List.take_of_length_le (by omega)] at this;have:=this.step k1
   simpa [cells] using this
  ·have:=VR.own (c:=c.fR b (g+1) ts (l++m) (some (c.w.heap.size,nc)) (c.w.drew.alloc (.cells cells ts.1))) b (g+1) ts (l++m) c.w.heap.size nc (km _ _) (v7 _ _);rw [List.length_append] at this;exact this
 rcases oh hb hv with ⟨blk,cap,r1,rfl⟩ | ⟨rfl,rfl,r1⟩
 ·rcases q2 with ⟨q2,-⟩ | ⟨lI,ki,vs,q2,q3,q4,q5,q6,q7⟩
  ·rw [r1] at q2; cases q2
  rw [r1] at q2; cases q2;have iF:=iE.JQ q0 q1 q7;have gh:l.length*ts.2≤vs.size:=by rw [q4]; exact Nat.mul_le_mul_right _ q5
  by_cases kl:l.length+m.length≤cap
  ·have dD:l.length*i.size+news.length≤vs.size:=by
    rw [om,qx,gr,q4,← Nat.add_mul];exact Nat.mul_le_mul_right _ kl
   have hr:=RH h0 h1 iP hi q3 hs kl dD ty;obtain ⟨e1,e2,e3,e4⟩:=yc blk news (l.length*i.size) c.w;obtain ⟨k1,k2⟩:=aK.fR (l':=l++m) hb (w:=c.w.setCells blk (l.length*i.size) news) (some (blk,cap)) e1 e2 e3 (Nat.le_of_eq e4.symm) (fun k _ hk=>tA blk news _ c.w k (fun e=>hk cap (by rw [e]; exact r1))) (fun k n e=>by cases e; exact ⟨by rw [e4]; exact (aK.bI b blk cap r1).1,fun _=>⟨cap,r1⟩⟩);refine ⟨_,_,hr,rfl,k2 ⟨JU,.inr ⟨blk,cap,(dG vs.toList (l.length*i.size) news).toArray,rfl,yd blk ts.1 (0,0) news _ c.w vs q3,by simp [vP,q4],by simpa using kl,q6,?_⟩⟩,?_,k1⟩
   ·have:=iE.append (c:=c) (l:=l) (m:=m) (vs:=vs.toList) (news:=news) (tail:=vs.toList.drop (l.length*ts.2+news.length)) q1 iF (by simpa using gh) hs.one om hn;have:=this.step k1;show iE _ (l++m) (dG vs.toList (l.length*i.size) news);rw [JS (by simp; exact dD)];rw [← gr] at this;exact this
   ·have:=VR.own (c:=c.fR b (g+1) ts (l++m) (some (blk,cap)) (c.w.setCells blk (l.length*i.size) news)) b (g+1) ts (l++m) blk cap (km _ _) (v7 _ _);rw [List.length_append] at this;exact this
  ·have bX:=ng q3;refine grown (vs.toList.take (l.length*ts.2)) cap (some ⟨blk,0,none⟩) (fun idx y hy=>?_) (by simp; omega) (fun d=>?_) (by omega) rfl
   ·obtain ⟨u,g1,g2⟩:=iF idx y hy;have ai:=aZ hy;rw [kS q1] at ai;exact ⟨u,by rw [List.getElem?_take,if_pos ai]; exact g1,g2⟩
   ·have:=run_loadCells_list (P:=P) { c.w with drawn:=d } ⟨blk,0,none⟩ (vs.toList.take (l.length*ts.2)) (fun j u hu=>by
     rw [List.getElem?_take] at hu;split at hu
     ·rw [kQ]; exact bX j u hu
     ·cases hu)
    have hlen:(vs.toList.take (l.length*ts.2)).length=l.length*i.size:=by simp; rw [gr]; omega
    rw [hlen] at this;exact this
 ·by_cases yC:m.length=0
  ·obtain rfl:m=[]:=List.eq_nil_of_length_eq_zero yC;have qy:news=[]:=List.eq_nil_of_length_eq_zero (by rw [hs.size]; simp);subst qy;have hr:=RI (b:=none) (n:=0) (cap:=0) h0 h1 iP hi hs (Nat.le_refl _) ty;obtain ⟨k1,k2⟩:=aK.fR (l':=[]++[]) hb (w:=c.w) none rfl rfl rfl (Nat.le_refl _) (fun k _ _=>rfl) (fun k n e=>by cases e);exact ⟨c.fR b (g+1) ts ([]++[]) none c.w,.slice none 0 0,hr,rfl,k2 ⟨fun i e he=>by simp at he,.inl ⟨rfl,rfl⟩⟩,.iL b (g+1) ts (km _ _) (v7 _ _),k1⟩
  ·exact grown [] 0 none (fun idx y hy=>by simp [flat] at hy) (by simp) (fun d=>by simp [Builtin.firstCells]) (by simp; omega) rfl
theorem aE.rY (aK:aE G c) (ts:Nat × Nat) (mD:0<ts.2):let c':Cx:={ c with heap:=c.heap++[.arr 0 ts []] }
  aE G c'∧Step c c'∧c'.heap[c.heap.length]? = some (.arr 0 ts [])∧VR c' (.own c.heap.length 0) (.slice none 0 0):=by
 intro c';have dQ:c.own c.heap.length=none:=by
  cases ho:c.own c.heap.length with
  |none=>rfl
  |some p=>have:=(aK.bI _ p.1 p.2 ho).2; omega
 have aR:Step c c':=⟨rfl,aK.bD,rfl,rfl,rfl,Nat.le_refl _,fun _ _ _=>rfl,fun i b n hi _=>⟨n,hi⟩,fun i bx hi=>by
  have h':c'.heap[i]? = some bx:=by show (c.heap++_)[i]? = _; rw [List.getElem?_append_left (aZ hi)]; exact hi
  cases bx with
  |cells cs=>exact .inl ⟨cs,h',rfl,rfl⟩
  |arr g sz l=>exact .inl ⟨g,l,h',.inr ⟨rfl,rfl,rfl⟩⟩
  |map es=>exact .inl ⟨es,h',rfl⟩
  |gone=>exact h'⟩
 have mE:c'.heap[c.heap.length]? = some (.arr 0 ts []):=by show (c.heap++_)[_]? = _; simp
 refine ⟨aK.next aR (fun i b n hi=>⟨(aK.bI i b n hi).1,by have:=(aK.bI i b n hi).2; show i<(c.heap++_).length; simp; omega⟩) aK.inj (fun i bx hi=>?_),aR,mE,.iL _ _ ts mE dQ⟩;by_cases iM:i=c.heap.length
 ·subst iM;rw [mE] at hi;cases hi;exact .inr ⟨mD,fun i e he=>by simp at he,.inl ⟨dQ,rfl⟩⟩
 ·have ai:i<c.heap.length:=by
   have:=aZ hi;have h2:c'.heap.length=c.heap.length+1:=by show (c.heap++_).length=_; simp
   omega
  have cO:(c.heap++[.arr 0 ts []])[i]? = some bx:=hi;rw [List.getElem?_append_left ai] at cO;exact .inl ⟨cO,rfl,fun _ _ _=>rfl⟩
theorem EG {o:Oper} {ac:Act} {w w':World} {args:Array Operand} {ts:Array TypeId} {x y:Operand} {t0 t1:Nat} {v v0 v1:Value} (h1:o.op = .call { callee := .builtin .append,args:=args,argTypes:=ts }) (hx:args.toList=[x,y]) (ht:ts.toList=[t0,t1]) (e0:ac.eval x=v0) (e1:ac.eval y=v1)
  (hr:(Builtin.append_ #[t0,t1] o.type #[v0,v1]).run P w = .ok v w'):(execOp ac.eval o).run P w = .ok (.value v) w':=by
 have ha:args.map ac.eval = #[v0,v1]:=by
  apply Array.ext';rw [Array.toList_map,hx];simp [e0,e1]
 have mD:ts = #[t0,t1]:=by apply Array.ext'; rw [ht]
 simp only [execOp,h1,resolve,ha,mD,Sem.run_bind,Sem.run_pure,Result.andThen_ok,invoke,builtin,hr]
theorem RV (hE:E.OK) {args:Array Operand} {tO:Array TypeId} {x y:Operand} {t0 t1 e:Nat} {i0 i1 ei:bB} (hx:args.toList=[x,y]) (Bz:tO.toList=[t0,t1]) (iC:E.T[t0]? = some i0) (tP:E.T[t1]? = some i1) (df:i0.k = .slice e) (gu:∀ k,i1.k ≠ .int k) (cx:E.T[e]? = some ei)
  (hz:ei.zero.length=ei.size) (cW:0<ei.size) (mC:ei.bytes≤65536) {bv:AV} (hy:bp E.G s y bv) {m:List DV} (hm:∀ e∈m,e.cells.length=ei.size)
  (BA:∀ (c:Cx) (v:Value),VR c bv v→∃ news:List Value,Src E.P ei.size c.w v m.length news∧(∀ (j:Nat) (y:DV) (v:Value),(flat m)[j]? = some y→news[j]? = some v→VD c.bad c.w y v))
  {a:AV} (ha:bp E.G s x a) {r:AV} {h':List ag}
  (EH:(∃ b g ts l,a = .own b g∧h[b]? = some (.arr g ts l)∧ts.1=e∧ts.2=ei.size∧l.length+m.length≤2147483648∧r = .own b (g+1)∧h'=h.set b (.arr (g+1) ts (l++m)))∨(a = .d .a8∧m.length≤2147483648∧r = .own h.length 1∧h'=h++[.arr 1 (e,ei.size) m])) :
  aQ E (.call { callee := .builtin .append,args:=args,argTypes:=tO }) s h r h':=fun o c ac h1 h2 h3 h4=>by
 subst h2;obtain ⟨yf,d0,g1,g2,g3,-⟩:=cM (hE.types _ _ iC);obtain rfl:=lJ (df.symm.trans g3);obtain ⟨RW,d1,k1,k2,k3,-⟩:=cM (hE.types _ _ tP);obtain ⟨ti,z,q1,q2,q3,q4⟩:=zeroOf (hE.types _ _ cx) hz cW;obtain ⟨ym,d',p1,p2,p3,p4,p5,-⟩:=cM (hE.types _ _ cx);rw [q1] at p1; cases p1;have iP:∀ k,d1 ≠ .int k:=fun k e=>gu k (by rw [k3,e]; rfl);have gm:z.cells.size=ti.size:=by
  obtain ⟨vs,e1,e2⟩:=q4 c;rw [e1];have:=e2.1;simp at this;simp [← this,hz,q3]
 rcases EH with ⟨b,g,ts,l,rfl,hb,rfl,yD,qw,rfl,rfl⟩ | ⟨rfl,qw,rfl,rfl⟩
 ·obtain ⟨news,hs,hn⟩:=BA c _ (hy c ac h3 h4);rw [q3] at hs;obtain ⟨c',v',r1,r2,r3,r4,r5⟩:=JT h3 g2 k2 iP q1 q2 gm (by rw [← q3]; exact yD.symm) (by rw [← p5]; exact mC) hb (ha c ac h3 h4) hs hn (fun e he=>by rw [yD]; exact hm e he) qw o.type;exact ⟨c',v',.inl (EG h1 hx Bz rfl rfl r1),r2,r3,r4,r5⟩
 ·obtain ⟨w1,w2,w3,w4⟩:=h3.rY (e,ei.size) cW;have nt:=w2.vr (hy c ac h3 h4);obtain ⟨news,hs,hn⟩:=BA _ _ nt;rw [q3] at hs;have dg:ac.eval x = .slice none 0 0:=by
   have:=ha c ac h3 h4;generalize ac.eval x=u at this;cases this with
   |d _ _ hd=>cases hd; rfl
  obtain ⟨c',v',r1,r2,r3,r4,r5⟩:=JT (ts:=(e,ei.size)) w1 g2 k2 iP q1 q2 gm q3.symm (by rw [← p5]; exact mC) w3 w4 hs hn hm (by simpa using qw) o.type;refine ⟨c',v',.inl (EG h1 hx Bz dg rfl r1),?_,r3,r4,w2.trans r5⟩;rw [r2];simp
theorem JV (hE:E.OK) {t e:Nat} {n cc:Operand} {i ei:bB} (hi:E.T[t]? = some i) (hk:i.k = .slice e) (cx:E.T[e]? = some ei) (hz:ei.zero.length=ei.size) (cW:0<ei.size) (mC:ei.bytes≤65536) (mz:∀ y∈ei.zero,y.eW=true) {j j':IntKind} {a b:Int} (hn:bp E.G s n (.d (.int j a))) (hc:bp E.G s cc (.d (.int j' b)))
  (ha:0≤a) (yE:a≤b) (hb:b≤2147483648) {zd:DV} (JW:zd.cells=ei.zero):aQ E (.makeSlice t n cc) s h (.own h.length 0) (h++[.arr 0 (e,ei.size) (List.replicate a.toNat zd)]):=fun o c ac h1 h2 h3 h4=>by
 subst h2;obtain ⟨yf,d0,g1,g2,g3,-⟩:=cM (hE.types _ _ hi);obtain rfl:=lJ (hk.symm.trans g3);obtain ⟨ti,z,q1,q2,q3,q4⟩:=zeroOf (hE.types _ _ cx) hz cW;obtain ⟨ym,d',p1,p2,p3,p4,p5,-⟩:=cM (hE.types _ _ cx);rw [q1] at p1; cases p1;obtain ⟨zs,gm,gG⟩:=q4 c;have lK:zs.length=ei.size:=by rw [← gG.1]; simpa using hz
 have RX:(ti.bytes:Int)*b≤281474976710656:=by
  have h5:(ti.bytes:Int)≤65536:=by rw [← p5]; omega
  calc (ti.bytes:Int)*b≤65536*2147483648:=Int.mul_le_mul h5 hb (by omega) (by omega)
   _≤281474976710656:=by decide
 have hr:=run_make (P:=E.P) c.w t e ti z g2 q1 q2 j j' a b ha yE RX (by omega);have e1:=fP (hn c ac h3 h4);have e2:=fP (hc c ac h3 h4);obtain ⟨k1,k2⟩:=h3.add (.arr 0 (e,ei.size) (List.replicate a.toNat zd)) b.toNat (.cells (madeCells z.cells (b.toNat*ti.size)) e);have dO:gp ei.size (List.replicate a.toNat zd):=fun i e he=>by
  rw [List.getElem?_replicate] at he;split at he
  ·cases he; rw [JW,hz]
  ·cases he
 have bC:(c.add (.arr 0 (e,ei.size) (List.replicate a.toNat zd)) b.toNat (.cells (madeCells z.cells (b.toNat*ti.size)) e)).own c.heap.length=some (c.w.heap.size,b.toNat):=by simp [Cx.add]
 have km:(c.add (.arr 0 (e,ei.size) (List.replicate a.toNat zd)) b.toNat (.cells (madeCells z.cells (b.toNat*ti.size)) e)).heap[c.heap.length]? = some (.arr 0 (e,ei.size) (List.replicate a.toNat zd)):=by simp [Cx.add]
 refine ⟨_,.slice (some ⟨c.w.heap.size,0,none⟩) a.toNat b.toNat,.inl ?_,rfl,k2 ⟨cW,dO,.inr ⟨c.w.heap.size,b.toNat,madeCells z.cells (b.toNat*ti.size),bC,heap_alloc_new _ _,by rw [size_madeCells,q3],by simp; omega,o9 (by omega),?_⟩⟩,?_,k1⟩
 ·simp only [execOp,h1,e1,e2,Sem.run_bind,hr,Result.andThen_ok,Sem.run_pure];rfl
 ·intro i' j2 e' x he hx;have kT:j2<ei.size:=by rw [← dO i' e' he]; exact aZ hx
  rw [List.getElem?_replicate] at he;split at he
  ·rename_i ai;cases he;rw [JW] at hx;have rX:i'*ei.size+j2<b.toNat*ti.size:=by
    rw [← q3];have:(i'+1)*ei.size≤b.toNat*ei.size:=Nat.mul_le_mul_right _ (by omega);rw [Nat.add_mul,Nat.one_mul] at this;omega
   have vZ:(i'*ei.size+j2) % ei.size=j2:=by rw [Nat.mul_comm,Nat.mul_add_mod,Nat.mod_eq_of_lt kT]
   have bT:(madeCells z.cells (b.toNat*ti.size))[i'*ei.size+j2]? = some (zs[j2]'(by omega)):=by
    simp [madeCells,rX,gm,lK,vZ,kT]
   have eZ:=gG.o5 j2 x (zs[j2]'(by omega)) hx (by simp [lK,kT]);exact ⟨_,bT,yb eZ (mz x (List.mem_of_getElem? hx)),k1.vd eZ⟩
  ·cases he
 ·have:=VR.own (c:=c.add (.arr 0 (e,ei.size) (List.replicate a.toNat zd)) b.toNat (.cells (madeCells z.cells (b.toNat*ti.size)) e)) c.heap.length 0 (e,ei.size) _ c.w.heap.size b.toNat km bC;rw [List.length_replicate] at this;exact this
theorem RY (hE:E.OK) {o:Op} {stop:Prop} {k:AV→List ag→Prop} (H:nr E.T E.G o s h stop k):stop∨∃ v h',k v h'∧aQ E o s h v h':=by
 unfold nr at H;split at H
 ·rename_i args tO;rcases JM H with h | ⟨x,y,hx,H⟩
  ·exact .inl h
  rcases JM H with h | ⟨t0,t1,ht,H⟩
  ·exact .inl h
  rcases bj H with h | ⟨i0,iC,H⟩
  ·exact .inl h
  rcases bj H with h | ⟨i1,tP,H⟩
  ·exact .inl h
  split at H
  ·rename_i e df;rcases bj H with h | ⟨ei,cx,H⟩
   ·exact .inl h
   split at H
   ·rename_i q1 q2 q3;rcases cI H with h | ⟨a,ha,H⟩
    ·exact .inl h
    rcases cI H with h | ⟨b,hb,H⟩
    ·exact .inl h
    have fin:∀ (m:List DV),(∀ k,i1.k ≠ .int k)→((∀ e∈m,e.cells.length=ei.size)→∀ (c:Cx) (v:Value),VR c b v→∃ news:List Value,Src E.P ei.size c.w v m.length news∧(∀ (j:Nat) (y:DV) (v:Value),(flat m)[j]? = some y→news[j]? = some v→VD c.bad c.w y v)) →
      Bx e ei h a m stop k→stop∨∃ v h',k v h'∧aQ E (.call { callee := .builtin .append,args:=args,argTypes:=tO }) s h v h':=by
     intro m gu BA H;have gen:=fun {r h'} (hm:∀ e∈m,e.cells.length=ei.size) EH=>RV (h:=h) (r:=r) (h':=h') hE hx ht iC tP df gu cx (Nat.eq_of_beq_eq_true q1) (iB q2) (Nat.le_of_ble_eq_true q3) hb hm (BA hm) ha EH;unfold Bx at H;split at H
     ·obtain ⟨⟨h1,h2⟩,H⟩:=nn H;rw [nf,Nat.zero_add] at H;exact .inr ⟨_,_,H,gen h2 (.inr ⟨rfl,h1,rfl,rfl⟩)⟩
     ·rcases bj H with h | ⟨bx,iA,H⟩
      ·exact .inl h
      split at H
      ·split at H
       ·rename_i p1 p2 p3;have p1:=Nat.eq_of_beq_eq_true p1;subst p1;obtain ⟨⟨h1,h2⟩,H⟩:=nn H;rw [gQ] at H;exact .inr ⟨_,_,H,gen h2 (.inl ⟨_,_,_,_,rfl,iA,Nat.eq_of_beq_eq_true p2,Nat.eq_of_beq_eq_true p3,h1,rfl,rfl⟩)⟩
       ·exact .inl H
      ·exact .inl H
     ·exact .inl H
    split at H
    ·rename_i e' m gu;exact fin m (fun k hk=>by rw [gu] at hk; cases hk) (fun hm c v hv=>by cases hv with | d _ _ hv=>exact JO (iB q2) hm hv) H
    ·rename_i z gu;split at H
     ·refine fin (z.map np) (fun k hk=>by rw [gu] at hk; cases hk) (fun hm c v hv=>?_) H;have gR:=o4 hv;subst gR;by_cases hz:z=[]
      ·subst hz;exact ⟨[],⟨fun _=>by simp [Builtin.lenOf,ByteArray.size],fun d=>by simp [Builtin.firstCells],fun v hv=>by simp at hv,by simp⟩,fun j y v hy=>by simp [flat] at hy⟩
      ·obtain ⟨b0,r,hr⟩:=List.exists_cons_of_ne_nil hz;have h1:1=ei.size:=hm (np b0) (by rw [hr]; simp);rw [← h1];exact ⟨_,JP.1,(JP (P:=E.P)).2⟩
     ·exact .inl H
    ·exact .inl H
   ·exact .inl H
  ·exact .inl H
 ·rcases bj H with h | ⟨i,hi,H⟩
  ·exact .inl h
  split at H
  ·rename_i e hk;rcases bj H with h | ⟨ei,cx,H⟩
   ·exact .inl h
   split at H
   ·rename_i q1 q2 q3 q4;rcases cI H with h | ⟨a,ha,H⟩
    ·exact .inl h
    split at H
    ·rcases cI H with h | ⟨b,hb,H⟩
     ·exact .inl h
     split at H
     ·split at H
      ·rename_i z jG;obtain ⟨⟨h1,h2,h3⟩,H⟩:=nn H;rw [nf,Nat.zero_add] at H;have gm:z.eW=true:=by rw [jG] at q4; simpa using q4
       exact .inr ⟨_,_,H,JV hE hi hk cx (Nat.eq_of_beq_eq_true q1) (iB q2) (Nat.le_of_ble_eq_true q3) (fun y hy=>List.all_eq_true.1 q4 y hy) ha hb h1 h2 h3 (zd:=z) (by rw [jG]; cases z <;> first | rfl | cases gm)⟩
      ·obtain ⟨⟨h1,h2,h3⟩,H⟩:=nn H;rw [nf,Nat.zero_add] at H;exact .inr ⟨_,_,H,JV hE hi hk cx (Nat.eq_of_beq_eq_true q1) (iB q2) (Nat.le_of_ble_eq_true q3) (fun y hy=>List.all_eq_true.1 q4 y hy) ha hb h1 h2 h3 rfl⟩
     ·exact .inl H
    ·exact .inl H
   ·exact .inl H
  ·exact .inl H
 ·exact .inl H
end
end Go.ax
end
section
namespace Go.ax
open Go Go.RowKit
@[irreducible] def rZ (l : List DV) (sz : Nat) (n : Int) (K : DV → Prop) : Prop := ∃ e, 0 ≤ n ∧ l[n.toNat]? = some e ∧ e.cells.length = sz ∧ K e
theorem ee {l:List DV} {sz:Nat} {n:Int} {K:DV→Prop} (e:DV) (h0:0≤n) (he:l[n.toNat]? = some e) (hs:e.cells.length=sz) (k:K e):rZ l sz n K:=by unfold rZ; exact ⟨e,h0,he,hs,k⟩
theorem EI {l:List DV} {sz:Nat} {n:Int} {K:DV→Prop} (h:rZ l sz n K):∃ e,0≤n∧l[n.toNat]? = some e∧e.cells.length=sz∧K e:=by unfold rZ at h; exact h
@[irreducible] def yF (s : List UInt8) (n : Int) (K : UInt8 → Prop) : Prop := ∃ b, 0 ≤ n ∧ s[n.toNat]? = some b ∧ K b
theorem tQ {s:List UInt8} {n:Int} {K:UInt8→Prop} (b:UInt8) (h0:0≤n) (hb:s[n.toNat]? = some b) (k:K b):yF s n K:=by unfold yF; exact ⟨b,h0,hb,k⟩
theorem RZ {s:List UInt8} {n:Int} {K:UInt8→Prop} (h:yF s n K):∃ b,0≤n∧s[n.toNat]? = some b∧K b:=by unfold yF at h; exact h
@[irreducible] def yG (c : List DV) (len sz : Nat) (n : Int) (K : DV → Prop) : Prop := ∃ e, 0 ≤ n ∧ n < len ∧ 0 < sz ∧ (c.drop (n.toNat * sz)).take sz = e.cells ∧ e.cells.length = sz ∧ K e
theorem R0 {c:List DV} {len sz:Nat} {n:Int} {K:DV→Prop} (e:DV) (h0:0≤n) (h1:n<len) (hz:0<sz) (he:(c.drop (n.toNat*sz)).take sz=e.cells) (hs:e.cells.length=sz) (k:K e):yG c len sz n K:=by unfold yG; exact ⟨e,h0,h1,hz,he,hs,k⟩
theorem R2 {c:List DV} {len sz:Nat} {n:Int} {K:DV→Prop} (h:yG c len sz n K):∃ e,0≤n∧n<len∧0<sz∧(c.drop (n.toNat*sz)).take sz=e.cells∧e.cells.length=sz∧K e:=by unfold yG at h; exact h
def BB (G:List (Nat × DV)) (s:List AV) (x:Option Operand) (stop:Prop) (k:Option Int→Prop):Prop :=
 match x with
 |none=>k none
 |some x=>cH G s x stop fun
  | .d (.int _ n)=>k (some n)
  |_=>stop
def BC (e:DV) (off:Nat) (ds:List DV) (stop:Prop) (k:DV→Prop):Prop :=
 match e with
 | .agg c=>match Nat.ble (off+ds.length) c.length with
  |true=>vL c off ds fun c'=>k (.agg c')
  |false=>stop
 |_=>match off,ds with
  | 0,[d]=>match d.eW with
   |true=>k d
   |false=>stop
  |_,_=>stop
def EJ (e:DV) (off:Nat) (vs:List AV) (stop:Prop) (k:DV→Prop):Prop:=my vs stop fun ds=>BC e off ds stop k
def lQ (T:List bB) (G:List (Nat × DV)) (o:Op) (s:List AV) (h:List ag) (stop:Prop) (k:AV→List ag→Prop):Prop :=
 match o with
 | .indexAddr t x i=>aV T t stop fun ti=>cH G s x stop fun a=>cH G s i stop fun
  | .d (.int _ n)=>match ti.k with
   | .slice e=>aV T e stop fun ei=>match a with
    | .d (.sl l)=>match Nat.blt 0 ei.size with
     |true=>rZ l ei.size n fun e=>k (.b8 e 0) h
     |false=>stop
    | .own b g=>aV h b stop fun
     | .arr g' ts l=>match Nat.beq g g',Nat.beq ts.2 ei.size with
      |true,true=>need (0≤n∧n<l.length) (k (.cK b g n.toNat 0) h)
      |_,_=>stop
     |_=>stop
    |_=>stop
   | .array len e=>aV T e stop fun ei=>match a with
    | .b8 (.agg c) 0=>yG c len ei.size n fun e'=>k (.b8 e' 0) h
    |_=>stop
   |_=>stop
  |_=>stop
 | .index t x i=>aV T t stop fun ti=>cH G s x stop fun a=>cH G s i stop fun
  | .d (.int _ n)=>match ti.k,a with
   | .string,.d (.str l)=>yF l n fun b=>k (.d (.int .u8 b.toNat)) h
   |_,_=>stop
  |_=>stop
 | .slice t x lo hi none=>aV T t stop fun ti=>cH G s x stop fun a=>BB G s lo stop fun l=>BB G s hi stop fun u=>match ti.k,a with
  | .string,.d (.str z)=>need (0≤l.getD 0∧l.getD 0≤u.getD z.length∧u.getD z.length≤z.length) (k (.d (.str ((z.take (u.getD z.length).toNat).drop (l.getD 0).toNat))) h)
  | .slice e,.d (.sl z)=>aV T e stop fun ei=>need (0≤l.getD 0∧l.getD 0≤u.getD z.length∧u.getD z.length≤z.length∧∀ e∈z,e.cells.length=ei.size) (k (.d (.sl ((z.take (u.getD z.length).toNat).drop (l.getD 0).toNat))) h)
  |_,_=>stop
 | .load t x=>aV T t stop fun ti=>cH G s x stop fun
  | .cK b g i off=>aV h b stop fun
   | .arr g' ts l=>match Nat.beq g g' with
    |true=>rZ l ts.2 i fun e=>match e with
     | .agg c=>nZ .d c fun c'=>kP ti c' off stop fun v=>k v h
     |e=>kP ti [.d e] off stop fun v=>k v h
    |false=>stop
   |_=>stop
  |_=>stop
 | .store t x y=>aV T t stop fun ti=>cH G s y stop fun v=>cH G s x stop fun
  | .cK b g i off=>aV h b stop fun
   | .arr g' ts l=>match Nat.beq g g' with
    |true=>vN v stop fun vs=>match Nat.beq vs.length ti.size,vs.all AV.eW with
     |true,true=>rZ l ts.2 i fun e=>EJ e off vs stop fun e'=>fN h b (.arr g ts (l.set i e')) fun h'=>k (.d .undef) h'
     |_,_=>stop
    |false=>stop
   |_=>stop
  |_=>stop
 |o=>nr T G o s h stop k
section
variable {E:Env} {s:List AV} {h:List ag} {c:Cx}
theorem BD {P:Program} {t e:Nat} {i ei:bB} (ht:eN P t=some i) (R3:eN P e=some ei) (hk:i.k = .slice e) {j:IntKind} {n:Int} {b o len cap:Nat} {w:World} (h0:0≤n) (h1:n<len) :
  (Instr.indexAt t (.slice (some ⟨b,o,none⟩) len cap) (.int j n)).run P w = .ok (.pointer (some ⟨b,o+n.toNat*ei.size,none⟩)) w:=by
 obtain ⟨ti,d,g1,g2,g3,-⟩:=cM ht;obtain rfl:=lJ (hk.symm.trans g3);simp only [Instr.indexAt,asIntOf,Sem.run_bind,Sem.run_pure,Result.andThen_ok,run_underlying g2,h0,h1,and_self,if_true,run_sizeOf R3,kQ]
theorem wa {P:Program} {o:Oper} {ac:Act} {w:World} {t:Nat} {x i:Operand} {v:Value} (h1:o.op = .indexAddr t x i) (hr:(Instr.indexAt t (ac.eval x) (ac.eval i)).run P w = .ok v w):(execOp ac.eval o).run P w = .ok (.value v) w:=by
 simp only [execOp,h1,Sem.run_bind,hr,Result.andThen_ok,Sem.run_pure]
theorem R4 {l:List DV} {v:Value} (hv:VR c (.d (.sl l)) v) {n sz:Nat} {e:DV} (he:l[n]? = some e) (hs:e.cells.length=sz) (cW:0<sz):∃ blk off cap,v = .slice (some ⟨blk,off,none⟩) l.length cap∧VR c (.b8 e 0) (.pointer (some ⟨blk,off+n*sz,none⟩)):=by
 cases hv with
 |d _ _ hd=>cases hd with
  |slnil=>simp at he
  |kO=>simp at he
  |sl _ blk off cap dE f hb bP je hlen dP bT cg =>
   obtain rfl:dE=sz:=(hlen n e he).symm.trans hs;refine ⟨blk,off,cap,rfl,?_⟩;have aJ:l≠[]:=fun h0=>by subst h0; simp at he
   have:=VR.b8 (c:=c) e 0 blk (off+n*dE) (fun j=>f n j) (hb aJ) (fun h0=>by rw [h0] at hs; simp at hs; omega) (fun j x hx=>by rw [Nat.add_assoc]; exact dP n j e x he hx) (fun j x hx=>bT n j e x he hx);exact this
theorem R5 (hE:E.OK) {t e:Nat} {x i:Operand} {ti ei:bB} (cj:E.T[t]? = some ti) (cx:E.T[e]? = some ei) (hk:ti.k = .slice e) {l:List DV} {j:IntKind} {n:Int} (hx:bp E.G s x (.d (.sl l))) (hi:bp E.G s i (.d (.int j n))) (cW:0<ei.size) {y:DV} (h0:0≤n) (hy:l[n.toNat]? = some y) (hs:y.cells.length=ei.size) :
  aQ E (.indexAddr t x i) s h (.b8 y 0) h := .quiet fun o c ac h1 _ h3 h4=>by
 obtain ⟨blk,off,cap,e1,e2⟩:=R4 (hx c ac h3 h4) hy hs cW;refine ⟨_,wa h1 ?_,e2⟩;rw [e1,fP (hi c ac h3 h4)];have:=aZ hy;exact BD (hE.types t ti cj) (hE.types e ei cx) hk h0 (by omega)
theorem JX {b g i off:Nat} {ts:Nat × Nat} {l:List DV} (hb:c.heap[b]? = some (.arr g ts l)) {v:Value} (hv:VR c (.cK b g i off) v):∃ blk cap,c.own b=some (blk,cap)∧v = .pointer (some ⟨blk,i*ts.2+off,none⟩)∧i<l.length:=by
 cases hv with
 |cK _ _ _ _ _ l' blk cap k1 k2 k3=>rw [hb] at k1; cases k1; exact ⟨blk,cap,k2,rfl,k3⟩
 |lF _ _ g' _ _ _ _ _ k1 k2 _=>rw [hb] at k1; cases k1; omega
 |lG _ _ _ _ _ k1 _=>rw [hb] at k1; cases k1
theorem R6 (hE:E.OK) {t e:Nat} {x i:Operand} {ti ei:bB} (cj:E.T[t]? = some ti) (cx:E.T[e]? = some ei) (hk:ti.k = .slice e) {b g:Nat} {ts:Nat × Nat} {l:List DV} (hb:h[b]? = some (.arr g ts l)) (mD:ts.2=ei.size) {j:IntKind} {n:Int} (hx:bp E.G s x (.own b g)) (hi:bp E.G s i (.d (.int j n))) (h0:0≤n) (h1:n<l.length) :
  aQ E (.indexAddr t x i) s h (.cK b g n.toNat 0) h := .quiet fun o c ac e1 e2 h3 h4=>by
 subst e2;rcases oh hb (hx c ac h3 h4) with ⟨blk,cap,q1,q2⟩ | ⟨rfl,-,-⟩
 ·refine ⟨_,wa e1 (v := .pointer (some ⟨blk,0+n.toNat*ei.size,none⟩)) ?_,?_⟩
  ·rw [q2,fP (hi c ac h3 h4)];exact BD (hE.types t ti cj) (hE.types e ei cx) hk h0 h1
  ·have:=VR.cK (c:=c) b g n.toNat 0 ts l blk cap hb q1 (by omega);rw [mD] at this
   simpa using this
 ·simp at h1; omega
theorem R7 (hE:E.OK) {t e len:Nat} {x i:Operand} {ti ei:bB} (cj:E.T[t]? = some ti) (cx:E.T[e]? = some ei) (hk:ti.k = .array len e) {cs:List DV} {j:IntKind} {n:Int} (hx:bp E.G s x (.b8 (.agg cs) 0)) (hi:bp E.G s i (.d (.int j n))) {y:DV} (h0:0≤n) (h1:n<len) (cW:0<ei.size) (hy:(cs.drop (n.toNat*ei.size)).take ei.size=y.cells) (hs:y.cells.length=ei.size) :
  aQ E (.indexAddr t x i) s h (.b8 y 0) h := .quiet fun o c ac e1 _ h3 h4=>by
 obtain ⟨nu,d,g1,g2,g3,-⟩:=cM (hE.types t ti cj);obtain rfl:=ye (hk.symm.trans g3);have key:∀ p,VR c (.b8 (.agg cs) 0) p→∃ blk o',p = .pointer (some ⟨blk,o',none⟩)∧VR c (.b8 y 0) (.pointer (some ⟨blk,o'+n.toNat*ei.size,none⟩)):=fun p hp=>by
  cases hp with
  |b8 _ _ blk o' f k1 k2 k3 k4 =>
   have eR:∀ (jj:Nat) (z:DV),y.cells[jj]? = some z→cs[n.toNat*ei.size+jj]? = some z:=fun jj z hz=>by
    rw [← hy,List.getElem?_take] at hz;split at hz
    ·simpa using hz
    ·cases hz
   exact ⟨blk,o'+0,rfl,VR.b8 y 0 blk (o'+0+n.toNat*ei.size) (fun jj=>f (n.toNat*ei.size+jj)) k1 (fun hh=>by rw [hh] at hs; simp at hs; omega) (fun jj z hz=>by rw [Nat.add_zero,Nat.add_assoc]; exact k3 _ z (eR jj z hz)) (fun jj z hz=>k4 _ z (eR jj z hz))⟩
 obtain ⟨blk,o',q1,q2⟩:=key _ (hx c ac h3 h4);refine ⟨_,wa e1 ?_,q2⟩;rw [q1,fP (hi c ac h3 h4)];simp only [Instr.indexAt,asIntOf,Sem.run_bind,Sem.run_pure,Result.andThen_ok,run_underlying g2,Instr.sureAddr,h0,h1,and_self,if_true,run_sizeOf (hE.types e ei cx),kQ]
theorem R8 (hE:E.OK) {t:Nat} {x i:Operand} {ti:bB} (cj:E.T[t]? = some ti) (hk:ti.k = .string) {l:List UInt8} {j:IntKind} {n:Int} (hx:bp E.G s x (.d (.str l))) (hi:bp E.G s i (.d (.int j n))) {b:UInt8} (h0:0≤n) (hb:l[n.toNat]? = some b) :
  aQ E (.index t x i) s h (.d (.int .u8 b.toNat)) h := .quiet fun o c ac e1 _ h3 h4=>by
 obtain ⟨nu,d,g1,g2,g3,-⟩:=cM (hE.types t ti cj);obtain rfl:=rU (hk.symm.trans g3);have ai:=aZ hb;have eR:(ByteArray.mk l.toArray)[n.toNat]? = some b:=by
  have hs:n.toNat<(ByteArray.mk l.toArray).size:=by simpa [ByteArray.size] using ai
  rw [getElem?_pos (ByteArray.mk l.toArray) n.toNat hs];have:=List.getElem?_eq_getElem ai;rw [hb] at this
  simpa [ByteArray.getElem_eq_getElem_data] using this.symm
 refine ⟨.int .u8 b.toNat,?_,.d _ _ (.int _ _)⟩;simp only [execOp,e1,o4 (hx c ac h3 h4),fP (hi c ac h3 h4),Instr.index,asIntOf,Sem.run_bind,Sem.run_pure,Result.andThen_ok,run_underlying g2,h0,if_true,eR]
def yH (G:List (Nat × DV)) (s:List AV) (x:Option Operand) (n:Option Int):Prop:=∀ (c:Cx) (a:Act),aE G c→VS c s a.tmps→match n with
 |none=>x.map a.eval=none
 |some n=>∃ j,x.map a.eval=some (.int j n)
theorem JY {x:Option Operand} {stop:Prop} {k:Option Int→Prop} (H:BB E.G s x stop k):stop∨∃ n,yH E.G s x n∧k n:=by
 unfold BB at H;split at H
 ·exact .inr ⟨none,fun _ _ _ _=>rfl,H⟩
 ·rcases cI H with h | ⟨v,hv,H⟩
  ·exact .inl h
  split at H
  ·rename_i j n;refine .inr ⟨some n,fun c a h1 h2=>?_,H⟩;show ∃ j,_=some (Value.int j n);exact ⟨j,by simp [fP (hv c a h1 h2)]⟩
  ·exact .inl H
theorem EK {P:Program} {w:World} {isSlice:Bool} {len cap:Nat} {lo hi:Option Value} {l u:Option Int} (hl:match l with | none=>lo=none | some n=>∃ j,lo=some (.int j n)) (hu:match u with | none=>hi=none | some n=>∃ j,hi=some (.int j n))
  (h0:0≤l.getD 0) (h1:l.getD 0≤u.getD len) (h2:u.getD len≤len) (hc:len≤cap) :
  (Instr.sliceBounds isSlice len cap lo hi none).run P w = .ok ((l.getD 0).toNat,(u.getD len).toNat,cap) w:=by
 cases l with
 |none =>
  simp only at hl;subst hl;cases u with
  |none =>
   simp only at hu;subst hu;simp only [Instr.sliceBounds,Sem.run_bind,Sem.run_pure,Result.andThen_ok,Option.getD_none,Int.toNat_natCast,Int.toNat_zero]
  |some n =>
   obtain ⟨j,rfl⟩:=hu;simp only [Option.getD_some,Option.getD_none] at h1 h2;simp only [Instr.sliceBounds,Sem.run_bind,Sem.run_pure,Result.andThen_ok,Option.getD_none,Option.getD_some,Int.toNat_zero,run_sliceBound w j n cap _ h1 (by omega)]
 |some m =>
  obtain ⟨i,rfl⟩:=hl;cases u with
  |none =>
   simp only at hu;subst hu;simp only [Option.getD_some,Option.getD_none] at h0 h1;simp only [Instr.sliceBounds,Sem.run_bind,Sem.run_pure,Result.andThen_ok,Option.getD_none,Option.getD_some,Int.toNat_natCast,run_sliceBound w i m len _ h0 h1]
  |some n =>
   obtain ⟨j,rfl⟩:=hu;simp only [Option.getD_some] at h0 h1 h2;simp only [Instr.sliceBounds,Sem.run_bind,Sem.run_pure,Result.andThen_ok,Option.getD_some,run_sliceBound w j n cap _ (by omega) (by omega),run_sliceBound w i m n.toNat _ h0 (by omega)]
theorem R9 (l:List UInt8) (a b:Nat):(ByteArray.mk l.toArray).extract a b=ByteArray.mk ((l.take b).drop a).toArray:=by
 apply ByteArray.ext;simp [List.extract_eq_take_drop,List.drop_take]
theorem Sa (hE:E.OK) {t:Nat} {x:Operand} {lo hi:Option Operand} {ti:bB} (cj:E.T[t]? = some ti) (hk:ti.k = .string) {z:List UInt8} {l u:Option Int} (hx:bp E.G s x (.d (.str z))) (hl:yH E.G s lo l) (hu:yH E.G s hi u)
  (h0:0≤l.getD 0) (h1:l.getD 0≤u.getD z.length) (h2:u.getD z.length≤z.length):aQ E (.slice t x lo hi none) s h (.d (.str ((z.take (u.getD z.length).toNat).drop (l.getD 0).toNat))) h := .quiet fun o c ac e1 _ h3 h4=>by
 obtain ⟨nu,d,g1,g2,g3,-⟩:=cM (hE.types t ti cj);obtain rfl:=rU (hk.symm.trans g3);have bP:(ByteArray.mk z.toArray).size=z.length:=by simp [ByteArray.size]
 have hb:=EK (P:=E.P) (w:=c.w) (isSlice:=false) (len:=z.length) (cap:=z.length) (hl c ac h3 h4) (hu c ac h3 h4) h0 h1 h2 (Nat.le_refl _);refine ⟨_,?_,.d _ _ (.str _)⟩;simp only [execOp,e1,o4 (hx c ac h3 h4),Instr.sliceAt,Instr.slice,Sem.run_bind,Sem.run_pure,Result.andThen_ok,run_underlying g2,Option.map_none,Option.isSome_none,Bool.false_eq_true,if_false,bP,hb,R9]
theorem Sb {bad:Nat→Prop} {w:World} {z:List DV} {v:Value} (hv:VD bad w (.sl z) v) {lo hi sz:Nat} (h1:lo≤hi) (h2:hi≤z.length) (bP:∀ e∈z,e.cells.length=sz):∃ a cap,v = .slice a z.length cap∧z.length≤cap∧VD bad w (.sl ((z.take hi).drop lo)) (.slice (if cap=lo then a else a.map (·.add (lo*sz))) (hi - lo) (cap - lo)):=by
 have hlen:((z.take hi).drop lo).length=hi - lo:=by simp; omega
 cases hv with
 |slnil =>
  simp at h2;subst h2;simp at h1;subst h1;exact ⟨none,0,rfl,Nat.le_refl _,by simpa using VD.slnil⟩
 |kO a =>
  simp at h2;subst h2;simp at h1;subst h1;exact ⟨some a,0,rfl,Nat.le_refl _,by simpa using VD.kO a⟩
 |sl _ blk off cap dE f hb By je kU dP bT cg =>
  refine ⟨some ⟨blk,off,none⟩,cap,rfl,je,?_⟩;by_cases hc:cap=lo
  ·have:hi=lo:=by omega
   subst this;have e:(z.take hi).drop hi=[]:=by simp
   rw [e,if_pos hc,Nat.sub_self];exact .sl [] blk off (cap - hi) dE f (fun h=>absurd rfl h) By (Nat.zero_le _) (fun i e he=>by simp at he) (fun i j e x he=>by simp at he) (fun i j e x he=>by simp at he) (fun i j e x he=>by simp at he)
  ·rw [if_neg hc,← hlen];simp only [Option.map_some,kQ];have eR:∀ (i:Nat) (e:DV),((z.take hi).drop lo)[i]? = some e→z[lo+i]? = some e:=fun i e he=>by
    simp only [List.getElem?_drop,List.getElem?_take] at he;split at he
    ·exact he
    ·cases he
   by_cases aJ:(z.take hi).drop lo=[]
   ·rw [aJ];exact .sl [] blk _ (cap - lo) dE f (fun h=>absurd rfl h) By (Nat.zero_le _) (fun i e he=>by simp at he) (fun i j e x he=>by simp at he) (fun i j e x he=>by simp at he) (fun i j e x he=>by simp at he)
   ·obtain ⟨e0,r,hr⟩:=List.exists_cons_of_ne_nil aJ;have EL:=eR 0 e0 (by rw [hr]; rfl);have kj:dE=sz:=(kU _ _ EL).symm.trans (bP e0 (List.mem_of_getElem? EL));subst kj;refine .sl _ blk (off+lo*dE) (cap - lo) dE (fun i j=>f (lo+i) j) (fun _=>hb (fun h=>by subst h; simp at EL)) By (by rw [hlen]; omega) (fun i e he=>kU _ _ (eR i e he)) (fun i j e x he hx=>?_) (fun i j e x he hx=>bT _ _ _ _ (eR i e he) hx) (fun i j e x he hx=>cg _ _ _ _ (eR i e he) hx);have:=dP _ _ _ _ (eR i e he) hx;rw [Nat.add_mul] at this;rw [show off+lo*dE+(i*dE+j)=off+(lo*dE+i*dE+j) by omega];exact this
theorem Sc (hE:E.OK) {t e:Nat} {x:Operand} {lo hi:Option Operand} {ti ei:bB} (cj:E.T[t]? = some ti) (cx:E.T[e]? = some ei) (hk:ti.k = .slice e) {z:List DV} {l u:Option Int} (hx:bp E.G s x (.d (.sl z))) (hl:yH E.G s lo l) (hu:yH E.G s hi u)
  (h0:0≤l.getD 0) (h1:l.getD 0≤u.getD z.length) (h2:u.getD z.length≤z.length) (bP:∀ e∈z,e.cells.length=ei.size):aQ E (.slice t x lo hi none) s h (.d (.sl ((z.take (u.getD z.length).toNat).drop (l.getD 0).toNat))) h := .quiet fun o c ac e1 _ h3 h4=>by
 obtain ⟨nu,d,g1,g2,g3,-⟩:=cM (hE.types t ti cj);obtain rfl:=lJ (hk.symm.trans g3);have hv:=hx c ac h3 h4;generalize Sd:ac.eval x=v at hv;cases hv with
 |d _ _ hv =>
  obtain ⟨a,cap,rfl,je,hd⟩:=Sb hv (lo:=(l.getD 0).toNat) (hi:=(u.getD z.length).toNat) (by omega) (by omega) bP;have hb:=EK (P:=E.P) (w:=c.w) (isSlice:=true) (len:=z.length) (cap:=cap) (hl c ac h3 h4) (hu c ac h3 h4) h0 h1 h2 je;refine ⟨_,?_,.d _ _ hd⟩;simp only [execOp,e1,Sd,Instr.sliceAt,Instr.slice,Sem.run_bind,Sem.run_pure,Result.andThen_ok,run_underlying g2,Option.map_none,hb,run_sizeOf (hE.types e ei cx)]
theorem aE.elem {G:List (Nat × DV)} (ho:aE G c) {b g:Nat} {ts:Nat × Nat} {l:List DV} (hb:c.heap[b]? = some (.arr g ts l)) {blk cap:Nat} (bC:c.own b=some (blk,cap)) {i:Nat} {e:DV} (he:l[i]? = some e) :
  ∃ (vs:Array Value) (us:List Value),c.w.heap[blk]? = some (.cells vs ts.1 (0,0))∧us.length=ts.2∧Bj c.w blk (i*ts.2) us∧VL c (e.cells.map .d) us∧i*ts.2+ts.2≤vs.size:=by
 obtain ⟨q0,q1,q2⟩:=ho.box b _ hb;rcases q2 with ⟨q2,-⟩ | ⟨lI,ki,vs,q2,q3,q4,q5,q6,q7⟩
 ·rw [bC] at q2; cases q2
 ·rw [bC] at q2; cases q2;have hlen:=q1 i e he;have hi:=aZ he;have dD:i*ts.2+ts.2≤vs.size:=by
   rw [q4]
   calc i*ts.2+ts.2=(i+1)*ts.2:=by rw [Nat.add_mul,Nat.one_mul]
    _≤cap*ts.2:=Nat.mul_le_mul_right _ (by omega)
  refine ⟨vs,(vs.toList.drop (i*ts.2)).take ts.2,q3,by simp; omega,fun j v hv=>?_,.tz (by simp [hlen]; omega) (fun j x v hx hv=>?_),dD⟩
  ·rw [List.getElem?_take] at hv;split at hv
   ·rw [List.getElem?_drop] at hv;have:=ng q3 (i*ts.2+j) v hv
    simpa using this
   ·cases hv
  ·obtain ⟨u,k1,-,k2⟩:=q7 i j e x he hx;rw [List.getElem?_take] at hv;split at hv
   ·rw [List.getElem?_drop] at hv;have:vs[i*ts.2+j]? = some v:=by simpa using hv
    rw [k1] at this; cases this;exact k2
   ·cases hv
theorem JZ (hE:E.OK) {t:Nat} {x:Operand} {ti:bB} (cj:E.T[t]? = some ti) {b g i off:Nat} {ts:Nat × Nat} {l:List DV} (hb:h[b]? = some (.arr g ts l)) (hx:bp E.G s x (.cK b g i off)) {e:DV} (he:l[i]? = some e) {stop:Prop} {k:AV→Prop} {cs:List AV} (mF:cs=e.cells.map .d) (H:kP ti cs off stop k) :
  stop∨∃ v,k v∧aQ E (.load t x) s h v h:=by
 rcases Bk H with h1 | ⟨v,hk,hp⟩
 ·exact .inl h1
 refine .inr ⟨v,hk,.quiet fun o c ac h1 h2 h3 h4=>?_⟩;subst h2;obtain ⟨blk,cap,q1,q2,q3⟩:=JX hb (hx c ac h3 h4);obtain ⟨vs,us,r1,r2,r3,r4,r5⟩:=h3.elem hb q1 he;obtain ⟨u,hu,qc⟩:=hp E.P t c blk (i*ts.2) us (hE.types t ti cj) (by rw [mF]; exact r4) r3;refine ⟨u,?_,qc⟩;simp only [execOp,h1,q2,Sem.run_bind,hu,Result.andThen_ok,Sem.run_pure]
theorem aE.Se {G:List (Nat × DV)} (ho:aE G c) {b g blk cap:Nat} {ts:Nat × Nat} {l:List DV} {vs:Array Value} (hb:c.heap[b]? = some (.arr g ts l)) (bC:c.own b=some (blk,cap)) (hblk:c.w.heap[blk]? = some (.cells vs ts.1 (0,0)))
  {i off:Nat} {e e':DV} (he:l[i]? = some e) (hs:e'.cells.length=ts.2) {us:List Value} (dD:off+us.length≤ts.2) (cg:∀ u∈us,u.oneCell'=true)
  (hv:∀ (j:Nat) (x:DV),e'.cells[j]? = some x→(off≤j∧∃ v,us[j - off]? = some v∧VD c.bad c.w x v)∨((j<off∨off+us.length≤j)∧e.cells[j]? = some x)) :
  let c':Cx:={ c with heap:=c.heap.set b (.arr g ts (l.set i e')),w:=c.w.setCells blk (i*ts.2+off) us }
  aE G c'∧Step c c':=by
 intro c';obtain ⟨e1,e2,e3,e4⟩:=yc blk us (i*ts.2+off) c.w;have ez:b<c.heap.length:=(ho.bI b blk cap bC).2
 have aR:Step c c':={
  au:=rfl
  bD:=ho.bD
  os:=e1
  tape:=e2
  output:=e3
  size:=Nat.le_of_eq e4.symm
  keep:=fun x _ hn=>tA blk us _ c.w x (fun e=>hn b cap (by rw [e]; exact bC))
  dC:=fun i x n hi _=>⟨n,hi⟩
  boxes:=fun k bx hk=>by
   by_cases qA:k=b
   ·subst qA;rw [hb] at hk;cases hk;exact .inl ⟨g,l.set i e',by show (c.heap.set k _)[k]? = _; rw [List.getElem?_set_self ez],.inr ⟨rfl,by simp,rfl⟩⟩
   ·have h':c'.heap[k]? = some bx:=by show (c.heap.set b _)[k]? = _; rw [List.getElem?_set_ne (Ne.symm qA)]; exact hk
    cases bx with
    |cells cs=>exact .inl ⟨cs,h',rfl,rfl⟩
    |arr g sz l=>exact .inl ⟨g,l,h',.inr ⟨rfl,rfl,rfl⟩⟩
    |map es=>exact .inl ⟨es,h',rfl⟩
    |gone=>exact h' }
 refine ⟨ho.next aR (fun k x n hk=>⟨by show x<(c.w.setCells blk _ us).heap.size; rw [e4]; exact (ho.bI k x n hk).1,by show k<(c.heap.set b _).length; rw [List.length_set]; exact (ho.bI k x n hk).2⟩) ho.inj (fun k bx hk=>?_),aR⟩;by_cases qA:k=b
 ·subst qA;have fS:(c.heap.set k (.arr g ts (l.set i e')))[k]? = some bx:=hk;rw [List.getElem?_set_self ez] at fS;cases fS;right;obtain ⟨q0,q1,q2⟩:=ho.box k _ hb;rcases q2 with ⟨q2,-⟩ | ⟨lI,ki,cX,q2,q3,q4,q5,q6,q7⟩
  ·rw [bC] at q2; cases q2
  ·rw [bC] at q2; cases q2;rw [hblk] at q3; cases q3;have iM:=aZ he;have yI:gp ts.2 (l.set i e'):=gp.set q1 i hs;refine ⟨q0,yI,.inr ⟨blk,cap,(dG vs.toList (i*ts.2+off) us).toArray,bC,yd blk ts.1 (0,0) us _ c.w vs hblk,by simp [vP,q4],by simpa using q5,q6,fun i' j e2 x h2 hx=>?_⟩⟩;have hj:j<ts.2:=by rw [← yI i' e2 h2]; exact aZ hx
   have eR:∀ (p:Nat),(dG vs.toList (i*ts.2+off) us)[p]? = if i*ts.2+off≤p∧p<i*ts.2+off+us.length∧p<vs.size then us[p - (i*ts.2+off)]? else vs[p]? := by
    intro p;have gen:∀ (us:List Value) (o:Nat) (q:List Value),(dG q o us)[p]? = if o≤p∧p<o+us.length∧p<q.length then us[p - o]? else q[p]? := by
     intro us
     induction us with
     |nil=>intro o q; rw [if_neg (by simp; omega)]; rfl
     |cons u us ih =>
      intro o q;rw [dG,ih];by_cases hp:o=p
      ·subst hp;rw [if_neg (by omega)];by_cases hq:o<q.length
       ·rw [if_pos (by simp; omega),List.getElem?_set_self hq]; simp
       ·rw [if_neg (by omega),List.getElem?_eq_none (by simp; omega),List.getElem?_eq_none (by omega)]
      ·by_cases hc:o+1≤p∧p<o+1+us.length∧p<q.length
       ·rw [if_pos (by simpa using hc),if_pos (by simp; omega)];rw [show p - o=(p - (o+1))+1 by omega];simp
       ·rw [if_neg (by simpa using hc),if_neg (by simp; omega),List.getElem?_set_ne hp]
    have:=gen us (i*ts.2+off) vs.toList
    simpa using this
   have ab8:i*ts.2+ts.2≤vs.size:=by
    rw [q4]
    calc i*ts.2+ts.2=(i+1)*ts.2:=by rw [Nat.add_mul,Nat.one_mul]
     _≤cap*ts.2:=Nat.mul_le_mul_right _ (by omega)
   show ∃ v,(dG vs.toList (i*ts.2+off) us).toArray[i'*ts.2+j]? = some v∧_;rw [List.getElem?_toArray,eR];by_cases EM:i'=i
   ·subst EM;rw [List.getElem?_set_self iM] at h2;cases h2;rcases hv j x hx with ⟨k1,v,k2,k3⟩ | ⟨k1,k2⟩
    ·have:=aZ k2;rw [if_pos (by omega)];exact ⟨v,by rw [show i'*ts.2+j - (i'*ts.2+off)=j - off by omega]; exact k2,cg v (List.mem_of_getElem? k2),aR.vd k3⟩
    ·rw [if_neg (by omega)];obtain ⟨v,r1,r2,r3⟩:=q7 i' j e x he k2;exact ⟨v,r1,r2,aR.vd r3⟩
   ·rw [List.getElem?_set_ne (Ne.symm EM)] at h2;obtain ⟨v,r1,r2,r3⟩:=q7 i' j e2 x h2 hx;rw [if_neg ?_]
    ·exact ⟨v,r1,r2,aR.vd r3⟩
    ·rintro ⟨k1,k2,-⟩;rcases Nat.lt_or_gt_of_ne EM with ai | qB
     ·have:(i'+1)*ts.2≤i*ts.2:=Nat.mul_le_mul_right _ ai;rw [Nat.add_mul,Nat.one_mul] at this;omega
     ·have:(i+1)*ts.2≤i'*ts.2:=Nat.mul_le_mul_right _ qB;rw [Nat.add_mul,Nat.one_mul] at this;omega
 ·left;have fS:(c.heap.set b (.arr g ts (l.set i e')))[k]? = some bx:=hk;rw [List.getElem?_set_ne (Ne.symm qA)] at fS;exact ⟨fS,rfl,fun x n hn=>tA blk us _ c.w x (fun e=>qA (ho.inj k b blk n cap (by rw [← e]; exact hn) bC))⟩
theorem Sf {β:Type} (us:List β) (o:Nat) (q:List β) (p:Nat):(dG q o us)[p]? = if o≤p∧p<o+us.length∧p<q.length then us[p - o]? else q[p]? := by
 induction us generalizing o q with
 |nil=>rw [if_neg (by simp; omega)]; rfl
 |cons u us ih =>
  rw [dG,ih];by_cases hp:o=p
  ·subst hp;rw [if_neg (by omega)];by_cases hq:o<q.length
   ·rw [if_pos (by simp; omega),List.getElem?_set_self hq]; simp
   ·rw [if_neg (by omega),List.getElem?_eq_none (by simp; omega),List.getElem?_eq_none (by omega)]
  ·by_cases hc:o+1≤p∧p<o+1+us.length∧p<q.length
   ·rw [if_pos (by simpa using hc),if_pos (by simp; omega)];rw [show p - o=(p - (o+1))+1 by omega];simp
   ·rw [if_neg (by simpa using hc),if_neg (by simp; omega),List.getElem?_set_ne hp]
theorem J1 {e:DV} (h:e.eW=true):e.cells=[e]:=by cases e <;> first | rfl | cases h
def EN (e:DV) (off:Nat) (ds:List DV) (e':DV):Prop:=e'.cells.length=e.cells.length∧off+ds.length≤e.cells.length ∧
 ∀ (j:Nat) (x:DV),e'.cells[j]? = some x→(off≤j∧ds[j - off]? = some x)∨((j<off∨off+ds.length≤j)∧e.cells[j]? = some x)
theorem Sg {e:DV} {off:Nat} {ds:List DV} {stop:Prop} {k:DV→Prop} (H:BC e off ds stop k):stop∨∃ e',k e'∧EN e off ds e':=by
 unfold BC at H;split at H
 ·rename_i cs;split at H
  ·rename_i q;rw [D8] at H;have hq:=Nat.le_of_ble_eq_true q;refine .inr ⟨.agg (dG cs off ds),H,by simp [DV.cells,vP],hq,fun j x hx=>?_⟩;simp only [DV.cells] at hx;rw [Sf] at hx;split at hx
   ·rename_i hc; exact .inl ⟨hc.1,hx⟩
   ·rename_i hc;refine .inr ⟨?_,hx⟩;have hj:=aZ hx;omega
  ·exact .inl H
 ·rename_i tB;split at H
  ·rename_i d;split at H
   ·rename_i hd;have jI:e.cells=[e]:=by cases e <;> first | rfl | exact absurd rfl (tB _)
    refine .inr ⟨d,H,by rw [jI,J1 hd]; rfl,by rw [jI]; simp,fun j x hx => .inl ⟨Nat.zero_le _,by rw [J1 hd] at hx; simpa using hx⟩⟩
   ·exact .inl H
  ·exact .inl H
theorem Sh {e:DV} {off:Nat} {vs:List AV} {stop:Prop} {k:DV→Prop} (H:EJ e off vs stop k):stop∨∃ (ds:List DV) (e':DV),vs=ds.map .d∧k e'∧EN e off ds e':=by
 unfold EJ at H;rcases tq vs stop (fun ds=>BC e off ds stop k) with ⟨ds,h1,h2⟩ | h2
 ·rw [h2] at H;rcases Sg H with h | ⟨e',h3,h4⟩
  ·exact .inl h
  ·exact .inr ⟨ds,e',h1,h3,h4⟩
 ·rw [h2] at H; exact .inl H
theorem Si (hE:E.OK) {t:Nat} {x y:Operand} {ti:bB} (cj:E.T[t]? = some ti) {b g i off:Nat} {ts:Nat × Nat} {l:List DV} (hb:h[b]? = some (.arr g ts l)) (hx:bp E.G s x (.cK b g i off)) {v:AV} (hy:bp E.G s y v) {ds:List DV} (hv:Eh v (ds.map .d)) (bP:ds.length=ti.size) (Sj:(ds.map AV.d).all AV.eW=true)
  {e e':DV} (he:l[i]? = some e) (jg:e.cells.length=ts.2) (hp:EN e off ds e'):aQ E (.store t x y) s h (.d .undef) (h.set b (.arr g ts (l.set i e'))):=fun o c ac h1 h2 h3 h4=>by
 subst h2;obtain ⟨blk,cap,q1,q2,q3⟩:=JX hb (hx c ac h3 h4);obtain ⟨vs,us0,r1,r2,r3,r4,r5⟩:=h3.elem hb q1 he;obtain ⟨us,o6,jF⟩:=hv c _ (hy c ac h3 h4);have hlen:us.length=ds.length:=by rw [← jF.1]; simp
 obtain ⟨p1,p2,p3⟩:=hp;have cg:∀ u∈us,u.oneCell'=true:=fun u hu=>by
  obtain ⟨j,hj,rfl⟩:=List.getElem_of_mem hu;have kR:j<(ds.map AV.d).length:=by rw [jF.1]; exact hj
  exact Eg (jF.2 j _ us[j] (List.getElem?_eq_getElem kR) (by simp [hj])) (List.all_eq_true.1 Sj _ (List.getElem_mem kR))
 have cR:=Jp (P:=E.P) (w:=c.w) (b:=blk) (o:=i*ts.2+off) (hE.types t ti cj) o6 (by omega) r1 (by omega) cg
 obtain ⟨w1,w2⟩:=h3.Se (i:=i) (off:=off) (e':=e') (us:=us) hb q1 r1 he (by omega) (by omega) cg (fun j x hx=>by
  rcases p3 j x hx with ⟨k1,k2⟩ | ⟨k1,k2⟩
  ·have ai:=aZ k2;exact .inl ⟨k1,us[j - off]'(by omega),by simp [show j - off<us.length by omega],jF.o5 (j - off) x _ k2 (by simp [show j - off<us.length by omega])⟩
  ·exact .inr ⟨by omega,k2⟩)
 refine ⟨_,Go.undef,.inr ⟨?_,rfl⟩,rfl,w1,.d _ _ .undef,w2⟩;simp only [execOp,h1,q2,Sem.run_bind,cR,Result.andThen_ok,Sem.run_pure]
theorem Sk (hE:E.OK) {o:Op} {stop:Prop} {k:AV→List ag→Prop} (H:lQ E.T E.G o s h stop k):stop∨∃ v h',k v h'∧aQ E o s h v h':=by
 unfold lQ at H;split at H
 ·
  rcases bj H with h | ⟨ti,cj,H⟩
  ·exact .inl h
  rcases cI H with h | ⟨a,ha,H⟩
  ·exact .inl h
  rcases cI H with h | ⟨b,hb,H⟩
  ·exact .inl h
  split at H
  ·split at H
   ·rename_i e hk;rcases bj H with h | ⟨ei,cx,H⟩
    ·exact .inl h
    split at H
    ·split at H
     ·rename_i q;obtain ⟨y,h0,h1,h2,H⟩:=EI H;exact .inr ⟨_,_,H,R5 hE cj cx hk ha hb (iB q) h0 h1 h2⟩
     ·exact .inl H
    ·rcases bj H with h | ⟨bx,iA,H⟩
     ·exact .inl h
     split at H
     ·split at H
      ·rename_i q1 q2;have:=Nat.eq_of_beq_eq_true q1;subst this;obtain ⟨⟨h0,h1⟩,H⟩:=nn H;exact .inr ⟨_,_,H,R6 hE cj cx hk iA (Nat.eq_of_beq_eq_true q2) ha hb h0 h1⟩
      ·exact .inl H
     ·exact .inl H
    ·exact .inl H
   ·rename_i len e hk;rcases bj H with h | ⟨ei,cx,H⟩
    ·exact .inl h
    split at H
    ·obtain ⟨y,h0,h1,h2,h3,h4,H⟩:=R2 H;exact .inr ⟨_,_,H,R7 hE cj cx hk ha hb h0 h1 h2 h3 h4⟩
    ·exact .inl H
   ·exact .inl H
  ·exact .inl H
 ·
  rcases bj H with h | ⟨ti,cj,H⟩
  ·exact .inl h
  rcases cI H with h | ⟨a,ha,H⟩
  ·exact .inl h
  rcases cI H with h | ⟨b,hb,H⟩
  ·exact .inl h
  split at H
  ·split at H
   ·have hk:ti.k = .string:=by assumption
    obtain ⟨y,h0,h1,H⟩:=RZ H;exact .inr ⟨_,_,H,R8 hE cj hk ha hb h0 h1⟩
   ·exact .inl H
  ·exact .inl H
 ·
  rcases bj H with h | ⟨ti,cj,H⟩
  ·exact .inl h
  rcases cI H with h | ⟨a,ha,H⟩
  ·exact .inl h
  rcases JY H with h | ⟨l,hl,H⟩
  ·exact .inl h
  rcases JY H with h | ⟨u,hu,H⟩
  ·exact .inl h
  split at H
  ·have hk:ti.k = .string:=by assumption
   obtain ⟨⟨h0,h1,h2⟩,H⟩:=nn H;exact .inr ⟨_,_,H,Sa hE cj hk ha hl hu h0 h1 h2⟩
  ·rcases bj H with h | ⟨ei,cx,H⟩
   ·exact .inl h
   obtain ⟨⟨h0,h1,h2,h3⟩,H⟩:=nn H;exact .inr ⟨_,_,H,Sc hE cj cx (by assumption) ha hl hu h0 h1 h2 h3⟩
  ·exact .inl H
 ·
  rcases bj H with h | ⟨ti,cj,H⟩
  ·exact .inl h
  rcases cI H with h | ⟨a,ha,H⟩
  ·exact .inl h
  split at H
  ·rcases bj H with h | ⟨bx,iA,H⟩
   ·exact .inl h
   split at H
   ·split at H
    ·rename_i q;have:=Nat.eq_of_beq_eq_true q;subst this;obtain ⟨e,h0,h1,h2,H⟩:=EI H;rw [Int.toNat_natCast] at h1;split at H
     ·rw [qb] at H;rcases JZ hE cj iA ha h1 rfl H with h | ⟨v,H,hv⟩
      ·exact .inl h
      ·exact .inr ⟨_,_,H,hv⟩
     ·rename_i tB;rcases JZ hE cj iA ha h1 (by cases e <;> first | rfl | exact absurd rfl (tB _)) H with h | ⟨v,H,hv⟩
      ·exact .inl h
      ·exact .inr ⟨_,_,H,hv⟩
    ·exact .inl H
   ·exact .inl H
  ·exact .inl H
 ·
  rcases bj H with h | ⟨ti,cj,H⟩
  ·exact .inl h
  rcases cI H with h | ⟨v,hv,H⟩
  ·exact .inl h
  rcases cI H with h | ⟨a,ha,H⟩
  ·exact .inl h
  split at H
  ·rcases bj H with h | ⟨bx,iA,H⟩
   ·exact .inl h
   split at H
   ·split at H
    ·rename_i q;have:=Nat.eq_of_beq_eq_true q;subst this;rcases Bh H with h | ⟨vs,gh,H⟩
     ·exact .inl h
     split at H
     ·rename_i q1 q2;obtain ⟨e,h0,h1,h2,H⟩:=EI H;rw [Int.toNat_natCast] at h1;rcases Sh H with h | ⟨ds,e',rfl,H,hp⟩
      ·exact .inl h
      rw [gQ] at H;exact .inr ⟨_,_,H,Si hE cj iA ha hv gh (by have:=Nat.eq_of_beq_eq_true q1; simpa using this) q2 h1 h2 hp⟩
     ·exact .inl H
    ·exact .inl H
   ·exact .inl H
  ·exact .inl H
 ·exact RY hE H
end
end Go.ax
end
section
namespace Go.ax
open Go Go.RowKit
def EO (op:BinOp) (j:IntKind) (a b:Int):Int :=
 let x:=BitVec.ofInt j.bits a
 let y:=BitVec.ofInt j.bits b
 match op with
 | .and=>j.wrap (x &&& y).toNat
 | .or=>j.wrap (x ||| y).toNat
 | .xor=>j.wrap (x ^^^ y).toNat
 |_=>j.wrap (x &&& ~~~y).toNat
def qC (op:BinOp) (j:IntKind) (a:Int) (n:Nat):Int:=match op with
 | .shl=>j.wrap (a*2 ^ min n j.bits)
 |_=>a.fdiv (2 ^ min n j.bits)
def J2:BinOp→Bool
 | .and | .or | .xor | .andNot=>true
 |_=>false
def J3:BinOp→Bool
 | .shl | .shr=>true
 |_=>false
def J4:BinOp→Bool
 | .quo | .rem=>true
 |_=>false
def BE (op:BinOp) (j:IntKind) (a b:Int):Int:=match op with
 | .quo=>j.wrap (a.tdiv b)
 |_=>a.tmod b
def yJ (d:Nat):List Nat→Bool
 | []=>false
 |a::l=>match Nat.beq a d with
  |true=>true
  |false=>yJ d l
theorem r8 {a b:Nat} (h:Nat.blt a b=true):a<b:=Nat.le_of_ble_eq_true h
theorem BF {d:Nat}:∀ {l:List Nat},yJ d l=true→d∈l
 | [],h=>by cases h
 |a::l,h=>by
  unfold yJ at h;split at h
  ·rename_i q; rw [Nat.eq_of_beq_eq_true q]; exact List.mem_cons_self ..
  ·exact List.mem_cons_of_mem _ (BF h)
section
variable {E:Env} {s:List AV} {h:List ag} {c:Cx} {G:List (Nat × DV)}
theorem Sl {op:BinOp} (cm:J2 op=true) {t t':TypeId} {x y:Operand} {j:IntKind} {a b:Int} (hx:bp E.G s x (.d (.int j a))) (hy:bp E.G s y (.d (.int j b))):aQ E (.binOp op t x y t') s h (.d (.int j (EO op j a b))) h :=
 .quiet fun o c ac h1 _ h3 h4=>by
  have e1:=fP (hx c ac h3 h4);have e2:=fP (hy c ac h3 h4);refine ⟨.int j (EO op j a b),qf h1 (by rw [e1,e2]; exact vQ ..) ?_,.d _ _ (.int _ _)⟩;rw [e1,e2];cases op <;> first | (simp only [binOp,ne_eq,not_true_eq_false,if_false,Op.intBits]; rfl) | cases cm
theorem Sm {op:BinOp} (cm:J3 op=true) {t t':TypeId} {x y:Operand} {j j':IntKind} {a:Int} {b:Int} (hb:0≤b) (hx:bp E.G s x (.d (.int j a))) (hy:bp E.G s y (.d (.int j' b))):aQ E (.binOp op t x y t') s h (.d (.int j (qC op j a b.toNat))) h :=
 .quiet fun o c ac h1 _ h3 h4=>by
  have e1:=fP (hx c ac h3 h4);have e2:=fP (hy c ac h3 h4);refine ⟨.int j (qC op j a b.toNat),qf h1 (by rw [e1,e2]; exact vQ ..) ?_,.d _ _ (.int _ _)⟩;rw [e1,e2];have hn:¬ (b<0):=by omega
  cases op <;> first | (simp only [binOp,Op.shift,hn,if_false]; rfl) | cases cm
def r9 {α:Sort _} (kd:TK) (a b:DV) (stop:α) (k:Bool→α):α :=
 match kd,a,b with
 | .int _,.int j m,.int j' n=>match IntKind.same j j' with
  |true=>k (m==n)
  |false=>stop
 | .string,.str m,.str n=>k (m==n)
 | .bool,.bool m,.bool n=>k (m==n)
 |_,_,_=>stop
def nv {α:Sort _} (T:List bB):Nat→List (Nat × Nat)→List DV→List DV→(stop:α)→(Bool→α)→α
 |_,[],[],[],_,k=>k true
 |n,f::fs,a::l,b::m,stop,k=>match Nat.beq f.1 n with
  |true=>aV T f.2 stop fun i=>r9 i.k a b stop fun p=>nv T (n+1) fs l m stop fun q=>k (p&&q)
  |false=>stop
 |_,_,_,_,stop,_=>stop
theorem Sn {kd:TK} {a b:DV} {stop:Prop} {k:Bool→Prop} (H:r9 kd a b stop k):stop∨∃ p,k p:=by
 unfold r9 at H;split at H
 ·split at H
  ·exact .inr ⟨_,H⟩
  ·exact .inl H
 ·exact .inr ⟨_,H⟩
 ·exact .inr ⟨_,H⟩
 ·exact .inl H
theorem J5 {T:List bB} {stop:Prop}:∀ {n:Nat} {fs:List (Nat × Nat)} {l m:List DV} {k:Bool→Prop},nv T n fs l m stop k→stop∨∃ p,k p
 |_,[],[],[],_,H => .inr ⟨_,H⟩
 |_,[],[],_::_,_,H => .inl H
 |_,[],_::_,_,_,H => .inl H
 |_,_::_,[],_,_,H => .inl H
 |_,_::_,_::_,[],_,H => .inl H
 |n,f::fs,a::l,b::m,k,H=>by
  simp only [nv] at H;split at H
  ·rcases bj H with H | ⟨i,-,H⟩
   ·exact .inl H
   rcases Sn H with H | ⟨p,H⟩
   ·exact .inl H
   rcases J5 H with H | ⟨q,H⟩
   ·exact .inl H
   ·exact .inr ⟨_,H⟩
  ·exact .inl H
theorem Sq {P:Program} {ft:Nat} {i:bB} (ht:eN P ft=some i) {a b:DV} {stop:Prop} {k:Bool→Prop} (H:r9 i.k a b stop k):stop∨∃ p,k p∧i.k.agg=false ∧
  ∀ (bad:Nat→Prop) (w w':World) (u v:Value) (d:Nat),VD bad w a u→VD bad w b v→(Op.equalIn (d+1) ft u v).run P w' = .ok p w':=by
 obtain ⟨ti,td,g1,g2,g3,-⟩:=cM ht;unfold r9 at H;split at H
 ·rename_i hk;split at H
  ·rename_i hs;obtain rfl:=rT hs;refine .inr ⟨_,H,by rw [hk]; rfl,fun bad w w' u v d hu hv=>?_⟩;cases hu; cases hv;obtain rfl:=vR (hk.symm.trans g3);exact run_equalIn_int w' d ft _ _ _ _ g2
  ·exact .inl H
 ·rename_i hk;refine .inr ⟨_,H,by rw [hk]; rfl,fun bad w w' u v d hu hv=>?_⟩;cases hu; cases hv;obtain rfl:=rU (hk.symm.trans g3);rw [run_equalIn_string w' d ft _ _ g2];simp
 ·rename_i hk;refine .inr ⟨_,H,by rw [hk]; rfl,fun bad w w' u v d hu hv=>?_⟩;cases hu; cases hv;have:td = .bool:=by rw [hk] at g3; cases td <;> first | rfl | cases g3
  subst this;exact run_equalIn_bool' w' _ ft _ _ g2
 ·exact .inl H
theorem J6 {P : Program} {T : List bB} (hT : ∀ (t : Nat) (i : bB), T[t]? = some i → eN P t = some i) {stop : Prop} : ∀ {n : Nat} {fl : List Field} {l m : List DV} {k : Bool → Prop}, nv T n (fl.map fun f => (f.offset, f.type)) l m stop k → (∀ f ∈ fl, f.name ≠ "_") → stop ∨ ∃ p, k p ∧
  ∀ (bad:Nat→Prop) (w w':World) (xs ys:List Value) (d:Nat),(∀ (j:Nat) (x:DV),l[j]? = some x→∃ u,xs[n+j]? = some u∧VD bad w x u)→(∀ (j:Nat) (x:DV),m[j]? = some x→∃ u,ys[n+j]? = some u∧VD bad w x u)→(Op.eqFields (d+1) xs.toArray ys.toArray fl).run P w' = .ok p w':=by
 intro n fl
 induction fl generalizing n with
 |nil =>
  intro l m k H _;cases l with
  |nil=>cases m with
   |nil=>exact .inr ⟨true,H,fun bad w w' xs ys d _ _=>by simp only [Op.eqFields,Sem.run_pure]⟩
   |cons b m=>exact .inl H
  |cons a l=>exact .inl H
 |cons f fl ih =>
  intro l m k H hn;cases l with
  |nil=>exact .inl H
  |cons a l=>cases m with
   |nil=>exact .inl H
   |cons b m =>
    simp only [List.map_cons,nv] at H;split at H
    ·rename_i q;have q:=Nat.eq_of_beq_eq_true q;rcases bj H with H | ⟨i,hi,H⟩
     ·exact .inl H
     rcases Sq (hT _ i hi) H with H | ⟨p,H,fC,hp⟩
     ·exact .inl H
     rcases ih H (fun g hg=>hn g (List.mem_cons_of_mem _ hg)) with H | ⟨p',H,rS⟩
     ·exact .inl H
     refine .inr ⟨p&&p',H,fun bad w w' xs ys d hx hy=>?_⟩;obtain ⟨u,u1,u2⟩:=hx 0 a rfl;obtain ⟨v,v1,v2⟩:=hy 0 b rfl;rw [Nat.add_zero] at u1 v1;have BG:=hn f (List.mem_cons_self ..);simp only [Op.eqFields,ne_eq,BG,not_false_eq_true,if_true,Sem.run_bind];rw [q,Bl (hT _ i hi) w' xs n u u1 fC,Result.andThen_ok,Bl (hT _ i hi) w' ys n v v1 fC,Result.andThen_ok,hp bad w w' u v d u2 v2,Result.andThen_ok];cases p with
     |false=>simp
     |true =>
      simp only [Bool.not_true,Bool.false_eq_true,if_false,Bool.true_and];exact rS bad w w' xs ys d (fun j x hj=>by rw [show n+1+j=n+(j+1) by omega]; exact hx (j+1) x (by simpa using hj)) (fun j x hj=>by rw [show n+1+j=n+(j+1) by omega]; exact hy (j+1) x (by simpa using hj))
    ·exact .inl H
theorem J7 (hE:E.OK) {op:BinOp} {t:Nat} {t':TypeId} {x y:Operand} {i:bB} (hi:E.T[t]? = some i) (hQ:t∈E.Q) {fs:List (Nat × Nat)} (hk:i.k = .struct fs) {l m:List DV} (hx:bp E.G s x (.d (.agg l))) (hy:bp E.G s y (.d (.agg m))) {stop:Prop} {k:Bool→Prop} (H:nv E.T 0 fs l m stop k) :
  stop∨∃ p,k p∧(op = .eql→∀ h,aQ E (.binOp op t x y t') s h (.d (.bool p)) h)∧(op = .neq→∀ h,aQ E (.binOp op t x y t') s h (.d (.bool !p)) h):=by
 obtain ⟨ti,d,g1,g2,g3,-⟩:=cM (hE.types t i hi);obtain ⟨fl,rfl,rfl⟩:=qi (hk.symm.trans g3);have hq:=hE.eqs t hQ;simp only [Ba,g2,Bool.and_eq_true,Bool.not_eq_true',List.all_eq_true,bne_iff_ne,ne_eq] at hq;obtain ⟨⟨q1,q2⟩,q3⟩:=hq;rcases J6 hE.types H q3 with h | ⟨p,H,hp⟩
 ·exact .inl h
 have il:E.P.fieldsOf t=fl:=by simp [Program.fieldsOf,g2]
 have val:∀ (c:Cx) (ac:Act),aE E.G c→VS c s ac.tmps→∃ xs ys:List Value,ac.eval x = .agg xs.toArray∧ac.eval y = .agg ys.toArray∧(Op.equalIn 10000 t (.agg xs.toArray) (.agg ys.toArray)).run E.P c.w = .ok p c.w:=by
  intro c ac h3 h4;have gF:=hx c ac h3 h4;have ji:=hy c ac h3 h4;generalize ac.eval x=u at gF;generalize ac.eval y=v at ji;cases gF with
  |d _ _ gF=>cases gF with
   |agg _ xs x1 x2=>cases ji with
    |d _ _ ji=>cases ji with
     |agg _ ys y1 y2 =>
      refine ⟨xs.toList,ys.toList,by simp,by simp,?_⟩;rw [run_equalIn_struct c.w 9999 t _ _ (by rw [il]; exact g2) q1,il];refine hp c.bad c.w c.w xs.toList ys.toList 9998 (fun j z hz=>?_) (fun j z hz=>?_)
      ·have hj:=aZ hz;rw [x1] at hj;exact ⟨xs[j],by simp [hj],x2 j z _ hz (by simp [hj])⟩
      ·have hj:=aZ hz;rw [y1] at hj;exact ⟨ys[j],by simp [hj],y2 j z _ hz (by simp [hj])⟩
 have guard:∀ (op:BinOp) (xs ys:Array Value) (w:World),(eqGuard op t x y (.agg xs) (.agg ys)).run E.P w = .ok () w:=fun op xs ys w=>run_eqGuard_agg w op t x y xs ys q2;refine .inr ⟨p,H,fun e h=>?_,fun e h=>?_⟩
 ·subst e;refine .quiet fun o c ac h1 _ h3 h4=>⟨.bool p,?_,.d _ _ (.bool _)⟩;obtain ⟨xs,ys,e1,e2,e3⟩:=val c ac h3 h4;simp only [execOp,h1,e1,e2,Sem.run_bind,guard,Result.andThen_ok,run_eql_struct,e3,Sem.run_pure]
 ·subst e;refine .quiet fun o c ac h1 _ h3 h4=>⟨.bool !p,?_,.d _ _ (.bool _)⟩;obtain ⟨xs,ys,e1,e2,e3⟩:=val c ac h3 h4;simp only [execOp,h1,e1,e2,Sem.run_bind,guard,Result.andThen_ok,run_neq_struct,e3,Sem.run_pure]
theorem Sr (hE:E.OK) {t0 t e:Nat} {x:Operand} {i0 i ei:bB} (iC:E.T[t0]? = some i0) (hi:E.T[t]? = some i) (cx:E.T[e]? = some ei) (hk:i.k = .slice e) (EP:ei.k = .int .u8) {l:List UInt8} (hx:bp E.G s x (.d (.str l))) :
  aQ E (.convert t0 t x) s h (.d (.sl (l.map np))) h:=fun o c ac h1 h2 h3 h4=>by
 obtain ⟨yf,d0,k1,k2,-⟩:=cM (hE.types t0 i0 iC);obtain ⟨ti,d,g1,g2,g3,-⟩:=cM (hE.types t i hi);obtain rfl:=lJ (hk.symm.trans g3);obtain ⟨tie,de,q1,q2,q3,-⟩:=cM (hE.types e ei cx);obtain rfl:=vR (EP.symm.trans q3);have ex:=o4 (hx c ac h3 h4);have cR:=Lib.run_convert_string_bytes (P:=E.P) c.w t0 t e ⟨l.toArray⟩ k2 g2 q2;have Ss:Proofs.YtcmnpelmmekdkaaGreatDoor.Ext c.w (Lib.bytesWorld c.w e ⟨l.toArray⟩):=⟨rfl,rfl,rfl,by rw [Lib.bytesWorld_size]; omega,fun b hb=>Lib.bytesWorld_at_old c.w e _ b hb⟩;obtain ⟨r1,r2⟩:=h3.grow Ss;refine ⟨c.dN (Lib.bytesWorld c.w e ⟨l.toArray⟩),_,.inl (by simp only [execOp,h1,ex,Sem.run_bind,cR,Result.andThen_ok,Sem.run_pure]; rfl),h2,r1,.d _ _ ?_,r2⟩;have bP:(ByteArray.mk l.toArray).size=(l.map np).length:=by simp [ByteArray.size]
 rw [bP];have dP:∀ (j:Nat) (b:UInt8),l[j]? = some b→(Lib.bytesWorld c.w e ⟨l.toArray⟩).cell? ⟨c.w.heap.size,0+(j*1+0),none⟩=some (.int .u8 b.toNat):=fun j b hb=>by
  have hj:=aZ hb;rw [show 0+(j*1+0)=j by omega,Lib.bytesWorld_cell c.w e _ j (by simp [ByteArray.size]; exact hj)];simp [List.getD,hb]
 have key:∀ (i j:Nat) (a y:DV),(l.map np)[i]? = some a→a.cells[j]? = some y→∃ b,l[i]? = some b∧j=0∧y = .int .u8 b.toNat:=fun i j a y ha hy=>by
  rw [List.getElem?_map] at ha;cases hb:l[i]? with
  |none=>rw [hb] at ha; cases ha
  |some b =>
   rw [hb] at ha;cases ha;simp only [np,DV.cells] at hy;cases j with
   |zero=>simp at hy; exact ⟨b,rfl,rfl,hy.symm⟩
   |succ j=>simp at hy
 refine .sl _ c.w.heap.size 0 _ 1 (fun i _ => .int .u8 (l.getD i 0).toNat) (fun _ hb=>?_) (by omega) ?_ (fun i a ha=>?_) (fun i j a y ha hy=>?_) (fun i j a y ha hy=>?_) (fun i j a y ha hy=>rfl)
 ·rcases hb with hb | ⟨i,n,hi⟩
  ·have:=h3.bD _ hb; omega
  ·have:=(h3.bI i _ n hi).1; omega
 ·rw [List.length_map];have:=grownCap_ge c.w l.length 0 e
  simpa [ByteArray.size] using this
 ·rw [List.getElem?_map] at ha;cases hb:l[i]? with
  |none=>rw [hb] at ha; cases ha
  |some b=>rw [hb] at ha; cases ha; rfl
 ·obtain ⟨b,hb,rfl,rfl⟩:=key i j a y ha hy;refine (dP i b hb).trans ?_;simp [List.getD,hb]
 ·obtain ⟨b,hb,rfl,rfl⟩:=key i j a y ha hy;simp only [List.getD,hb,Option.getD_some];exact .int _ _
theorem St {op:BinOp} (cm:J4 op=true) {t t':TypeId} {x y:Operand} {j:IntKind} {a b:Int} (hb:b≠0) (hx:bp E.G s x (.d (.int j a))) (hy:bp E.G s y (.d (.int j b))):aQ E (.binOp op t x y t') s h (.d (.int j (BE op j a b))) h :=
 .quiet fun o c ac h1 _ h3 h4=>by
  have e1:=fP (hx c ac h3 h4);have e2:=fP (hy c ac h3 h4);refine ⟨.int j (BE op j a b),qf h1 (by rw [e1,e2]; exact vQ ..) ?_,.d _ _ (.int _ _)⟩;rw [e1,e2];cases op <;> first | (simp only [binOp,ne_eq,not_true_eq_false,if_false,Op.intDiv,hb]; rfl) | cases cm
theorem Su {t t':TypeId} {x y:Operand} {a b:List UInt8} (hl:a.length+b.length≤9223372036854775807) (hx:bp E.G s x (.d (.str a))) (hy:bp E.G s y (.d (.str b))):aQ E (.binOp .add t x y t') s h (.d (.str (a++b))) h :=
 .quiet fun o c ac h1 _ h3 h4=>by
  have e1:=o4 (hx c ac h3 h4);have e2:=o4 (hy c ac h3 h4);have e:(⟨a.toArray⟩:ByteArray)++⟨b.toArray⟩=⟨(a++b).toArray⟩:=by
   apply ByteArray.ext;simp
  refine ⟨.string ⟨(a++b).toArray⟩,qf h1 (by rw [e1,e2]; rfl) ?_,.d _ _ (.str _)⟩;rw [e1,e2];have hn:¬ (((ByteArray.mk a.toArray).size+(ByteArray.mk b.toArray).size:Nat):Int)>IntKind.i64.max:=by
   simp [ByteArray.size,IntKind.max,IntKind.bits,IntKind.signed];omega
  simp only [binOp,Op.stringOp,hn,if_false,e];rfl
def kn (E:Env) (o:Op) (s:List AV) (stop:Prop) (k:AV→Prop):Prop :=
 match o with
 | .binOp op t x y _=>aV E.T t stop fun i=>cH E.G s x stop fun a=>cH E.G s y stop fun b =>
  match a,b with
  | .d (.int j m),.d (.int j' n)=>match J2 op with
   |true=>match IntKind.same j j' with
    |true=>k (.d (.int j (EO op j m n)))
    |false=>stop
   |false=>stop
  | .d (.agg l),.d (.agg m)=>match i.k,yJ t E.Q with
   | .struct fs,true=>nv E.T 0 fs l m stop fun p=>match op with
    | .eql=>k (.d (.bool p))
    | .neq=>k (.d (.bool !p))
    |_=>stop
   |_,_=>stop
  |_,_=>stop
 | .convert t0 t x=>aV E.T t0 stop fun _=>aV E.T t stop fun i=>cH E.G s x stop fun v=>match i.k,v with
  | .slice e,.d (.str l)=>aV E.T e stop fun ei=>match ei.k with
   | .int .u8=>k (.d (.sl (l.map np)))
   |_=>stop
  |_,_=>stop
 |_=>stop
theorem ER (hE:E.OK) {o:Op} {stop:Prop} {k:AV→Prop} (H:kn E o s stop k):stop∨∃ v,k v∧∀ h,aQ E o s h v h:=by
 unfold kn at H;split at H
 ·rename_i op t x y t';rcases bj H with h | ⟨i,hi,H⟩
  ·exact .inl h
  rcases cI H with h | ⟨a,ha,H⟩
  ·exact .inl h
  rcases cI H with h | ⟨b,hb,H⟩
  ·exact .inl h
  split at H
  ·split at H
   ·rename_i q;split at H
    ·rename_i p;obtain rfl:=rT p;exact .inr ⟨_,H,fun h=>Sl q ha hb⟩
    ·exact .inl H
   ·exact .inl H
  ·split at H
   ·rename_i fs hk hq;by_cases he:op = .eql
    ·subst he;rcases J7 (op := .eql) (t':=t') (s:=s) hE hi (BF hq) hk ha hb H with h | ⟨p,H,h1,-⟩
     ·exact .inl h
     ·exact .inr ⟨_,H,fun h=>h1 rfl h⟩
    ·by_cases wb:op = .neq
     ·subst wb;rcases J7 (op := .neq) (t':=t') (s:=s) hE hi (BF hq) hk ha hb H with h | ⟨p,H,-,h1⟩
      ·exact .inl h
      ·exact .inr ⟨_,H,fun h=>h1 rfl h⟩
     ·refine .inl ?_;rcases J5 H with h | ⟨p,h⟩
      ·exact h
      ·split at h
       ·exact absurd rfl he
       ·exact absurd rfl wb
       ·exact h
   ·exact .inl H
  ·exact .inl H
 ·rename_i t0 t x;rcases bj H with h | ⟨i0,iC,H⟩
  ·exact .inl h
  rcases bj H with h | ⟨i,hi,H⟩
  ·exact .inl h
  rcases cI H with h | ⟨v,hv,H⟩
  ·exact .inl h
  split at H
  ·rename_i e l hk;rcases bj H with h | ⟨ei,cx,H⟩
   ·exact .inl h
   split at H
   ·rename_i EP;exact .inr ⟨_,H,fun h=>Sr hE iC hi cx hk EP hv⟩
   ·exact .inl H
  ·exact .inl H
 ·exact .inl H
def sa (E:Env) (o:Op) (s:List AV) (stop:Prop) (k:AV→Prop):Prop :=
 match o with
 | .binOp op _ x y _=>cH E.G s x stop fun a=>cH E.G s y stop fun b =>
  match a,b with
  | .d (.int j m),.d (.int j' n)=>match J3 op with
   |true=>need (0≤n) (k (.d (.int j (qC op j m n.toNat))))
   |false=>match J4 op,IntKind.same j j' with
    |true,true=>need (n≠0) (k (.d (.int j (BE op j m n))))
    |_,_=>stop
  | .d (.str l),.d (.str m)=>match op with
   | .add=>need (l.length+m.length≤9223372036854775807) (k (.d (.str (l++m))))
   |_=>stop
  |_,_=>stop
 |_=>stop
theorem Sv {o:Op} {stop:Prop} {k:AV→Prop} (H:sa E o s stop k):stop∨∃ v,k v∧∀ h,aQ E o s h v h:=by
 unfold sa at H;split at H
 ·rename_i op t x y t';rcases cI H with h | ⟨a,ha,H⟩
  ·exact .inl h
  rcases cI H with h | ⟨b,hb,H⟩
  ·exact .inl h
  split at H
  ·split at H
   ·rename_i q;obtain ⟨h0,H⟩:=nn H;exact .inr ⟨_,H,fun h=>Sm q h0 ha hb⟩
   ·split at H
    ·rename_i q p;obtain rfl:=rT p;obtain ⟨h0,H⟩:=nn H;exact .inr ⟨_,H,fun h=>St q h0 ha hb⟩
    ·exact .inl H
  ·split at H
   ·obtain ⟨h0,H⟩:=nn H;exact .inr ⟨_,H,fun h=>Su h0 ha hb⟩
   ·exact .inl H
  ·exact .inl H
 ·exact .inl H
theorem Sw (hE:E.OK) {t e len:Nat} {x i:Operand} {ti ei:bB} (cj:E.T[t]? = some ti) (cx:E.T[e]? = some ei) (hk:ti.k = .array len e) {b off:Nat} {cs:List AV} (hb:h[b]? = some (.cells cs)) {j:IntKind} {m:Nat} (hx:bp E.G s x (.ptr b off)) (hi:bp E.G s i (.d (.int j (.ofNat m)))) (h1:m<len) :
  aQ E (.indexAddr t x i) s h (.ptr b (off+m*ei.size)) h := .quiet fun o c ac e1 e2 h3 h4=>by
 subst e2;obtain ⟨nu,d,g1,g2,g3,-⟩:=cM (hE.types t ti cj);obtain rfl:=ye (hk.symm.trans g3);have key:∀ p,VR c (.ptr b off) p→∃ blk,p = .pointer (some ⟨blk,off,none⟩)∧VR c (.ptr b (off+m*ei.size)) (.pointer (some ⟨blk,off+m*ei.size,none⟩)):=fun p hp=>by
  cases hp with
  |ptr _ _ cs' blk cap k1 k2=>exact ⟨blk,rfl,.ptr _ _ cs' blk cap k1 k2⟩
  |jf _ _ _ k1 _=>rw [hb] at k1; cases k1
 obtain ⟨blk,q1,q2⟩:=key _ (hx c ac h3 h4);refine ⟨_,wa e1 ?_,q2⟩;rw [q1,fP (hi c ac h3 h4)];have h0:(0:Int)≤Int.ofNat m:=Int.natCast_nonneg m;have fT:Int.ofNat m<(len:Int):=by simpa using h1
 simp only [Instr.indexAt,asIntOf,Sem.run_bind,Sem.run_pure,Result.andThen_ok,run_underlying g2,Instr.sureAddr,h0,fT,and_self,if_true,run_sizeOf (hE.types e ei cx),kQ];rfl
theorem Sx (hE:E.OK) {t e len:Nat} {x:Operand} {ti ei:bB} (cj:E.T[t]? = some ti) (cx:E.T[e]? = some ei) (hk:ti.k = .array len e) (cW:0<len) {b:Nat} {ds:List DV} (hb:h[b]? = some (.cells (ds.map .d))) (hlen:ds.length=len) (mz:ds.all DV.eW=true) (hx:bp E.G s x (.ptr b 0)) :
  aQ E (.slice t x none none none) s h (.d (.sl ds)) (h.set b .gone):=fun o c ac h1 h2 h3 h4=>by
 subst h2;obtain ⟨nu,d,g1,g2,g3,-⟩:=cM (hE.types t ti cj);obtain rfl:=ye (hk.symm.trans g3);have ez:=aZ hb;have key:∀ p,VR c (.ptr b 0) p→∃ blk cap,p = .pointer (some ⟨blk,0,none⟩)∧c.own b=some (blk,cap):=fun p hp=>by
  cases hp with
  |ptr _ _ cs' blk cap k1 k2=>exact ⟨blk,cap,rfl,k2⟩
  |jf _ _ _ k1 _=>rw [hb] at k1; cases k1
 obtain ⟨blk,cap,q1,q2⟩:=key _ (hx c ac h3 h4);obtain ⟨lI,ki,vs,ty,p1,p2,p3⟩:=h3.cells hb;rw [q2] at p1; cases p1
 let c':Cx:={ c with own:=fun i=>if i=b then none else c.own i,heap:=c.heap.set b .gone }
 have fz:c'.heap[b]? = some .gone:=by show (c.heap.set b .gone)[b]? = _; rw [List.getElem?_set_self ez]
 have oo:∀ i,i≠b→c'.heap[i]? = c.heap[i]? := fun i hi=>by show (c.heap.set b .gone)[i]? = _; rw [List.getElem?_set_ne (Ne.symm hi)]
 have bC:∀ i,i≠b→c'.own i=c.own i:=fun i hi=>by simp only [c',if_neg hi]
 have jk:∀ i p,c'.own i=some p→i≠b∧c.own i=some p:=fun i p hp=>by
  simp only [c'] at hp;split at hp
  ·cases hp
  ·rename_i q; exact ⟨q,hp⟩
 have aR:Step c c':=⟨rfl,h3.bD,rfl,rfl,rfl,Nat.le_refl _,fun _ _ _=>rfl,fun i x n hi _=>⟨n,(jk i _ hi).2⟩,fun i bx hi=>by
  by_cases bL:i=b
  ·subst bL;cases bx with
   |cells cs=>exact .inr fz
   |arr g sz l=>exact .inr fz
   |map es=>exact .inr fz
   |gone=>exact fz
  ·rw [← oo i bL] at hi;cases bx with
   |cells cs=>exact .inl ⟨cs,hi,bC i bL,rfl⟩
   |arr g sz l=>exact .inl ⟨g,l,hi,.inr ⟨rfl,rfl,bC i bL⟩⟩
   |map es=>exact .inl ⟨es,hi,bC i bL⟩
   |gone=>exact hi⟩
 have aK:aE E.G c':=by
  refine h3.next aR (fun i x n hi=>?_) (fun i j x n m hi hj=>h3.inj i j x n m (jk i _ hi).2 (jk j _ hj).2) (fun i bx hi=>?_)
  ·have:=h3.bI i x n (jk i _ hi).2;refine ⟨this.1,?_⟩;show i<(c.heap.set b .gone).length;rw [List.length_set];exact this.2
  ·by_cases bL:i=b
   ·subst bL;rw [fz] at hi;cases hi;right;show c'.own i=none;simp [c']
   ·rw [oo i bL] at hi;exact .inl ⟨hi,bC i bL,fun _ _ _=>rfl⟩
 have bT:∀ (j:Nat) (y:DV),ds[j]? = some y→∃ v,vs[j]? = some v∧v.oneCell'=true∧VD c.bad c.w y v:=fun j y hy=>by
  have hj:=aZ hy;have hl:=p3.1;simp at hl;have hv:vs.toList[j]? = some vs[j]:=by simp
  have:=p3.2 j (.d y) _ (by simp [hy]) hv;cases this with
  |d _ _ hd=>exact ⟨_,by simp,yb hd (List.all_eq_true.1 mz y (List.mem_of_getElem? hy)),hd⟩
 refine ⟨c',.slice (some ⟨blk,0,none⟩) ds.length ds.length,.inl ?_,rfl,aK,.d _ _ ?_,aR⟩
 ·have iG:(Instr.sliceBounds false len len none none none).run E.P c.w = .ok (0,len,len) c.w:=rfl;have aJ:¬ (len=0):=by omega
  simp only [execOp,h1,q1,Instr.sliceAt,Sem.run_bind,Sem.run_pure,Result.andThen_ok,run_underlying g2,Instr.sureAddr,Option.map_none,iG,run_sizeOf (hE.types e ei cx),aJ,if_false,Nat.zero_mul,kQ,Nat.sub_zero,hlen];rfl
 ·have one:∀ (i j:Nat) (y z:DV),ds[i]? = some y→y.cells[j]? = some z→j=0∧z=y:=fun i j y z hy hz=>by
   have:=List.all_eq_true.1 mz y (List.mem_of_getElem? hy);have hc:y.cells=[y]:=by cases y <;> first | rfl | cases this
   rw [hc] at hz;cases j with
   |zero=>simp at hz; exact ⟨rfl,hz.symm⟩
   |succ j=>simp at hz
  refine .sl ds blk 0 ds.length 1 (fun i j=>(vs[i]?).getD undef) (fun _ im=>?_) (by omega) (Nat.le_refl _) (fun i y hy=>?_) (fun i j y z hy hz=>?_) (fun i j y z hy hz=>?_) (fun i j y z hy hz=>?_)
  ·rcases im with im | ⟨i,n,hi⟩
   ·exact h3.sep b blk cap q2 im
   ·obtain ⟨k1,k2⟩:=jk i _ hi;exact k1 (h3.inj i b blk n cap k2 q2)
  ·have:=List.all_eq_true.1 mz y (List.mem_of_getElem? hy);cases y <;> first | rfl | cases this
  ·obtain ⟨rfl,rfl⟩:=one i j y z hy hz;obtain ⟨v,r1,r2,r3⟩:=bT i z hy;rw [r1,Option.getD_some];have:=ng p2 i v (by simpa using r1)
   simpa using this
  ·obtain ⟨rfl,rfl⟩:=one i j y z hy hz;obtain ⟨v,r1,r2,r3⟩:=bT i z hy;simp only [r1,Option.getD_some];exact aR.vd r3
  ·obtain ⟨rfl,rfl⟩:=one i j y z hy hz;obtain ⟨v,r1,r2,r3⟩:=bT i z hy;simp only [r1,Option.getD_some];exact r2
theorem Sy (hE:E.OK) {t e:Nat} {ti ei:bB} (cj:E.T[t]? = some ti) (cx:E.T[e]? = some ei) (hk:ti.k = .slice e) (cW:0<ei.size) {parts:Array (Nat × Operand)} (hp:parts.toList=[]) :
  aQ E (.buildSlice t 0 parts) s h (.own h.length 0) (h++[.arr 0 (e,ei.size) []]):=fun o c ac h1 h2 h3 h4=>by
 subst h2;obtain ⟨nu,d,g1,g2,g3,-⟩:=cM (hE.types t ti cj);obtain rfl:=lJ (hk.symm.trans g3);obtain ⟨k1,k2⟩:=h3.add (.arr 0 (e,ei.size) []) 0 (.cells #[] e);have bC:(c.add (.arr 0 (e,ei.size) []) 0 (.cells #[] e)).own c.heap.length=some (c.w.heap.size,0):=by simp [Cx.add]
 have km:(c.add (.arr 0 (e,ei.size) []) 0 (.cells #[] e)).heap[c.heap.length]? = some (.arr 0 (e,ei.size) []):=by simp [Cx.add]
 refine ⟨_,.slice (some ⟨c.w.heap.size,0,none⟩) 0 0,.inl ?_,rfl,k2 ⟨cW,fun i e he=>by simp at he,.inr ⟨c.w.heap.size,0,#[],bC,heap_alloc_new _ _,by simp,by simp,by simp,fun i j e x he=>by simp at he⟩⟩,.own c.heap.length 0 (e,ei.size) [] c.w.heap.size 0 km bC,k1⟩;have rS:parts = #[]:=by apply Array.ext'; simpa using hp
 subst rS;have hn:¬ ((0:Nat)>2 ^ 24):=by decide
 simp only [execOp,h1,Instr.buildSlice,Sem.run_bind,Sem.run_pure,Result.andThen_ok,run_underlying g2,run_sizeOf (hE.types e ei cx),Nat.zero_mul,Array.map_empty,hn,if_false,if_true];simp [Instr.fill,newRow,show Array.range 0 = #[] from rfl];rfl
def yK (E:Env) (o:Op) (s:List AV) (h:List ag) (stop:Prop) (k:AV→List ag→Prop):Prop :=
 match o with
 | .indexAddr t x i=>aV E.T t stop fun ti=>match ti.k with
  | .array len e=>aV E.T e stop fun ei=>cH E.G s x stop fun
   | .ptr b off=>aV h b stop fun
    | .cells _=>cH E.G s i stop fun
     | .d (.int _ n)=>match n with
      | .ofNat m=>match Nat.blt m len with
       |true=>k (.ptr b (off+m*ei.size)) h
       |false=>stop
      |_=>stop
     |_=>stop
    |_=>stop
   |_=>stop
  |_=>stop
 | .slice t x none none none=>aV E.T t stop fun ti=>match ti.k with
  | .array len e=>aV E.T e stop fun _=>match Nat.blt 0 len with
   |true=>cH E.G s x stop fun
    | .ptr b 0=>aV h b stop fun
     | .cells cs=>my cs stop fun ds=>match Nat.beq ds.length len,ds.all DV.eW with
      |true,true=>fN h b .gone fun h'=>k (.d (.sl ds)) h'
      |_,_=>stop
     |_=>stop
    |_=>stop
   |_=>stop
  |_=>stop
 | .buildSlice t len parts=>match len with
  | 0=>aV E.T t stop fun ti=>match ti.k with
   | .slice e=>aV E.T e stop fun ei=>match Nat.blt 0 ei.size,parts.toList with
    |true,[]=>lH h (.arr 0 (e,ei.size) []) 0 fun h' n=>k (.own n 0) h'
    |_,_=>stop
   |_=>stop
  |_=>stop
 |_=>stop
theorem Sz (hE:E.OK) {o:Op} {stop:Prop} {k:AV→List ag→Prop} (H:yK E o s h stop k):stop∨∃ v h',k v h'∧aQ E o s h v h':=by
 unfold yK at H;split at H
 ·rename_i t x i;rcases bj H with h | ⟨ti,cj,H⟩
  ·exact .inl h
  split at H
  ·rename_i len e hk;rcases bj H with h | ⟨ei,cx,H⟩
   ·exact .inl h
   rcases cI H with h | ⟨a,ha,H⟩
   ·exact .inl h
   split at H
   ·rename_i b off;rcases bj H with h | ⟨bx,hb,H⟩
    ·exact .inl h
    split at H
    ·rcases cI H with h | ⟨n,hn,H⟩
     ·exact .inl h
     split at H
     ·split at H
      ·split at H
       ·rename_i q;exact .inr ⟨_,_,H,Sw hE cj cx hk hb ha hn (r8 q)⟩
       ·exact .inl H
      ·exact .inl H
     ·exact .inl H
    ·exact .inl H
   ·exact .inl H
  ·exact .inl H
 ·rename_i t x;rcases bj H with h | ⟨ti,cj,H⟩
  ·exact .inl h
  split at H
  ·rename_i len e hk;rcases bj H with h | ⟨ei,cx,H⟩
   ·exact .inl h
   split at H
   ·rename_i q2;rcases cI H with h | ⟨a,ha,H⟩
    ·exact .inl h
    split at H
    ·rename_i b;rcases bj H with h | ⟨bx,hb,H⟩
     ·exact .inl h
     split at H
     ·rename_i cs
      rcases tq cs stop (fun ds=>match Nat.beq ds.length len,ds.all DV.eW with
       |true,true=>fN h b .gone fun h'=>k (.d (.sl ds)) h'
       |_,_=>stop) with ⟨ds,e1,e2⟩ | e2
      ·rw [e2] at H;split at H
       ·rename_i p1 p2;rw [gQ] at H;subst e1;exact .inr ⟨_,_,H,Sx hE cj cx hk (r8 q2) hb (Nat.eq_of_beq_eq_true p1) p2 ha⟩
       ·exact .inl H
      ·rw [e2] at H; exact .inl H
     ·exact .inl H
    ·exact .inl H
   ·exact .inl H
  ·exact .inl H
 ·rename_i t len parts;split at H
  ·rcases bj H with h | ⟨ti,cj,H⟩
   ·exact .inl h
   split at H
   ·rename_i e hk;rcases bj H with h | ⟨ei,cx,H⟩
    ·exact .inl h
    split at H
    ·rename_i q1 q2;rw [nf,Nat.zero_add] at H;exact .inr ⟨_,_,H,Sy hE cj cx hk (r8 q1) q2⟩
    ·exact .inl H
   ·exact .inl H
  ·exact .inl H
 ·exact .inl H
def oq (E:Env) (o:Op) (s:List AV) (h:List ag) (stop:Prop) (k:AV→List ag→Prop):Prop:=kn E o s (yK E o s h stop k) fun v=>k v h
theorem yL (hE:E.OK) {o:Op} {stop:Prop} {k:AV→List ag→Prop} (H:oq E o s h stop k):stop∨∃ v h',k v h'∧aQ E o s h v h':=by
 rcases ER hE H with H | ⟨v,H,ho⟩
 ·exact Sz hE H
 ·exact .inr ⟨v,h,H,ho h⟩
end
end Go.ax
end
section
namespace Go.ax
open Go Go.RowKit
def qD:DV→DV→Bool
 | .int j m,.int k n=>IntKind.same j k&&(m==n)
 | .str a,.str b=>a==b
 | .bool a,.bool b=>a==b
 |_,_=>false
def tR:List DV→List DV→Bool
 | [],[]=>true
 |a::l,b::m=>qD a b&&tR l m
 |_,_=>false
def eS:DV→DV→Bool
 | .agg l,.agg m=>tR l m
 |a,b=>qD a b
def iQ (k:DV):List (DV × DV)→Option Nat
 | []=>none
 |p::l=>if eS k p.1 then some 0 else (iQ k l).map (· + 1)
def findD (k:DV):List (DV × DV)→Option DV
 | []=>none
 |p::l=>if eS k p.1 then some p.2 else findD k l
def cD (k v:DV):List (DV × DV)→List (DV × DV)
 | []=>[(k,v)]
 |p::l=>if eS k p.1 then (k,v)::l else p::cD k v l
def nw:TK→DV→Prop
 | .int j,x=>∃ n,x = .int j n
 | .string,x=>∃ s,x = .str s
 | .bool,x=>∃ b,x = .bool b
 |_,_=>False
def tS (T:List bB):Nat→List (Nat × Nat)→List DV→Prop
 |_,[],[]=>True
 |n,f::fs,a::l=>f.1=n∧(∃ i,T[f.2]? = some i∧nw i.k a)∧tS T (n+1) fs l
 |_,_,_=>False
def ef (T:List bB) (k:TK) (x:DV):Prop:=match k with
 | .struct fs=>∃ l,x = .agg l∧tS T 0 fs l
 |k=>nw k x
def gv:DV→Value
 | .int j n => .int j n
 | .str s => .string ⟨s.toArray⟩
 | .bool b => .bool b
 | .agg l => .agg (l.map fun
  | .int j n => .int j n
  | .str s => .string ⟨s.toArray⟩
  | .bool b => .bool b
  |_=>undef).toArray
 |_=>undef
def we:DV→Prop
 | .int _ _=>True
 | .str _=>True
 | .bool _=>True
 |_=>False
theorem nw.flat {k:TK} {x:DV} (h:nw k x):we x:=by
 cases k <;> first | (obtain ⟨_,rfl⟩:=h; trivial) | exact h.elim
theorem tS.flat {T:List bB}:∀ {n:Nat} {fs:List (Nat × Nat)} {l:List DV},tS T n fs l→∀ x∈l,we x
 |_,[],[],_,x,hx=>by simp at hx
 |_,_::_,[],h,_,_=>h.elim
 |_,[],_::_,h,_,_=>h.elim
 |n,f::fs,a::l,h,x,hx=>by
  rcases List.mem_cons.1 hx with rfl | hx
  ·obtain ⟨-,⟨i,-,h⟩,-⟩:=h;exact h.flat
  ·exact h.2.2.flat x hx
theorem BH {bad:Nat→Prop} {w:World} {x:DV} {v:Value} (hf:we x) (h:VD bad w x v):v=gv x:=by
 cases x <;> first | exact hf.elim | (cases h; rfl)
theorem ef.cases {T:List bB} {k:TK} {x:DV} (h:ef T k x):we x∨∃ l,x = .agg l∧∀ y∈l,we y:=by
 unfold ef at h;split at h
 ·obtain ⟨l,rfl,h⟩:=h;exact .inr ⟨l,rfl,h.flat⟩
 ·exact .inl h.flat
theorem yM {T:List bB} {k:TK} {bad:Nat→Prop} {w:World} {x:DV} {v:Value} (hf:ef T k x) (h:VD bad w x v):v=gv x:=by
 rcases hf.cases with mG | ⟨l,rfl,mG⟩
 ·exact BH mG h
 ·cases h with
  |agg _ vs hl hv =>
   simp only [gv]
   congr 1
   apply Array.ext
   ·simpa using hl.symm
   ·intro j h1 h2;have hj:j<l.length:=by omega
    have e:=hv j l[j] vs[j] (by simp) (by simp [h1]);have:=BH (mG _ (List.getElem_mem hj)) e;rw [this];simp only [List.getElem_toArray,List.getElem_map];have iF:=mG _ (List.getElem_mem hj);generalize l[j]=y at iF;cases y <;> first | rfl | exact iF.elim
theorem ES (j:IntKind):IntKind.same j j=true:=by cases j <;> rfl
theorem J8 {a b:DV} (h:qD a b=true):a=b:=by
 unfold qD at h;split at h
 ·simp only [Bool.and_eq_true,beq_iff_eq] at h;obtain rfl:=rT h.1;rw [h.2]
 ·simp at h; rw [h]
 ·simp at h; rw [h]
 ·cases h
theorem J9:∀ {a b:List DV},tR a b=true→a=b
 | [],[],_=>rfl
 | [],_::_,h=>by cases h
 |_::_,[],h=>by cases h
 |x::a,y::b,h=>by
  simp only [tR,Bool.and_eq_true] at h;rw [J8 h.1,J9 h.2]
theorem SA {a b:DV} (h:eS a b=true):a=b:=by
 unfold eS at h;split at h
 ·rw [J9 h]
 ·exact J8 h
theorem ET (a b:List UInt8):((⟨a.toArray⟩:ByteArray)==⟨b.toArray⟩)=(a==b):=by
 show (a.toArray==b.toArray)=_;simp
theorem EU {α:Type}:∀ {l:List α} {p:α × α},p∈l.zip l→p.1=p.2∧p.1∈l
 | [],p,h=>by simp at h
 |a::l,p,h=>by
  rcases List.mem_cons.1 h with rfl | h
  ·exact ⟨rfl,List.mem_cons_self ..⟩
  ·exact ⟨(EU h).1,List.mem_cons_of_mem _ (EU h).2⟩
theorem SB (n:Nat) {x:DV} (h:we x):Instr.sameBits n (gv x) (gv x)=true:=by
 cases x <;> first | exact h.elim | (cases n <;> simp [gv,Instr.sameBits,ET])
theorem SC {T:List bB} {k:TK} {x:DV} (h:ef T k x):Instr.sameBits 10000 (gv x) (gv x)=true:=by
 rcases h.cases with h1 | ⟨l,rfl,h1⟩
 ·exact SB _ h1
 ·show Instr.sameBits (9999+1) _ _=true;simp only [gv,Instr.sameBits,beq_self_eq_true,Bool.true_and,List.all_eq_true];intro p hp;obtain ⟨e1,e2⟩:=EU hp;obtain ⟨p1,p2⟩:=p;simp only at e1 e2;subst e1;obtain ⟨y,hy,rfl⟩:=List.mem_map.1 e2;have:=h1 y hy;cases y <;> first | exact this.elim | simp [Instr.sameBits,ET]
def yN (bad:Nat→Prop) (w:World) (es:List (DV × DV)) (en:List MapEntry):Prop:=en.length=es.length∧∀ (j:Nat) (k x:DV) (m:MapEntry),es[j]? = some (k,x)→en[j]? = some m→VD bad w k m.key∧VD bad w x m.val
theorem yN.cons {bad:Nat→Prop} {w:World} {p:DV × DV} {m:MapEntry} {es:List (DV × DV)} {en:List MapEntry} (h:yN bad w (p::es) (m::en)):VD bad w p.1 m.key∧VD bad w p.2 m.val∧yN bad w es en:=by
 obtain ⟨h1,h2⟩:=h;have:=h2 0 p.1 p.2 m rfl rfl;exact ⟨this.1,this.2,by simpa using h1,fun j k x m' hk hm=>h2 (j+1) k x m' (by simpa using hk) (by simpa using hm)⟩
theorem EV {k:DV}:∀ {es:List (DV × DV)} {j:Nat},iQ k es=some j→∃ p,es[j]? = some p∧eS k p.1=true∧findD k es=some p.2
 | [],_,h=>by cases h
 |p::es,j,h=>by
  unfold iQ at h;split at h
  ·rename_i q;cases h;exact ⟨p,rfl,q,by simp [findD,q]⟩
  ·rename_i q;cases hf:iQ k es with
   |none=>rw [hf] at h; cases h
   |some i =>
    rw [hf] at h;cases h;obtain ⟨p',h1,h2,h3⟩:=EV hf;exact ⟨p',by simpa using h1,h2,by simp [findD,q,h3]⟩
theorem Ka {k:DV}:∀ {es:List (DV × DV)},iQ k es=none→findD k es=none
 | [],_=>rfl
 |p::es,h=>by
  unfold iQ at h;split at h
  ·cases h
  ·rename_i q;cases hf:iQ k es with
   |none=>simp [findD,q,Ka hf]
   |some i=>rw [hf] at h; cases h
theorem EW {k v:DV}:∀ {es:List (DV × DV)} {j:Nat},iQ k es=some j→cD k v es=es.set j (k,v)
 | [],_,h=>by cases h
 |p::es,j,h=>by
  unfold iQ at h;split at h
  ·rename_i q;cases h;simp [cD,q]
  ·rename_i q;cases hf:iQ k es with
   |none=>rw [hf] at h; cases h
   |some i =>
    rw [hf] at h;cases h;simp [cD,q,EW hf]
theorem EX {k v:DV}:∀ {es:List (DV × DV)},iQ k es=none→cD k v es=es++[(k,v)]
 | [],_=>rfl
 |p::es,h=>by
  unfold iQ at h;split at h
  ·cases h
  ·rename_i q;cases hf:iQ k es with
   |none=>simp [cD,q,EX hf]
   |some i=>rw [hf] at h; cases h
theorem wg {P:Program} {w:World} {r:Nat} {es:Array MapEntry} {clock:Nat} (hb:w.heap[r]? = some (.map es clock)):(getObj r).run P w = .ok (.map es clock) w:=by
 simp [getObj,Sem.run,hb]
theorem Kb {P:Program} {w:World} {r:Nat} {es:Array MapEntry} {clock:Nat} (o:Obj) (hb:w.heap[r]? = some (.map es clock)):(setObj r o).run P w = .ok () { w with heap:=w.heap.setIfInBounds r o }:=by
 simp [setObj,Sem.run,hb]
theorem SD {P:Program} {w:World} {kt:TypeId} {d:TypeDesc} {k:Value} {l:List MapEntry} {a:Option (Nat × Value)} (hd:P.underlying kt=some d) (h:Instr.findNow d k l 0=some a):(Instr.findKey kt k l).run P w = .ok a w:=by
 simp [Instr.findKey,run_underlying hd,Result.andThen,h]
section
variable {E:Env}
def EY:TK→Prop
 | .int _=>True
 | .string=>True
 | .bool=>True
 |_=>False
inductive tT (E:Env) (t:Nat):TK→Prop
 |plain (i:bB) (hi:E.T[t]? = some i) (h:EY i.k):tT E t i.k
 |struct (i:bB) (hi:E.T[t]? = some i) (fs:List (Nat × Nat)) (hk:i.k = .struct fs) (hq:t∈E.Q):tT E t (.struct fs)
theorem Kc {T:List bB}:∀ {n:Nat} {fs:List (Nat × Nat)} {l m:List DV},tS T n fs l→tS T n fs m→nv T n fs l m False (· = tR l m)
 |_,[],[],[],_,_=>rfl
 |_,_::_,[],_,h,_=>h.elim
 |_,[],_::_,_,h,_=>h.elim
 |_,_::_,_::_,[],_,h=>h.elim
 |_,[],[],_::_,_,h=>h.elim
 |n,f::fs,a::l,b::m,h,h'=>by
  obtain ⟨e1,⟨i,hi,ha⟩,hl⟩:=h;obtain ⟨-,⟨i',cO,hb⟩,hm⟩:=h';rw [hi] at cO;cases cO;simp only [nv];have:Nat.beq f.1 n=true:=by rw [e1]; exact Nat.beq_refl n
  rw [this];simp only;rw [Bb hi];have key:∀ (K:Bool→Prop),K (qD a b)→r9 i.k a b False K:=fun K hK=>by
   unfold nw at ha hb;split at ha
   ·rename_i j hk;obtain ⟨x,rfl⟩:=ha;rw [hk] at hb ⊢;obtain ⟨y,rfl⟩:=hb;simp only [r9,ES]
    simpa [qD,ES] using hK
   ·rename_i hk;obtain ⟨x,rfl⟩:=ha;rw [hk] at hb ⊢;obtain ⟨y,rfl⟩:=hb;exact hK
   ·rename_i hk;obtain ⟨x,rfl⟩:=ha;rw [hk] at hb ⊢;obtain ⟨y,rfl⟩:=hb;exact hK
   ·exact ha.elim
  refine key _ ?_;have ih:=Kc hl hm;have mono:∀ {n:Nat} {fs:List (Nat × Nat)} {l m:List DV} {K K':Bool→Prop},(∀ p,K p→K' p)→nv T n fs l m False K→nv T n fs l m False K':=by
   intro n fs
   induction fs generalizing n with
   |nil=>intro l m K K' hk H; cases l <;> cases m <;> first | exact hk _ H | exact H
   |cons f fs EZ =>
    intro l m K K' hk H;cases l with
    |nil=>exact H
    |cons a l=>cases m with
     |nil=>exact H
     |cons b m =>
      simp only [nv] at H ⊢;split at H
      ·rcases bj H with H | ⟨i,hi,H⟩
       ·exact H.elim
       rw [Bb hi];unfold r9 at H ⊢;split at H
       ·split at H
        ·exact EZ (fun p hp=>hk _ hp) H
        ·exact H
       ·exact EZ (fun p hp=>hk _ hp) H
       ·exact EZ (fun p hp=>hk _ hp) H
       ·exact H
      ·exact H
  refine mono (fun p hp=>?_) ih;rw [hp,tR]
theorem SE (hE:E.OK) {t:Nat} {i:bB} (hi:E.T[t]? = some i) {fs:List (Nat × Nat)} (hk:i.k = .struct fs) (hq:t∈E.Q) {x y:DV} (hx:ef E.T (.struct fs) x) (hy:ef E.T (.struct fs) y) {bad:Nat→Prop} {w:World} {u v:Value} (hu:VD bad w x u) (hv:VD bad w y v) :
  (Op.equal t u v).run E.P w = .ok (eS x y) w:=by
 obtain ⟨l,rfl,hl⟩:=hx;obtain ⟨m,rfl,hm⟩:=hy;obtain ⟨ti,d,g1,g2,g3,-⟩:=cM (hE.types t i hi);obtain ⟨fl,rfl,rfl⟩:=qi (hk.symm.trans g3);have pa:=hE.eqs t hq;simp only [Ba,g2,Bool.and_eq_true,Bool.not_eq_true',List.all_eq_true,bne_iff_ne,ne_eq] at pa;obtain ⟨⟨q1,q2⟩,q3⟩:=pa;rcases J6 hE.types (Kc hl hm) q3 with h | ⟨p,rfl,hp⟩
 ·exact h.elim
 have il:E.P.fieldsOf t=fl:=by simp [Program.fieldsOf,g2]
 cases hu with
 |agg _ xs x1 x2=>cases hv with
  |agg _ ys y1 y2 =>
   show (Op.equalIn (9999+1) t _ _).run E.P w=_;rw [run_equalIn_struct w 9999 t _ _ (by rw [il]; exact g2) q1,il];have:=hp bad w w xs.toList ys.toList 9998 (fun j z hz=>?_) (fun j z hz=>?_)
   ·simpa [eS] using this
   ·have hj:=aZ hz;rw [x1] at hj;exact ⟨xs[j],by simp [hj],x2 j z _ hz (by simp [hj])⟩
   ·have hj:=aZ hz;rw [y1] at hj;exact ⟨ys[j],by simp [hj],y2 j z _ hz (by simp [hj])⟩
theorem SF {td:TypeDesc} {k:TK} (hk:k=tk td) (hp:EY k) {x y:DV} (hx:nw k x) (hy:nw k y):Instr.sameNow td (gv x) (gv y)=some (eS x y):=by
 subst hk;cases td <;> simp only [tk,EY] at hp hx hy
 ·obtain ⟨a,rfl⟩:=hx; obtain ⟨b,rfl⟩:=hy; rfl
 ·obtain ⟨a,rfl⟩:=hx; obtain ⟨b,rfl⟩:=hy;simp [Instr.sameNow,gv,eS,qD,ES]
 ·obtain ⟨a,rfl⟩:=hx; obtain ⟨b,rfl⟩:=hy;simp [Instr.sameNow,gv,eS,qD,ET]
def nx (k:DV) (es:List (DV × DV)) (en:List MapEntry) (i:Nat):Option (Nat × Value):=(iQ k es).bind fun j=>(en[j]?).map fun m=>(i+j,m.val)
theorem Kd {k:DV} {p:DV × DV} {m:MapEntry} {es:List (DV × DV)} {en:List MapEntry} {i:Nat}:nx k (p::es) (m::en) i=if eS k p.1 then some (i,m.val) else nx k es en (i+1):=by
 simp only [nx,iQ];split
 ·simp
 ·cases iQ k es with
  |none=>rfl
  |some j =>
   simp;cases en[j]? with
   |none=>rfl
   |some m=>simp; omega
theorem Ke (hE:E.OK) {t:Nat} {k:TK} (hT:tT E t k) {x:DV} (hx:ef E.T k x) {bad:Nat→Prop} {w:World} {u:Value} (hu:VD bad w x u) {es:List (DV × DV)} {en:List MapEntry} (jg:∀ p∈es,ef E.T k p.1) (wh:yN bad w es en) :
  (Instr.findKey t u en).run E.P w = .ok (nx x es en 0) w:=by
 cases hT with
 |plain i hi h =>
  obtain ⟨ti,d,g1,g2,g3,-⟩:=cM (hE.types t i hi);refine SD g2 ?_;have hF:∀ y,ef E.T i.k y→nw i.k y:=fun y hy=>by
   unfold ef at hy;split at hy
   ·rename_i q; rw [q] at h; exact h.elim
   ·exact hy
  obtain rfl:=yM hx hu;generalize 0=n
  induction es generalizing en n with
  |nil =>
   obtain rfl:en=[]:=List.eq_nil_of_length_eq_zero (by simpa using wh.1);rfl
  |cons p es ih=>cases en with
   |nil=>have:=wh.1; simp at this
   |cons m en =>
    obtain ⟨h1,h2,h3⟩:=wh.cons;have hp:=jg p (List.mem_cons_self ..);have e1:=yM hp h1;rw [Kd,Instr.findNow,e1,SF g3 h (hF _ hx) (hF _ hp)];cases eS x p.1 with
    |true=>rfl
    |false =>
     have ha:∀ q∈es,ef E.T i.k q.1:=fun q hq=>jg q (List.mem_cons_of_mem _ hq);first | exact ih ha h3 (n+1) | exact ih h3 ha (n+1) | exact ih h3 (n+1) ha
 |struct i hi fs hk hq =>
  obtain ⟨ti,d,g1,g2,g3,-⟩:=cM (hE.types t i hi);obtain ⟨fl,rfl,-⟩:=qi (hk.symm.trans g3);rw [run_findKey_eq w (by rw [g2]) u en];generalize 0=n
  induction es generalizing en n with
  |nil =>
   obtain rfl:en=[]:=List.eq_nil_of_length_eq_zero (by simpa using wh.1);simp [Instr.findAsking,nx,iQ]
  |cons p es ih=>cases en with
   |nil=>have:=wh.1; simp at this
   |cons m en =>
    obtain ⟨h1,h2,h3⟩:=wh.cons;have hp:=jg p (List.mem_cons_self ..);rw [Kd];simp only [Instr.findAsking,Sem.run_bind,SE hE hi hk hq hx hp hu h1,Result.andThen_ok];cases eS x p.1 with
    |true=>simp
    |false =>
     simp only [Bool.false_eq_true,if_false];have ha:∀ q∈es,ef E.T (.struct _) q.1:=fun q hq=>jg q (List.mem_cons_of_mem _ hq);first | exact ih ha h3 (n+1) | exact ih h3 ha (n+1) | exact ih h3 (n+1) ha
theorem Kg (hE:E.OK) {t:Nat} {k:TK} (hT:tT E t k) {x:DV} (hx:ef E.T k x) {bad:Nat→Prop} {w:World} {u:Value} (hu:VD bad w x u) (em:Bool):(Instr.checkKey em 10000 t u).run E.P w = .ok () w:=by
 have one:∀ (n:Nat) (t:Nat) (i:bB) (hi:E.T[t]? = some i) (y:DV),nw i.k y→(Instr.checkKey em (n+1) t (gv y)).run E.P w = .ok () w:=fun n t i hi y hy=>by
  obtain ⟨ti,d,g1,g2,g3,-⟩:=cM (hE.types t i hi);unfold Instr.checkKey;simp only [Sem.run_bind,run_underlying g2,Result.andThen];unfold nw at hy;split at hy
  ·rename_i q; obtain ⟨a,rfl⟩:=hy; obtain rfl:=vR (q.symm.trans g3); simp [gv]
  ·rename_i q; obtain ⟨a,rfl⟩:=hy; obtain rfl:=rU (q.symm.trans g3); simp [gv]
  ·rename_i q;obtain ⟨a,rfl⟩:=hy;have:d = .bool:=by rw [q] at g3; cases d <;> first | rfl | cases g3
   subst this;simp [gv]
  ·exact hy.elim
 obtain rfl:=yM hx hu;cases hT with
 |plain i hi h =>
  have hF:nw i.k x:=by
   unfold ef at hx;split at hx
   ·rename_i q; rw [q] at h; exact h.elim
   ·exact hx
  exact one 9999 t i hi x hF
 |struct i hi fs hk hq =>
  obtain ⟨ti,d,g1,g2,g3,-⟩:=cM (hE.types t i hi);obtain ⟨fl,rfl,rfl⟩:=qi (hk.symm.trans g3);obtain ⟨l,rfl,hl⟩:=hx;show (Instr.checkKey em (9999+1) t _).run E.P w=_;rw [Instr.checkKey];simp only [Sem.run_bind,run_underlying g2,Result.andThen_ok,gv];rw [← Array.forIn_toList]
  generalize mF:(l.map fun
   | .int j n=>Value.int j n
   | .str s => .string ⟨s.toArray⟩
   | .bool b => .bool b
   |_=>undef)=cs
  have bT:∀ (j:Nat) (y:DV),l[j]? = some y→cs[0+j]? = some (gv y):=fun j y hy=>by
   rw [← mF];have:=hl.flat y (List.mem_of_getElem? hy);simp [hy];cases y <;> first | rfl | exact this.elim
  clear mF;have go:∀ (fl:List Field) (n:Nat) (l:List DV),tS E.T n (fl.map fun f=>(f.offset,f.type)) l→(∀ (j:Nat) (y:DV),l[j]? = some y→cs[n+j]? = some (gv y)) →
    (forIn fl PUnit.unit fun f _ =>
     if f.name ≠ "_" then do
      let d ← part f.type cs.toArray f.offset
      Instr.checkKey em 9999 f.type d
      pure (ForInStep.yield PUnit.unit)
     else pure (ForInStep.yield PUnit.unit):Sem PUnit).run E.P w = .ok PUnit.unit w:=by
   intro fl
   induction fl with
   |nil=>intro n l _ _; simp
   |cons f fl ih =>
    intro n l h hv;cases l with
    |nil=>exact h.elim
    |cons a l =>
     obtain ⟨e1,⟨fi,jH,lR⟩,hr⟩:=h;simp only at e1 jH;have fC:fi.k.agg=false:=by
      unfold nw at lR;split at lR <;> first | (rename_i q; rw [q]; rfl) | exact lR.elim
     have h0 := hv 0 a rfl;rw [Nat.add_zero] at h0;have hp := Bl (hE.types _ fi jH) w cs n (gv a) h0 fC;have tU := ih (n + 1) l hr (fun j y hy => by rw [show n + 1 + j = n + (j + 1) by omega]; exact hv (j + 1) y (by simpa using hy));simp only [List.forIn_cons, Sem.run_bind];by_cases BG : f.name = "_"
     ·simp only [BG,ne_eq,not_true_eq_false,if_false,Sem.run_bind,Sem.run_pure,Result.andThen_ok];exact tU
     ·simp only [BG,ne_eq,not_false_eq_true,if_true,Sem.run_bind,e1,hp,Result.andThen_ok,one 9998 f.type fi jH a lR,Sem.run_pure];exact tU
  have:=go fl.toList 0 l hl bT;rw [this];rfl
end
section
variable {E:Env} {s:List AV} {h:List ag} {c:Cx} {G:List (Nat × DV)}
theorem SG {t:Nat}:aQ E (.makeMap t none) s h (.map h.length) (h++[.map []]):=fun o c ac h1 h2 h3 h4=>by
 subst h2;obtain ⟨k1,k2⟩:=h3.add (.map []) 0 (.map #[] 0);have bC:(c.add (.map []) 0 (.map #[] 0)).own c.heap.length=some (c.w.heap.size,0):=by simp [Cx.add]
 have km:(c.add (.map []) 0 (.map #[] 0)).heap[c.heap.length]? = some (.map []):=by simp [Cx.add]
 refine ⟨_,.map (some c.w.heap.size),.inl ?_,rfl,k2 ⟨c.w.heap.size,0,#[],0,bC,heap_alloc_new _ _,⟨rfl,by simp,by simp,by simp,rfl⟩,fun j k x m hj=>by simp at hj⟩,.map c.heap.length [] c.w.heap.size 0 km bC,k1⟩;simp only [execOp,h1,Option.map_none,Instr.makeMap];rfl
theorem SH {b:Nat} {es:List (DV × DV)} (hb:c.heap[b]? = some (.map es)) {v:Value} (hv:VR c (.map b) v):∃ blk cap,v = .map (some blk)∧c.own b=some (blk,cap):=by
 cases hv with
 |map _ ew blk cap k1 k2=>exact ⟨blk,cap,rfl,k2⟩
 |nd _ _ k1 _=>rw [hb] at k1; cases k1
theorem BI (h3:aE G c) {b:Nat} {es:List (DV × DV)} (hb:c.heap[b]? = some (.map es)) {v:Value} (hv:VR c (.map b) v):∃ (blk cap:Nat) (en:Array MapEntry) (ck:Nat),v = .map (some blk)∧c.own b=some (blk,cap)∧c.w.heap[blk]? = some (.map en ck)∧o3 en ck es.length∧yN c.bad c.w es en.toList:=by
 obtain ⟨blk,cap,rfl,ho⟩:=SH hb hv;obtain ⟨lI,ki,en,ck,p1,p2,p3,p4⟩:=h3.box b _ hb;rw [ho] at p1;cases p1;exact ⟨blk,cap,en,ck,rfl,ho,p2,p3,by simpa using p3.size,fun j k x m hk hm=>p4 j k x m hk (by simpa using hm)⟩
@[irreducible] def yO (E : Env) (e : Nat) (kd : TK) (x : DV) (es : List (DV × DV)) (K : DV → Bool → Prop) : Prop :=
 ∃ (z:DV) (zv:Value),ef E.T kd x∧(∀ p∈es,ef E.T kd p.1)∧(∀ w,(zeroValue e).run E.P w = .ok zv w)∧(∀ bad w,VD bad w z zv)∧K ((findD x es).getD z) (findD x es).isSome
theorem iR {E:Env} {e:Nat} {kd:TK} {x:DV} {es:List (DV × DV)} {K:DV→Bool→Prop} (z:DV) (zv:Value) {v:DV} {f:Bool} (h1:ef E.T kd x) (h2:∀ p∈es,ef E.T kd p.1) (h3:∀ w,(zeroValue e).run E.P w = .ok zv w) (h4:∀ bad w,VD bad w z zv)
  (e1:(findD x es).getD z=v) (e2:(findD x es).isSome=f) (k:K v f):yO E e kd x es K:=by
 unfold yO;exact ⟨z,zv,h1,h2,h3,h4,by rw [e1,e2]; exact k⟩
theorem SI {E:Env} {e:Nat} {kd:TK} {x:DV} {es:List (DV × DV)} {K:DV→Bool→Prop} (h:yO E e kd x es K) :
  ∃ (z:DV) (zv:Value),ef E.T kd x∧(∀ p∈es,ef E.T kd p.1)∧(∀ w,(zeroValue e).run E.P w = .ok zv w)∧(∀ bad w,VD bad w z zv)∧K ((findD x es).getD z) (findD x es).isSome:=by unfold yO at h; exact h
theorem SJ (hE:E.OK) {t kt e:Nat} {m ko:Operand} {ti:bB} (cj:E.T[t]? = some ti) (hk:ti.k = .map kt e) {kd:TK} (hT:tT E kt kd) {b:Nat} {es:List (DV × DV)} (hb:h[b]? = some (.map es)) (hm:bp E.G s m (.map b)) {x:DV} (hx:bp E.G s ko (.d x))
  (h1:ef E.T kd x) (h2:∀ p∈es,ef E.T kd p.1) {z:DV} {zv:Value} (hz:∀ w,(zeroValue e).run E.P w = .ok zv w) (pb:∀ bad w,VD bad w z zv) (ok:Bool) :
  aQ E (.lookup t m ko ok) s h (match ok with | true => .d (.aL [(findD x es).getD z,.bool (findD x es).isSome]) | false => .d ((findD x es).getD z)) h := .quiet fun o c ac e1 e2 h3 h4=>by
 subst e2;obtain ⟨nu,d,g1,g2,g3,-⟩:=cM (hE.types t ti cj);have hd:d = .map kt e:=by rw [hk] at g3; cases d <;> first | (cases g3; rfl) | cases g3
 subst hd;obtain ⟨blk,cap,en,ck,q1,q2,q3,qe,q4⟩:=BI h3 hb (hm c ac h3 h4);have dg:=hx c ac h3 h4;generalize hu:ac.eval ko=u at dg;cases dg with
 |d _ _ dg =>
  have r1:=Kg hE hT h1 dg en.isEmpty;have r2:=Ke hE hT h1 dg h2 q4
  have hv:∃ (v:Value) (f:Bool),f=(findD x es).isSome∧VD c.bad c.w ((findD x es).getD z) v∧((match nx x es en.toList 0 with
    |some (_,v)=>pure (v,true)
    |none=>do pure (← zeroValue e,false):Sem (Value × Bool))).run E.P c.w = .ok (v,f) c.w:=by
   cases hf:iQ x es with
   |none =>
    rw [Ka hf];refine ⟨zv,false,rfl,pb _ _,?_⟩;simp [nx,hf,hz]
   |some j =>
    obtain ⟨p,p1,p2,p3⟩:=EV hf;rw [p3];have hj:j<en.toList.length:=by rw [q4.1]; exact aZ p1
    refine ⟨en.toList[j].val,true,rfl,(q4.2 j p.1 p.2 _ p1 (by simp)).2,?_⟩;have:en.toList[j]? = some en.toList[j]:=by simp
    simp only [nx,hf,Option.bind_some,this,Option.map_some];rfl
  obtain ⟨v,f,rfl,eZ,cR⟩:=hv;have main:(Instr.lookup t (.map (some blk)) u ok).run E.P c.w = .ok (if ok then .tuple #[v,.bool (findD x es).isSome] else v) c.w:=by
   simp only [Instr.lookup,Sem.run_bind,run_underlying g2,Result.andThen_ok,wg q3,Sem.run_pure,r1,r2];have:=cR;cases E2:nx x es en.toList 0 with
   |none =>
    rw [E2] at this;simp only [Sem.run_bind,Sem.run_pure] at this ⊢;rw [hz] at this ⊢;simp only [Result.andThen_ok,Result.ok.injEq,Prod.mk.injEq] at this ⊢;rw [← this.1.1,← this.1.2];first | exact ⟨rfl,rfl⟩ | exact ⟨rfl,trivial⟩ | rfl
   |some q =>
    rw [E2] at this;simp only [Sem.run_pure,Result.ok.injEq,Prod.mk.injEq] at this ⊢;rw [← this.1.1,← this.1.2];first | exact ⟨rfl,rfl⟩ | exact ⟨rfl,trivial⟩ | rfl
  refine ⟨_,by simp only [execOp,e1,q1,hu,Sem.run_bind,main,Result.andThen_ok,Sem.run_pure]; rfl,?_⟩;cases ok with
  |true =>
   refine .d _ _ (.aL _ _ rfl fun j y w hy hw=>?_)
   match j with
   | 0=>simp at hy hw; subst hy; subst hw; exact eZ
   | 1=>simp at hy hw; subst hy; subst hw; exact .bool _
   |j+2=>simp at hy
  |false=>exact .d _ _ eZ
theorem Kh (hE:E.OK) {op:Op} {t kt e:Nat} {m ko vo:Operand} (cm:op = .mapUpdate t m ko vo∨op = .insert t m ko vo) {ti:bB} (cj:E.T[t]? = some ti) (hk:ti.k = .map kt e) {kd:TK} (hT:tT E kt kd) {b:Nat} {es:List (DV × DV)} (hb:h[b]? = some (.map es)) (hm:bp E.G s m (.map b)) {x y:DV} (hx:bp E.G s ko (.d x)) (hy:bp E.G s vo (.d y))
  (h1:ef E.T kd x) (h2:∀ p∈es,ef E.T kd p.1):aQ E op s h (.d .undef) (h.set b (.map (cD x y es))):=fun o c ac e1 e2 h3 h4=>by
 subst e2;obtain ⟨nu,d,g1,g2,g3,-⟩:=cM (hE.types t ti cj);have hd:d = .map kt e:=by rw [hk] at g3; cases d <;> first | (cases g3; rfl) | cases g3
 subst hd;have ez:=aZ hb;obtain ⟨blk,cap,en,ck,q1,q2,q3,qe,q4⟩:=BI h3 hb (hm c ac h3 h4);have dg:=hx c ac h3 h4;have nt:=hy c ac h3 h4;generalize hu:ac.eval ko=u at dg;generalize hw:ac.eval vo=w at nt;cases dg with
 |d _ _ dg=>cases nt with
  |d _ _ nt =>
   have r1:=Kg hE hT h1 dg false;have r2:=Ke hE hT h1 dg h2 q4;have hblk:blk<c.w.heap.size:=(h3.bI b blk cap q2).1;have main:∃ (tV:Array MapEntry) (wi:Nat),(Instr.mapUpdate t (.map (some blk)) u w).run E.P c.w = .ok () { c.w with heap:=c.w.heap.setIfInBounds blk (.map tV wi) }∧o3 tV wi (cD x y es).length ∧
     ∀ (j:Nat) (k v:DV) (mm:MapEntry),(cD x y es)[j]? = some (k,v)→tV[j]? = some mm→VD c.bad c.w k mm.key∧VD c.bad c.w v mm.val:=by
    cases hf:iQ x es with
    |none =>
     refine ⟨en.push { key:=u,val:=w,born:=ck },ck+1,?_,?_,?_⟩
     ·simp only [Instr.mapUpdate,Sem.run_bind,run_underlying g2,Result.andThen_ok,wg q3,r1,r2,nx,hf,Option.bind_none,Kb _ q3]
     ·rw [EX hf,List.length_append];exact qe.push u w
     ·intro j k v mm hj kV;rw [EX hf] at hj;have hl:en.size=es.length:=by simpa using q4.1
      rcases Nat.lt_or_ge j es.length with ai | aP
      ·rw [List.getElem?_append_left ai] at hj;rw [Array.getElem?_push,if_neg (by omega)] at kV;exact q4.2 j k v mm hj (by simpa using kV)
      ·have kT:j=es.length:=by
        have:=aZ hj;simp at this;omega
       subst kT;rw [List.getElem?_append_right (Nat.le_refl _)] at hj;simp at hj;obtain ⟨rfl,rfl⟩:=hj;rw [Array.getElem?_push,if_pos hl.symm] at kV;cases kV;exact ⟨dg,nt⟩
    |some i =>
     obtain ⟨p,p1,p2,p3⟩:=EV hf;have hl:en.size=es.length:=by simpa using q4.1
     have hi:i<en.size:=by rw [hl]; exact aZ p1
     have yP:en[i]? = some en[i]:=by simp [hi]
     have SK:=(q4.2 i p.1 p.2 en[i] p1 (by simp [hi])).1;have E3:=SA p2;have e3:=yM h1 dg;have e4:=yM (h2 p (List.mem_of_getElem? p1)) SK;have SL:Instr.sameBits 10000 en[i].key u=true:=by
      rw [e3,e4,← E3];exact SC h1
     refine ⟨en.modify i fun e=>{ e with key:=u,val:=w },ck,?_,?_,?_⟩
     ·have E4:nx x es en.toList 0=some (i,en[i].val):=by
       simp [nx,hf,hi]
      have SM:(Instr.keyThatStays en[i].key u).run E.P c.w = .ok u c.w:=by
       simp only [Instr.keyThatStays,SL,if_true,Sem.run_pure]
      simp only [Instr.mapUpdate,Sem.run_bind,run_underlying g2,Result.andThen_ok,wg q3,r1,r2,E4,yP,Option.map_some,Option.getD_some,SM,Kb _ q3]
     ·rw [EW hf,List.length_set];exact qe.modify i u w
     ·intro j k v mm hj kV;rw [EW hf] at hj;by_cases yQ:j=i
      ·subst yQ;rw [List.getElem?_set_self (by omega)] at hj;cases hj;rw [Array.getElem?_modify,if_pos rfl,yP] at kV;cases kV;exact ⟨dg,nt⟩
      ·rw [List.getElem?_set_ne (Ne.symm yQ)] at hj;rw [Array.getElem?_modify,if_neg (Ne.symm yQ)] at kV;exact q4.2 j k v mm hj (by simpa using kV)
   obtain ⟨tV,wi,cR,hlen,ny⟩:=main
   let c':Cx:={ c with heap:=c.heap.set b (.map (cD x y es)),w:={ c.w with heap:=c.w.heap.setIfInBounds blk (.map tV wi) } }
   have SN:c'.w.heap[blk]? = some (.map tV wi):=by simp [c',hblk]
   have Ki:∀ b',b'≠blk→c'.w.heap[b']? = c.w.heap[b']? := fun b' cP=>by simp [c',Array.getElem?_setIfInBounds,Ne.symm cP]
   have Kj:c'.heap[b]? = some (.map (cD x y es)):=by show (c.heap.set b _)[b]? = _; rw [List.getElem?_set_self ez]
   have oo:∀ i,i≠b→c'.heap[i]? = c.heap[i]? := fun i hi=>by show (c.heap.set b _)[i]? = _; rw [List.getElem?_set_ne (Ne.symm hi)]
   have aR:Step c c':=⟨rfl,h3.bD,rfl,rfl,rfl,by simp [c'],fun b' _ dQ=>Ki b' (fun yR=>dQ b cap (yR ▸ q2)),fun i b' n hi _=>⟨n,hi⟩,fun i bx hi=>by
    by_cases bL:i=b
    ·subst bL;rw [hb] at hi;cases hi;exact .inl ⟨_,Kj,rfl⟩
    ·rw [← oo i bL] at hi;cases bx with
     |cells cs=>exact .inl ⟨cs,hi,rfl,rfl⟩
     |arr g sz l=>exact .inl ⟨g,l,hi,.inr ⟨rfl,rfl,rfl⟩⟩
     |map es=>exact .inl ⟨es,hi,rfl⟩
     |gone=>exact hi⟩
   have aK:aE E.G c':=by
    refine h3.next aR (fun i b' n hi=>?_) h3.inj (fun i bx hi=>?_)
    ·have:=h3.bI i b' n hi;refine ⟨by simpa [c'] using this.1,?_⟩;show i<(c.heap.set b _).length;rw [List.length_set];exact this.2
    ·by_cases bL:i=b
     ·subst bL;rw [Kj] at hi;cases hi;right;exact ⟨blk,cap,tV,wi,q2,SN,hlen,fun j k v mm hj kV=>⟨aR.vd (ny j k v mm hj kV).1,aR.vd (ny j k v mm hj kV).2⟩⟩
     ·rw [oo i bL] at hi;exact .inl ⟨hi,rfl,fun b' n hn=>Ki b' (fun yR=>bL (h3.inj i b blk n cap (yR ▸ hn) q2))⟩
   refine ⟨c',undef,.inr ⟨?_,rfl⟩,rfl,aK,.d _ _ .undef,aR⟩;rcases cm with rfl | rfl
   ·simp only [execOp,e1,q1,hu,hw,Sem.run_bind,cR,Result.andThen_ok,Sem.run_pure];rfl
   ·simp only [execOp,e1,q1,hu,hw,Sem.run_bind,cR,Result.andThen_ok,Sem.run_pure];rfl
theorem SO (hE:E.OK) {t:Nat} {args:Array Operand} {ts:Array TypeId} {m:Operand} (jK:args.toList[0]? = some m) (mD:ts.toList[0]? = some t) {ti:bB} (cj:E.T[t]? = some ti) {kt e:Nat} (hk:ti.k = .map kt e) {b:Nat} {es:List (DV × DV)} (hb:h[b]? = some (.map es)) (hm:bp E.G s m (.map b)) :
  aQ E (.call { callee := .builtin .len,args:=args,argTypes:=ts }) s h (.d (.int .i64 es.length)) h := .quiet fun o c ac e1 e2 h3 h4=>by
 subst e2;obtain ⟨nu,d,g1,g2,g3,-⟩:=cM (hE.types t ti cj);have hd:d = .map kt e:=by rw [hk] at g3; cases d <;> first | (cases g3; rfl) | cases g3
 subst hd;obtain ⟨blk,cap,en,ck,q1,q2,q3,qe,q4⟩:=BI h3 hb (hm c ac h3 h4);refine ⟨.int .i64 es.length,?_,.d _ _ (.int _ _)⟩;have hl:en.size=es.length:=by simpa using q4.1
 have gF:args[0]? = some m:=by simpa using jK
 have qk:ts[0]? = some t:=by simpa using mD
 have dJ:(args.map ac.eval)[0]? = some (.map (some blk)):=by rw [Array.getElem?_map,gF]; simp [q1]
 simp only [execOp,e1,resolve,invoke,builtin,Builtin.len_,qk,dJ,Sem.run_bind,Sem.run_pure,Result.andThen_ok,run_underlying g2,wg q3,goInt,hl]
def yS (E:Env) (kt:Nat) (stop:Prop) (k:TK→Prop):Prop:=aV E.T kt stop fun i=>match i.k with
 | .int j=>k (.int j)
 | .string=>k .string
 | .bool=>k .bool
 | .struct fs=>match yJ kt E.Q with
  |true=>k (.struct fs)
  |false=>stop
 |_=>stop
theorem E5 {kt:Nat} {stop:Prop} {k:TK→Prop} (H:yS E kt stop k):stop∨∃ kd,tT E kt kd∧k kd:=by
 unfold yS at H;rcases bj H with H | ⟨i,hi,H⟩
 ·exact .inl H
 split at H
 ·rename_i q; exact .inr ⟨_,q ▸ .plain i hi (by rw [q]; trivial),H⟩
 ·rename_i q; exact .inr ⟨_,q ▸ .plain i hi (by rw [q]; trivial),H⟩
 ·rename_i q; exact .inr ⟨_,q ▸ .plain i hi (by rw [q]; trivial),H⟩
 ·rename_i fs q;split at H
  ·rename_i q2; exact .inr ⟨_,.struct i hi fs q (BF q2),H⟩
  ·exact .inl H
 ·exact .inl H
def ot (E:Env) (o:Op) (s:List AV) (h:List ag) (stop:Prop) (k:AV→List ag→Prop):Prop :=
 match o with
 | .makeMap _ none=>lH h (.map []) 0 fun h' n=>k (.map n) h'
 | .lookup t m x ok=>aV E.T t stop fun ti=>match ti.k with
  | .map kt e=>cH E.G s m stop fun
   | .map b=>aV h b stop fun
    | .map es=>cH E.G s x stop fun
     | .d y=>yS E kt stop fun kd=>yO E e kd y es fun v f=>match ok with
      |true=>k (.d (.aL [v,.bool f])) h
      |false=>k (.d v) h
     |_=>stop
    |_=>stop
   |_=>stop
  |_=>stop
 | .call { callee := .builtin .len,args:=args,argTypes:=ts }=>aV args.toList 0 stop fun m=>aV ts.toList 0 stop fun t=>aV E.T t stop fun ti=>match ti.k with
  | .map _ _=>cH E.G s m stop fun
   | .map b=>aV h b stop fun
    | .map es=>k (.d (.int .i64 es.length)) h
    |_=>stop
   |_=>stop
  |_=>stop
 | .mapUpdate t m x v=>aV E.T t stop fun ti=>match ti.k with
  | .map kt _=>cH E.G s m stop fun
   | .map b=>aV h b stop fun
    | .map es=>cH E.G s x stop fun
     | .d y=>cH E.G s v stop fun
      | .d z=>yS E kt stop fun kd=>need (ef E.T kd y∧∀ p∈es,ef E.T kd p.1) (fN h b (.map (cD y z es)) fun h'=>k (.d .undef) h')
      |_=>stop
     |_=>stop
    |_=>stop
   |_=>stop
  |_=>stop
 |_=>stop
theorem SP (hE:E.OK) {o:Op} {stop:Prop} {k:AV→List ag→Prop} (H:ot E o s h stop k):stop∨∃ v h',k v h'∧aQ E o s h v h':=by
 unfold ot at H;split at H
 ·rw [nf,Nat.zero_add] at H;exact .inr ⟨_,_,H,SG⟩
 ·rename_i t m x ok;rcases bj H with H | ⟨ti,cj,H⟩
  ·exact .inl H
  split at H
  ·rename_i kt e hk;rcases cI H with H | ⟨a,ha,H⟩
   ·exact .inl H
   split at H
   ·rename_i b;rcases bj H with H | ⟨bx,hb,H⟩
    ·exact .inl H
    split at H
    ·rename_i es;rcases cI H with H | ⟨y,hy,H⟩
     ·exact .inl H
     split at H
     ·rename_i y;rcases E5 H with H | ⟨kd,hT,H⟩
      ·exact .inl H
      obtain ⟨z,zv,f1,f2,f3,f4,H⟩:=SI H;have:=SJ (s:=s) hE cj hk hT hb ha hy f1 f2 f3 f4 ok;cases ok with
      |true=>exact .inr ⟨_,_,H,this⟩
      |false=>exact .inr ⟨_,_,H,this⟩
     ·exact .inl H
    ·exact .inl H
   ·exact .inl H
  ·exact .inl H
 ·rename_i args ts;rcases bj H with H | ⟨m,hm,H⟩
  ·exact .inl H
  rcases bj H with H | ⟨t,ht,H⟩
  ·exact .inl H
  rcases bj H with H | ⟨ti,cj,H⟩
  ·exact .inl H
  split at H
  ·rename_i kt e hk;rcases cI H with H | ⟨a,ha,H⟩
   ·exact .inl H
   split at H
   ·rename_i b;rcases bj H with H | ⟨bx,hb,H⟩
    ·exact .inl H
    split at H
    ·exact .inr ⟨_,_,H,SO hE hm ht cj hk hb ha⟩
    ·exact .inl H
   ·exact .inl H
  ·exact .inl H
 ·rename_i t m x v;rcases bj H with H | ⟨ti,cj,H⟩
  ·exact .inl H
  split at H
  ·rename_i kt e hk;rcases cI H with H | ⟨a,ha,H⟩
   ·exact .inl H
   split at H
   ·rename_i b;rcases bj H with H | ⟨bx,hb,H⟩
    ·exact .inl H
    split at H
    ·rename_i es;rcases cI H with H | ⟨y,hy,H⟩
     ·exact .inl H
     split at H
     ·rename_i y;rcases cI H with H | ⟨z,hz,H⟩
      ·exact .inl H
      split at H
      ·rename_i z;rcases E5 H with H | ⟨kd,hT,H⟩
       ·exact .inl H
       obtain ⟨⟨f1,f2⟩,H⟩:=nn H;rw [gQ] at H;exact .inr ⟨_,_,H,Kh hE (.inl rfl) cj hk hT hb ha hy hz f1 f2⟩
      ·exact .inl H
     ·exact .inl H
    ·exact .inl H
   ·exact .inl H
  ·exact .inl H
 ·exact .inl H
def fU (E:Env) (o:Op) (s:List AV) (h:List ag) (stop:Prop) (k:AV→List ag→Prop):Prop:=lQ E.T E.G o s h (sa E o s (ot E o s h stop k) fun v=>k v h) k
theorem tW (hE:E.OK) {o:Op} {stop:Prop} {k:AV→List ag→Prop} (H:fU E o s h stop k):stop∨∃ v h',k v h'∧aQ E o s h v h':=by
 rcases Sk hE H with H | H
 ·rcases Sv H with H | ⟨v,H,ho⟩
  ·exact SP hE H
  ·exact .inr ⟨v,h,H,ho h⟩
 ·exact .inr H
end
end Go.ax
end
