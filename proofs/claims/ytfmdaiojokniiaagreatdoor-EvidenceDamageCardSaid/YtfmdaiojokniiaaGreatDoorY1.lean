/- Several texts of mine, one behind the other. Conditions: as each says. -/
import Derived.Test.YtfmdaiojokniiaaGreatDoorY0
import Derived.RangeFuncNested
import Derived.RangeFuncLeaves
import Derived.Laws.AppendOwn
import Derived.Laws.MakeOwn
import Derived.Laws.StructEq
import Derived.Laws.BytesString
import Derived.Lib.ConvBytes
import Derived.WideKeyRuns
import Derived.MapKept
set_option linter.unusedVariables false
set_option linter.unusedSimpArgs false
section
namespace Go.ax
open Go Go.RowKit
inductive aP where
 |code (c:Code)
 |inBlock (id:Nat)
 |inLoop (c:Code)
 |bo (ops:Array Oper) (l:List Oper)
 |nr (l:Nat)
 |oo
def aP.bB:aP→Item
 | .code c => .code c
 | .inBlock id => .inBlock id
 | .inLoop c => .inLoop c
 | .bo ops l => .inRegion ops ((List.range ops.size).drop (ops.size - l.length))
 | .nr l => .inRangeFunc l
 | .oo => .beginRound
def aP.ok:aP→Prop
 | .bo ops l=>∃ n,n≤ops.size∧l=ops.toList.drop n
 |_=>True
structure gy where
 f:FuncId
 cB:Option Nat
 aG:List Nat
def marks (l:List Nat):List Deferred:=l.map fun d=>{ target := .collected d,args := #[] }
structure bQ where
 ag:gy
 todo:List aP
 gr:List AV
def bf (x:gy):Frame:={ (default:Frame) with fn:=x.f,kind := .normal,roundOf:=x.cB }
def bQ.bB (f:bQ) (t:Array Value):Frame:=(bf f.ag).atR ⟨t,marks f.ag.aG⟩ (f.todo.map aP.bB)
def bQ.ok (f:bQ):Prop:=∀ i∈f.todo,i.ok
def ez:List bQ→List (Array Value)→List Frame
 |f::fs,t::ts=>f.bB t::ez fs ts
 |_,_=>[]
def CR (c:Cx):List bQ→List (Array Value)→Prop
 | [],[]=>True
 |f::fs,t::ts=>VS c f.gr t∧f.ok∧CR c fs ts
 |_,_=>False
theorem nt {c c':Cx} (h:∀ x v,VR c x v→VR c' x v):∀ {fs:List bQ} {ts:List (Array Value)},CR c fs ts→CR c' fs ts
 | [],[],_=>trivial
 |_::_,_::_,h'=>⟨⟨h'.1.1,fun i x v hx hv=>h x v (h'.1.2 i x v hx hv)⟩,h'.2.1,nt h h'.2.2⟩
theorem Step.cr {c c':Cx} (h:Step c c'):∀ {fs:List bQ} {ts:List (Array Value)},CR c fs ts→CR c' fs ts
 | [],[],_=>trivial
 |_::_,_::_,h'=>⟨h.vs h'.1,h'.2.1,h.cr h'.2.2⟩
def vw (c0 c:Cx) (i:Nat):ae→Prop
 | .cells cs=>(∃ cs',c.heap[i]? = some (.cells cs')∧c.own i=c0.own i∧cs'.length=cs.length)∨c.heap[i]? = some .gone
 | .arr _ ts l=>(∃ g' l',c.heap[i]? = some (.arr g' ts l')∧(0<g'∨g'=0∧l'.length=l.length∧c.own i=c0.own i))∨c.heap[i]? = some .gone
 | .map _=>(∃ du,c.heap[i]? = some (.map du)∧c.own i=c0.own i)∨c.heap[i]? = some .gone
 | .gone=>c.heap[i]? = some .gone
 | .hole=>∃ b,c.heap[i]? = some b
structure Rel (c0 c:Cx):Prop where
 ay:c.ay=c0.ay
 os:c.w.os=c0.w.os
 tape:c.w.tape=c0.w.tape
 output:c.w.output=c0.w.output
 size:c0.w.heap.size≤c.w.heap.size
 keep:∀ b,b<c0.w.heap.size→(∀ i n,c0.own i≠some (b,n))→c.w.heap[b]? = c0.w.heap[b]?
 db:∀ i b n,c.own i=some (b,n)→b<c0.w.heap.size→∃ m,c0.own i=some (b,m)
 boxes:∀ i bx,c0.heap[i]? = some bx→vw c0 c i bx
def s7 (h:List ae):Prop:=∀ (i g:Nat) (ts:Nat × Nat) (l:List DV),h[i]? = some (.arr g ts l)→g=0
theorem Rel.refl (c:Cx) (hf:s7 c.heap):Rel c c:=⟨rfl,rfl,rfl,rfl,Nat.le_refl _,fun _ _ _=>rfl,fun i b n h _=>⟨n,h⟩,fun i bx h=>by
  cases bx with
  |cells cs=>exact .inl ⟨cs,h,rfl,rfl⟩
  |arr g sz l=>exact .inl ⟨g,l,h,.inr ⟨hf i g sz l h,rfl,rfl⟩⟩
  |map es=>exact .inl ⟨es,h,rfl⟩
  |gone=>exact h
  |hole=>exact ⟨_,h⟩⟩
theorem Rel.step {c0 c c':Cx} (h:Rel c0 c) (k:Step c c'):Rel c0 c' where
 ay:=k.ay.trans h.ay
 os:=k.os.trans h.os
 tape:=k.tape.trans h.tape
 output:=k.output.trans h.output
 size:=Nat.le_trans h.size k.size
 keep:=fun x hx hn=>by
  rw [k.keep x (Nat.lt_of_lt_of_le hx h.size) (fun i n hi=>by obtain ⟨m,hj⟩:=h.db i x n hi hx; exact hn i m hj)];exact h.keep x hx hn
 db:=fun i x n hi hx=>by
  obtain ⟨m,hj⟩:=k.db i x n hi (Nat.lt_of_lt_of_le hx h.size);exact h.db i x m hj hx
 boxes:=fun i bx hi=>by
  have h1:=h.boxes i bx hi;cases bx with
  |cells cs =>
   rcases h1 with ⟨cs',h1,h2,h3⟩ | h1
   ·rcases k.boxes i _ h1 with ⟨AI,k1,k2,k3⟩ | k1
    ·exact .inl ⟨AI,k1,k2.trans h2,k3.trans h3⟩
    ·exact .inr k1
   ·exact .inr (k.boxes i _ h1)
  |arr g sz l =>
   rcases h1 with ⟨g',l',h1,h2⟩ | h1
   ·rcases k.boxes i _ h1 with ⟨AJ,AK,k1,k2⟩ | k1
    ·refine .inl ⟨AJ,AK,k1,?_⟩;rcases h2 with h2 | ⟨h2,h3,h4⟩ <;> rcases k2 with k2 | ⟨k2,k3,k4⟩
     ·left; omega
     ·left; omega
     ·left; omega
     ·exact .inr ⟨k2.trans h2,k3.trans h3,k4.trans h4⟩
    ·exact .inr k1
   ·exact .inr (k.boxes i _ h1)
  |map es =>
   rcases h1 with ⟨du,h1,h2⟩ | h1
   ·rcases k.boxes i _ h1 with ⟨AL,k1,k2⟩ | k1
    ·exact .inl ⟨AL,k1,k2.trans h2⟩
    ·exact .inr k1
   ·exact .inr (k.boxes i _ h1)
  |gone=>exact k.boxes i _ h1
  |hole=>obtain ⟨b,h1⟩:=h1; exact (k.boxes i b h1).ex
structure ee (c0 c:Cx):Prop where
 lim:∀ b,c0.ay b→b<c0.w.heap.size
 lO:∀ i p,c0.own i=some p→i<c0.heap.length
 ay:∀ b,c0.ay b→c.ay b
 mC:∀ b,c.ay b→c0.ay b∨c0.w.heap.size≤b
 os:c.w.os=c0.w.os
 tape:c.w.tape=c0.w.tape
 output:c.w.output=c0.w.output
 size:c0.w.heap.size≤c.w.heap.size
 keep:∀ b,b<c0.w.heap.size→(∀ i n,c0.own i≠some (b,n))→c.w.heap[b]? = c0.w.heap[b]?
 db:∀ i b n,c.own i=some (b,n)→b<c0.w.heap.size→∃ m,c0.own i=some (b,m)
 boxes:∀ i bx,c0.heap[i]? = some bx→vw c0 c i bx
theorem Rel.x {c0 c:Cx} (h:Rel c0 c) (hb:∀ b,c0.ay b→b<c0.w.heap.size) (ho:∀ i b n,c0.own i=some (b,n)→b<c0.w.heap.size∧i<c0.heap.length):ee c0 c:=⟨hb,fun i p hp=>(ho i p.1 p.2 hp).2,fun b h'=>by rw [h.ay]; exact h',fun b h'=>by rw [h.ay] at h'; exact .inl h',h.os,h.tape,h.output,h.size,h.keep,h.db,h.boxes⟩
theorem ee.step {c0 c c':Cx} (h:ee c0 c) (k:Step c c'):ee c0 c':=by
 have h1:Rel ({ c0 with ay:=c.ay }) c:=⟨rfl,h.os,h.tape,h.output,h.size,h.keep,h.db,fun i bx hi=>by
  have:=h.boxes i bx hi
  cases bx <;> exact this⟩
 have h2:=h1.step k
 exact ⟨h.lim,h.lO,fun b hb=>by rw [k.ay]; exact h.ay b hb,fun b hb=>by rw [k.ay] at hb; exact h.mC b hb,h2.os,h2.tape,h2.output,h2.size,h2.keep,h2.db,fun i bx hi=>by
  have:=h2.boxes i bx hi
  cases bx <;> exact this⟩
def Cx.pB (c:Cx) (ay:Nat→Prop):Cx:={ c with ay:=ay }
theorem ee.clean {c0 c:Cx} (h:ee c0 c):Rel c0 (c.pB c0.ay):=⟨rfl,h.os,h.tape,h.output,h.size,h.keep,h.db,fun i bx hi=>by
 have:=h.boxes i bx hi
 cases bx <;> exact this⟩
theorem kM {c c':Cx} {i:Nat} {bx:ae} (h1:c.heap[i]? = some bx) (h2:c'.heap[i]? = c.heap[i]?) (h3:c'.own i=c.own i):sM c c' i bx:=by
 rw [h1] at h2;cases bx with
 |cells cs=>exact .inl ⟨cs,h2,h3,rfl⟩
 |arr g sz l=>exact .inl ⟨g,l,h2,.inr ⟨rfl,rfl,h3⟩⟩
 |map es=>exact .inl ⟨es,h2,h3⟩
 |gone=>exact h2
 |hole=>exact ⟨_,h2⟩
theorem iy.gen {c c':Cx} (kj:∀ x v,VR c x v→VR c' x v) (fw:∀ x v,VD c.bad c.w x v→VD c'.bad c'.w x v) {i:Nat} {bx:ae} (hb:iy c i bx) (ho:c'.own i=c.own i) (hw:∀ b n,c.own i=some (b,n)→c'.w.heap[b]? = c.w.heap[b]?):iy c' i bx:=by
 cases bx with
 |cells cs =>
  obtain ⟨blk,cap,vs,ty,h1,h2,h3,h4⟩:=hb;exact ⟨blk,cap,vs,ty,ho.trans h1,(hw blk cap h1).trans h2,h3,fun j x v hx hv=>kj x v (h4 j x v hx hv)⟩
 |arr g ts l =>
  obtain ⟨h0,h1,h2⟩:=hb;refine ⟨h0,h1,?_⟩;rcases h2 with ⟨h2,h3⟩ | ⟨blk,cap,vs,h2,h3,h4,h5,h6,h7⟩
  ·exact .inl ⟨ho.trans h2,h3⟩
  ·refine .inr ⟨blk,cap,vs,ho.trans h2,(hw blk cap h2).trans h3,h4,h5,h6,fun i j e x he hx=>?_⟩;obtain ⟨v,h8,vf,h9⟩:=h7 i j e x he hx;exact ⟨v,h8,vf,fw x v h9⟩
 |map es =>
  obtain ⟨blk,cap,en,ck,h1,h2,h3,h4⟩:=hb;exact ⟨blk,cap,en,ck,ho.trans h1,(hw blk cap h1).trans h2,h3,fun j k x m hx hm=>⟨fw _ _ (h4 j k x m hx hm).1,fw _ _ (h4 j k x m hx hm).2⟩⟩
 |gone=>exact ho.trans hb
 |hole=>exact ho.trans hb
theorem E8 {c:Cx} {ay:Nat→Prop} (hb:∀ b,ay b→c.ay b) (b:Nat) (_:b<c.w.heap.size) (hn:¬ c.bad b):¬ (c.pB ay).bad b∧(c.pB ay).w.heap[b]? = c.w.heap[b]? :=
 ⟨fun h=>hn (h.elim (fun h => .inl (hb b h)) .inr),rfl⟩
theorem Ba {c:Cx} {ay:Nat→Prop} (hb:∀ b,ay b→c.ay b) {x:AV} {v:Value} (hv:VR c x v):VR (c.pB ay) x v:=qE (E8 hb) (fun _ _ hi=>kM hi rfl rfl) hv
theorem aK.pB {G:List (Nat × DV)} {c:Cx} {ay:Nat→Prop} (ho:aK G c) (hb:∀ b,ay b→c.ay b):aK G (c.pB ay) where
 bN:=fun b h=>ho.bN b (hb b h)
 br:=ho.br
 inj:=ho.inj
 sep:=fun i b n hi h=>ho.sep i b n hi (hb b h)
 box:=fun i bx hi=>(ho.box i bx hi).gen (fun _ _=>Ba hb) (fun _ _ hv=>hv.mono (E8 hb)) rfl (fun _ _ _=>rfl)
 fm:=fun g e hg=>Ba hb (ho.fm g e hg)
structure Row where
 blk:Nat
 cap:Nat
 ts:Nat × Nat
 l:List DV
structure nu (lim:Nat) (c:Cx) (r:Row):Prop where
 ay:c.ay r.blk
 new:lim≤r.blk
 pos:0<r.ts.2
 len:∀ (i:Nat) (e:DV),r.l[i]? = some e→e.cells.length=r.ts.2
 mem:∃ vs:Array Value,c.w.heap[r.blk]? = some (.cells vs r.ts.1 (0,0))∧vs.size=r.cap*r.ts.2∧r.l.length≤r.cap∧r.cap≤maxLen ∧
  ∀ (i j:Nat) (e x:DV),r.l[i]? = some e→e.cells[j]? = some x→∃ v,vs[i*r.ts.2+j]? = some v∧v.oneCell'=true∧VD c.bad c.w x v
structure Iter where
 bm:Nat
 r:Nat
 en:Array MapEntry
 ck:Nat
 since:Nat
 seen:List Nat
 es:List (DV × DV)
structure kl (lim:Nat) (c:Cx) (i:Iter):Prop where
 Bb:c.ay i.bm
 vx:c.ay i.r
 E9:lim≤i.r
 map:c.w.heap[i.bm]? = some (.map i.en i.ck)
 iter:∃ c0,i.since≤c0∧(i.seen≠[]→c0=i.ck)∧c.w.heap[i.r]? = some (.mapIter (some i.bm) i.since ((i.seen.map fun j=>((i.en[j]?).map (·.born)).getD 0).toArray) c0)
 old:∀ x∈i.en.toList,x.born<i.since
 dw:lJ i.en i.ck i.es.length
 val:∀ (j:Nat) (k x:DV) (m:MapEntry),i.es[j]? = some (k,x)→i.en[j]? = some m→VD c.bad c.w k m.key∧VD c.bad c.w x m.val
 lt:∀ j∈i.seen,j<i.en.size
structure jh where
 l:Nat
 d:Nat
 st:LoopState
 pe:Option Code
 fn:FuncId
 tm:Array Value
 ps:Array Tmp
 assign:Code
 body:Code
 gr:List AV
def jh.ef (i:jh):Loop:={ state:=i.st,pending:=i.pe,fn:=i.fn,tmps:=i.tm,params:=i.ps,assign:=i.assign,body:=i.body,defers:=i.d }
structure lP (lim:Nat) (c:Cx) (i:jh):Prop where
 ay:c.ay i.l
 new:lim≤i.l
 mem:c.w.heap[i.l]? = some (.loop i.ef)
 gr:VS c i.gr i.tm
structure pC (lim:Nat) (c:Cx) (d:Nat):Prop where
 ay:c.ay d
 new:lim≤d
 mem:c.w.heap[d]? = some (.deferred (some []))
inductive bj where
 |row (r:Row)
 |iter (i:Iter)
 |loop (i:jh)
 |mark (d:Nat)
def bj.cd:bj→List Nat
 | .row r=>[r.blk]
 | .iter i=>[i.bm,i.r]
 | .loop i=>[i.l]
 | .mark d=>[d]
def gz (lim:Nat) (c:Cx):bj→Prop
 | .row r=>nu lim c r
 | .iter i=>kl lim c i
 | .loop i=>lP lim c i
 | .mark d=>pC lim c d
structure fo (lim:Nat) (c:Cx) (rows:List bj):Prop where
 each:∀ r∈rows,gz lim c r
 nodup:(rows.flatMap bj.cd).Nodup
theorem fo.nil {lim:Nat} {c:Cx}:fo lim c []:=⟨fun r hr=>by simp at hr,List.nodup_nil⟩
theorem nu.gen {lim:Nat} {c c':Cx} {r:Row} (h:nu lim c r) (hb:c'.ay r.blk) (hw:c'.w.heap[r.blk]? = c.w.heap[r.blk]?) (fw:∀ x v,VD c.bad c.w x v→VD c'.bad c'.w x v):nu lim c' r:=by
 obtain ⟨h1,h2,h3,h4,vs,h5,h6,h7,h8,h9⟩:=h;exact ⟨hb,h2,h3,h4,vs,hw.trans h5,h6,h7,h8,fun i j e x he hx=>by obtain ⟨v,k1,k2,k3⟩:=h9 i j e x he hx; exact ⟨v,k1,k2,fw x v k3⟩⟩
theorem kl.gen {lim:Nat} {c c':Cx} {i:Iter} (h:kl lim c i) (hb:c'.ay i.bm) (hr:c'.ay i.r) (hw:c'.w.heap[i.bm]? = c.w.heap[i.bm]?) (qR:c'.w.heap[i.r]? = c.w.heap[i.r]?) (fw:∀ x v,VD c.bad c.w x v→VD c'.bad c'.w x v):kl lim c' i:=by
 obtain ⟨h1,h2,h3,h4,h5,h6,h7,h8,h9⟩:=h;exact ⟨hb,hr,h3,hw.trans h4,(by obtain ⟨c0,k1,k0,k2⟩:=h5; exact ⟨c0,k1,k0,qR.trans k2⟩),h6,h7,fun j k x m h1 h2=>⟨fw _ _ (h8 j k x m h1 h2).1,fw _ _ (h8 j k x m h1 h2).2⟩,h9⟩
theorem gz.ay {lim:Nat} {c:Cx}:∀ {g:bj},gz lim c g→∀ b∈g.cd,c.ay b
 | .row r,h,b,hb=>by simp [bj.cd] at hb; subst hb; exact nu.ay h
 | .iter i,h,b,hb=>by simp [bj.cd] at hb; rcases hb with rfl | rfl; exact kl.Bb h; exact kl.vx h
 | .loop i,h,b,hb=>by simp [bj.cd] at hb; subst hb; exact lP.ay h
 | .mark d,h,b,hb=>by simp [bj.cd] at hb; subst hb; exact pC.ay h
theorem gz.gen {lim:Nat} {c c':Cx} {g:bj} (h:gz lim c g) (hb:∀ b∈g.cd,c'.ay b∧c'.w.heap[b]? = c.w.heap[b]?) (fw:∀ x v,VD c.bad c.w x v→VD c'.bad c'.w x v) (kj:∀ x v,VR c x v→VR c' x v):gz lim c' g:=by
 cases g with
 |loop i =>
  obtain ⟨h1,h2,h3,h4⟩:=h;have:=hb i.l (by simp [bj.cd]);exact ⟨this.1,h2,this.2.trans h3,h4.1,fun j x v hx hv=>kj x v (h4.2 j x v hx hv)⟩
 |mark d =>
  obtain ⟨h1,h2,h3⟩:=h;have:=hb d (by simp [bj.cd]);exact ⟨this.1,h2,this.2.trans h3⟩
 |row r=>exact nu.gen h (hb _ (by simp [bj.cd])).1 (hb _ (by simp [bj.cd])).2 fw
 |iter i=>exact kl.gen h (hb i.bm (by simp [bj.cd])).1 (hb i.r (by simp [bj.cd])).1 (hb i.bm (by simp [bj.cd])).2 (hb i.r (by simp [bj.cd])).2 fw
theorem fo.step {G:List (Nat × DV)} {lim:Nat} {c c':Cx} {rows:List bj} (h:fo lim c rows) (ho:aK G c) (st:Step c c'):fo lim c' rows :=
 ⟨fun r hr=>(h.each r hr).gen (fun b hb=>by
  have h1:=(h.each r hr).ay b hb
  exact ⟨by rw [st.ay]; exact h1,st.keep b (ho.bN _ h1) (fun i n hi=>ho.sep i _ n hi h1)⟩) (fun _ _=>st.vd) (fun _ _=>st.vr),h.nodup⟩
def bj.flat:bj→Prop
 | .loop _=>False
 |_=>True
structure dx (lim:Nat) (c:Cx) (rows loops:List bj):Prop where
 all:fo lim c (rows++loops)
 flat:∀ g∈rows,g.flat
theorem dx.nil {lim:Nat} {c:Cx}:dx lim c [] []:=⟨.nil,fun g h=>by simp at h⟩
theorem dx.step {G:List (Nat × DV)} {lim:Nat} {c c':Cx} {rows loops:List bj} (h:dx lim c rows loops) (ho:aK G c) (st:Step c c'):dx lim c' rows loops:=⟨h.all.step ho st,h.flat⟩
structure FX where
 f0:FuncId
 cB:Option Nat
 aG:List Nat
 cls:List bQ
 loops:List bj
 inl:List FuncId
structure cx where
 n:Nat
 Q:AV→List ae→Prop
 rows:List bj
 fx:FX
@[irreducible] def AW (E : Env) (f0 : FuncId) (cur : bQ) (cls : List bQ) (h : List ae) (R : cx) : Prop :=
 ∀ (c0 c:Cx) (t:Array Value) (ts:List (Array Value)),c0.heap.length=R.n→cur.ok→c.heap=h→aK E.G c→ee c0 c→dx c0.w.heap.size c R.rows R.fx.loops→VS c cur.gr t→CR c cls ts→∀ cs,∃ (c':Cx) (fr:Frame) (r:AV) (v:Value),
  R.Q r c'.heap∧VR c' r v∧aK E.G c'∧ee c0 c'∧Steps E.P (lone (cur.bB t) (ez cls ts++cs) c.w) (lone fr cs c'.w)∧fr.fn=f0∧fr.leaving E.P c'.w (.returned v)
def Bc (E:Env) (cur:bQ) (cls:List bQ) (h:List ae) (cur':bQ) (cls':List bQ) (h':List ae):Prop :=
 ∀ (c:Cx) (t:Array Value) (ts:List (Array Value)),cur.ok→c.heap=h→aK E.G c→VS c cur.gr t→CR c cls ts→∃ (c':Cx) (t':Array Value) (dD:List (Array Value)),
  cur'.ok∧c'.heap=h'∧aK E.G c'∧VS c' cur'.gr t'∧CR c' cls' dD∧Step c c'∧∀ cs,Steps E.P (lone (cur.bB t) (ez cls ts++cs) c.w) (lone (cur'.bB t') (ez cls' dD++cs) c'.w)
theorem AW.ji {E:Env} {f0:FuncId} {cur cur':bQ} {cls cls':List bQ} {h h':List ae} {R:cx} (hl:Bc E cur cls h cur' cls' h') (H:AW E f0 cur' cls' h' R):AW E f0 cur cls h R:=by
 unfold AW at H ⊢;intro c0 c t ts h0 h1 h2 h3 hr bE h4 h5 cs;obtain ⟨c',t',dD,k1,k2,k3,k4,k5,k6,k7⟩:=hl c t ts h1 h2 h3 h4 h5;obtain ⟨c2,fr,r,v,e1,e2,e3,e4,e5,e6⟩:=H c0 c' t' dD h0 k1 k2 k3 (hr.step k6) (bE.step h3 k6) k4 k5 cs;exact ⟨c2,fr,r,v,e1,e2,e3,e4,(k7 cs).trans e5,e6⟩
section
variable {E:Env} {f0:FuncId} {ag:gy} {k:List aP} {s:List AV} {cls:List bQ} {h:List ae} {R:cx}
theorem Bc.todo {td Bd:List aP} (aM:(∀ i∈td,i.ok)→∀ i∈Bd,i.ok) (hs:∀ (a:Act) (cs:List Frame) (w:World),step E.P (lone ((bf ag).atR a (td.map aP.bB)) cs w) = .next (lone ((bf ag).atR a (Bd.map aP.bB)) cs w)) :
  Bc E ⟨ag,td,s⟩ cls h ⟨ag,Bd,s⟩ cls h:=fun c t ts h1 h2 h3 h4 h5 =>
 ⟨c,t,ts,aM h1,h2,h3,h4,h5,Step.refl c h3.bN,fun _ => .one (hs _ _ _)⟩
theorem dE {i:aP} (h:∀ j∈i::k,j.ok):∀ j∈k,j.ok:=fun j hj=>h j (List.mem_cons_of_mem _ hj)
theorem s8 {c:Code}:(aP.code c).ok:=trivial
theorem LU {n:Nat}:(aP.inBlock n).ok:=trivial
theorem E' {c:Code}:(aP.inLoop c).ok:=trivial
theorem fy {i:aP} (h:i.ok) (hk:∀ j∈k,j.ok):∀ j∈i::k,j.ok:=fun j hj=>by
 rcases List.mem_cons.1 hj with rfl | hj
 ·exact h
 ·exact hk j hj
theorem AW.skip (H:AW E f0 ⟨ag,k,s⟩ cls h R):AW E f0 ⟨ag,.code .skip::k,s⟩ cls h R := .ji (.todo dE fun _ _ _=>stepR_skip) H
theorem AW.inBlock {id:Nat} (H:AW E f0 ⟨ag,k,s⟩ cls h R):AW E f0 ⟨ag,.inBlock id::k,s⟩ cls h R := .ji (.todo dE fun _ _ _=>stepR_inBlock) H
theorem AW.seq {a b:Code} (H:AW E f0 ⟨ag,.code a :: .code b::k,s⟩ cls h R):AW E f0 ⟨ag,.code (.seq a b)::k,s⟩ cls h R := .ji (.todo (fun h=>fy s8 (fy s8 (dE h))) fun _ _ _=>stepR_seq) H
theorem AW.block {id:Nat} {b:Code} (H:AW E f0 ⟨ag,.code b :: .inBlock id::k,s⟩ cls h R):AW E f0 ⟨ag,.code (.block id b)::k,s⟩ cls h R := .ji (.todo (fun h=>fy s8 (fy LU (dE h))) fun _ _ _=>stepR_block) H
theorem AW.loop {b:Code} (H:AW E f0 ⟨ag,.code b :: .inLoop b::k,s⟩ cls h R):AW E f0 ⟨ag,.code (.loop b)::k,s⟩ cls h R := .ji (.todo (fun h=>fy s8 (fy E' (dE h))) fun _ _ _=>stepR_loop) H
theorem AW.inLoop {b:Code} (H:AW E f0 ⟨ag,.code b :: .inLoop b::k,s⟩ cls h R):AW E f0 ⟨ag,.inLoop b::k,s⟩ cls h R := .ji (.todo (fun h=>fy s8 (fy E' (dE h))) fun _ _ _=>stepR_inLoop) H
theorem AW.region {id:Nat} {ops:Array Oper} (H:AW E f0 ⟨ag,.bo ops ops.toList::k,s⟩ cls h R):AW E f0 ⟨ag,.code (.region id ops false)::k,s⟩ cls h R :=
 .ji (.todo (fun h=>fy (i := .bo ops ops.toList) ⟨0,by simp,by simp⟩ (dE h)) fun a cs w=>by
  rw [List.map_cons,List.map_cons];simp only [aP.bB];rw [stepR_region]
  simp) H
theorem AW.LV {ops:Array Oper} (H:AW E f0 ⟨ag,k,s⟩ cls h R):AW E f0 ⟨ag,.bo ops []::k,s⟩ cls h R :=
 .ji (.todo dE fun a cs w=>by
  rw [List.map_cons];simp only [aP.bB,List.length_nil,Nat.sub_zero]
  rw [List.drop_of_length_le (by simp),stepR_region_end]) H
def kN (id:Nat):List aP→Option (List aP)
 | .inBlock i::r=>match Nat.beq i id with
  |true=>some r
  |false=>kN id r
 |_::r=>kN id r
 | []=>none
theorem qS {id:Nat}:∀ {l r:List aP},kN id l=some r→exitTo id (l.map aP.bB)=some (r.map aP.bB)
 | .inBlock i::l,r,hl=>by
  simp only [kN] at hl;simp only [List.map_cons,aP.bB,exitTo];split at hl
  ·rename_i q; cases hl; rw [if_pos (by simpa using Nat.eq_of_beq_eq_true q)]
  ·rename_i q
   rw [if_neg (by intro hh; have : i = id := by simpa using hh
                  rw [this, Nat.beq_refl] at q; cases q)]
   exact qS hl
 | .code c::l,r,hl=>qS (l:=l) hl
 | .inLoop c::l,r,hl=>qS (l:=l) hl
 | .nr c::l,r,hl=>qS (l:=l) hl
 | .oo::l,r,hl=>qS (l:=l) hl
 | .bo ops q::l,r,hl=>qS (l:=l) hl
theorem qT {id:Nat}:∀ {l r:List aP},kN id l=some r→(∀ i∈l,i.ok)→∀ i∈r,i.ok
 | .inBlock i::l,r,hl,hk=>by
  simp only [kN] at hl;split at hl
  ·cases hl; exact dE hk
  ·exact qT hl (dE hk)
 | .code c::l,r,hl,hk=>qT (l:=l) hl (dE hk)
 | .inLoop c::l,r,hl,hk=>qT (l:=l) hl (dE hk)
 | .nr c::l,r,hl,hk=>qT (l:=l) hl (dE hk)
 | .oo::l,r,hl,hk=>qT (l:=l) hl (dE hk)
 | .bo ops q::l,r,hl,hk=>qT (l:=l) hl (dE hk)
theorem AW.exit {id:Nat} {r:List aP} (hr:kN id k=some r) (H:AW E f0 ⟨ag,r,s⟩ cls h R):AW E f0 ⟨ag,.code (.exit id)::k,s⟩ cls h R :=
 .ji (.todo (fun h=>qT hr (dE h)) fun _ _ _=>stepR_exit (qS hr)) H
theorem AW.cond {x:Operand} {a b:Code} {t:Bool} (hx:aZ E.G s x (.d (.bool t))) (H:AW E f0 ⟨ag,.code (if t then a else b)::k,s⟩ cls h R):AW E f0 ⟨ag,.code (.cond x a b)::k,s⟩ cls h R :=
 .ji (cur':=⟨ag,.code (if t then a else b)::k,s⟩) (cls':=cls) (h':=h) (fun c t' ts h1 h2 h3 h4 h5=>⟨c,t',ts,fy s8 (dE h1),h2,h3,h4,h5,Step.refl c h3.bN,fun _ => .one (stepR_cond (qL (hx c ⟨t',marks ag.aG⟩ h3 h4)))⟩) H
theorem kO {ops:Array Oper} {o:Oper} {l:List Oper} (hk:(aP.bo ops (o::l)).ok):∃ i,ops[i]? = some o∧(aP.bo ops (o::l)).bB = .inRegion ops (i::(List.range ops.size).drop (ops.size - l.length))∧(aP.bo ops l).ok:=by
 obtain ⟨n,h1,h2⟩:=hk;have h3:(ops.toList.drop n).length=l.length+1:=by rw [← h2]; rfl
 have h4:ops.size - n=l.length+1:=by simpa using h3
 have hn:n<ops.size:=by omega
 refine ⟨n,?_,?_,n+1,by omega,?_⟩
 ·have:=congrArg (·[0]?) h2;simp at this
  simpa using this.symm
 ·simp only [aP.bB,List.length_cons]
  congr 1
  rw [show ops.size - (l.length+1)=n by omega,show ops.size - l.length=n+1 by omega];rw [List.drop_eq_getElem_cons (by simpa using hn)];simp
 ·have:=congrArg List.tail h2
  simpa using this
theorem pD {P:Program} {o:Oper} {ρ : Operand→Value} {ro:Option Nat} {w w':World} {n:Next} (h:(execOp ρ o).run P w = .ok n w') (hn:∀ d,n ≠ .defer d):(o.semAt ro ρ).run P w = .ok n w':=by
 rw [Oper.semAt_eq]
 ·exact h
 ·intro c hc;simp only [execOp,hc,Sem.run_bind] at h;cases hr:(resolve ρ c o.type).run P w with
  |ok d w1 =>
   rw [hr] at h;simp only [Result.andThen_ok,Sem.run_pure] at h;cases h;exact hn d rfl
  |halt a b=>rw [hr] at h; cases h
theorem s9 {P:Program} {b:Frame} {a:Act} {k:List Item} {cs:List Frame} {w w':World} {ops:Array Oper} {i:Nat} {rest:List Nat} {o:Oper} {v:Value} (ho:ops[i]? = some o) (hw:Region.wanted o (yielded ops a.tmps)=true) (hd:EW P o a w v w') :
  step P (lone (b.atR a (.inRegion ops (i::rest)::k)) cs w) = .next (lone (b.atR (a.put o.dst v) (.inRegion ops rest::k)) cs w'):=by
 have hg:=stepGR_op (P:=P) (b:=b) (k:=k) (cs:=cs) (w:=w) (rest:=rest) ho hw;have jk:∀ v,(b.atR a (.inRegion ops (i::rest)::k)).finish v=b.atR (a.put o.dst v) (.inRegion ops rest::k):=by
  intro v; rw [Frame.finish_atR,ho]; rfl
 rcases hd with hr | ⟨hr,rfl⟩
 ·exact step_lone_go (by rw [hg,← jk]; simp [stepG.apply,pD hr])
 ·exact step_lone_go (by rw [hg,← jk]; simp [stepG.apply,pD hr])
def bX (s:List AV) (d:Option Nat) (v:AV):List AV:=match d with
 |some d=>s.set d v
 |none=>s
theorem dN {α:Sort _} (s:List AV) (d:Option Nat) (v:AV) (k:List AV→α):cb s d v k=k (bX s d v):=by
 cases d with
 |none=>rfl
 |some d=>simp only [cb,fQ,bX]
theorem VS.bX {c:Cx} {a:Act} (hs:VS c s a.tmps) (d:Option Nat) {x:AV} {v:Value} (hv:VR c x v):VS c (bX s d x) (a.put d v).tmps:=by
 cases d with
 |none=>exact hs
 |some d=>exact hs.put d hv
theorem put_defers (a:Act) (d:Option Nat) (v:Value):(a.put d v)=⟨(a.put d v).tmps,a.defers⟩:=by cases d <;> rfl
def iB (ops:Array Oper) (o:Oper) (s:List AV) (b:Bool):Prop:=∀ (c:Cx) (t:Array Value),VS c s t→Region.wanted o (yielded ops t)=b
theorem fR {ops:Array Oper} {o:Oper} (h:o.guard=none):iB ops o s true:=fun _ _ _=>by simp [Region.wanted,h]
theorem Be {ops:Array Oper} {o oj:Oper} {j d:Nat} {g b:Bool} (h:o.guard=some (j,g)) (hj:ops.toList[j]? = some oj) (hd:oj.dst=some d) (hs:s[d]? = some (.d (.bool b))):iB ops o s (b==g):=fun c t hv=>by
 have gC:d<t.size:=by
  rw [← hv.1];rcases Nat.lt_or_ge d s.length with h | h
  ·exact h
  ·rw [List.getElem?_eq_none h] at hs; cases hs
 have ht:t[d]? = some (.bool b):=by
  rw [Array.getElem?_eq_getElem gC,qL (hv.2 d _ _ hs (Array.getElem?_eq_getElem gC))]
 have dW:ops[j]? = some oj:=by simpa using hj
 simp only [Region.wanted,h,yielded,dW,hd,Option.bind_some,ht];cases b <;> cases g <;> rfl
theorem Fa {ops:Array Oper} {o oj:Oper} {j d:Nat} {g:Bool} (h:o.guard=some (j,g)) (hj:ops.toList[j]? = some oj) (hd:oj.dst=some d) (hs:s[d]? = some (.d .undef)):iB ops o s false:=fun c t hv=>by
 have gC:d<t.size:=by
  rw [← hv.1];rcases Nat.lt_or_ge d s.length with h | h
  ·exact h
  ·rw [List.getElem?_eq_none h] at hs; cases hs
 have ht:t[d]? = some Go.undef:=by
  have:=hv.2 d _ _ hs (Array.getElem?_eq_getElem gC);rw [Array.getElem?_eq_getElem gC];generalize t[d]=u at this;cases this with
  |d _ _ hx=>cases hx; rfl
 have dW:ops[j]? = some oj:=by simpa using hj
 simp only [Region.wanted,h,yielded,dW,hd,Option.bind_some,ht];rfl
theorem AW.op {ops:Array Oper} {o:Oper} {l:List Oper} {v:AV} {h':List ae} (hw:iB ops o s true) (ho:bC E o.op s h v h') (H:AW E f0 ⟨ag,.bo ops l::k,bX s o.dst v⟩ cls h' R):AW E f0 ⟨ag,.bo ops (o::l)::k,s⟩ cls h R :=
 .ji (fun c t ts h1 h2 h3 h4 h5=>by
  obtain ⟨i,hi,hc,aM⟩:=kO (h1 _ (List.mem_cons_self ..));obtain ⟨c',u,k1,k2,k3,k4,k5⟩:=ho o c ⟨t,marks ag.aG⟩ rfl h2 h3 h4;refine ⟨c',((⟨t,marks ag.aG⟩:Act).put o.dst u).tmps,ts,fy aM (dE h1),k2,k3,VS.bX (a:=⟨t,marks ag.aG⟩) (k5.vs h4) o.dst k4,k5.cr h5,k5,fun cs => .one ?_⟩;simp only [bQ.bB,List.map_cons,hc];rw [s9 hi (hw c t h4) k1,put_defers]
  rfl) H
theorem AW.Fb {ops:Array Oper} {o:Oper} {l:List Oper} (hw:iB ops o s false) (H:AW E f0 ⟨ag,.bo ops l::k,bX s o.dst (.d .undef)⟩ cls h R):AW E f0 ⟨ag,.bo ops (o::l)::k,s⟩ cls h R :=
 .ji (fun c t ts h1 h2 h3 h4 h5=>by
  obtain ⟨i,hi,hc,aM⟩:=kO (h1 _ (List.mem_cons_self ..));refine ⟨c,((⟨t,marks ag.aG⟩:Act).put o.dst Go.undef).tmps,ts,fy aM (dE h1),h2,h3,VS.bX (a:=⟨t,marks ag.aG⟩) h4 o.dst (.d _ _ .undef),h5,Step.refl c h3.bN,fun cs => .one ?_⟩;simp only [bQ.bB,List.map_cons,hc];rw [stepR_op_skip (by simp [hi]; exact hw c t h4)];simp only [hi,Option.bind_some];rw [put_defers]
  rfl) H
end
end Go.ax
end
section
namespace Go.ax
open Go Go.RowKit
def iC (bad:Nat→Prop) (w:World) (l:List DV) (vs:List Value):Prop:=l.length=vs.length∧∀ (j:Nat) (x:DV) (v:Value),l[j]? = some x→vs[j]? = some v→VD bad w x v
def qU (G:List (Nat × DV)) (ay:Nat→Prop) (w:World):Prop:=∀ g e,(g,e)∈G→VR ⟨fun _=>none,[],ay,w⟩ (.bJ e 0) (.pointer (some ⟨g,0,none⟩))
def qV (P : Program) (f : FuncId) : Prop := ∃ fn, P.funcs[f]? = some fn ∧ fn.body.isNone = false ∧ (fn.name == "runtime.NumGoroutine") = false
@[irreducible] def aq (E : Env) (f : FuncId) (args : List DV) (R : DV → Prop) : Prop :=
 qV E.P f∧∀ (ay:Nat→Prop) (w:World) (vs:List Value),(∀ b,ay b→b<w.heap.size)→qU E.G ay w→iC ay w args vs →
  Calls E.P f vs.toArray w fun e w'=>∃ v r,e = .returned v∧R r∧VD ay w' r v∧Proofs.YtfmdaiojokniiaaGreatDoor.Ext w w'
theorem ta {ay:Nat→Prop} {w:World} {h:List ae} {b:Nat}:(⟨fun _=>none,h,ay,w⟩:Cx).bad b↔ay b :=
 ⟨fun hb=>hb.elim id (fun ⟨_,_,h⟩=>(by cases h)),.inl⟩
theorem tc {ay:Nat→Prop} {w:World} {h:List ae} {x:DV} {v:Value} (hv:VD ay w x v):VD (⟨fun _=>none,h,ay,w⟩:Cx).bad w x v :=
 hv.mono fun _ _ hn=>⟨fun hb=>hn (ta.1 hb),rfl⟩
theorem aq.mono {E:Env} {f:FuncId} {args:List DV} {R R':DV→Prop} (H:aq E f args R) (hr:∀ r,R r→R' r):aq E f args R':=by
 unfold aq at H ⊢;exact ⟨H.1,fun ay w vs h1 h2 h3=>(H.2 ay w vs h1 h2 h3).mono fun e w' ⟨v,r,k1,k2,k3,k4⟩=>⟨v,r,k1,hr r k2,k3,k4⟩⟩
def lQ (args:List AV) (n:Nat):List AV:=args++List.replicate (n - args.length) (.d .undef)
theorem Bf {c:Cx} {args:List AV} {vs:List Value} (n:Nat) (hv:VL c args vs):VS c (lQ args n) (vs.toArray++Array.replicate (n - vs.toArray.size) undef):=by
 have hl:=hv.1;refine ⟨by simp [lQ,hl],fun i x v hx hu=>?_⟩;simp only [lQ] at hx;rcases Nat.lt_or_ge i args.length with hi | hi
 ·rw [List.getElem?_append_left hi] at hx;rw [Array.getElem?_append_left (by simp; omega)] at hu;exact hv.2 i x v hx (by simpa using hu)
 ·rw [List.getElem?_append_right hi,List.getElem?_replicate] at hx;rw [Array.getElem?_append_right (by simp; omega)] at hu;split at hx
  ·cases hx;simp [Array.getElem?_replicate] at hu;obtain ⟨-,rfl⟩:=hu;exact .d _ _ .undef
  ·cases hx
section
variable {E:Env} {f0:FuncId} {ag:gy} {k:List aP} {s:List AV} {cls:List bQ} {h:List ae} {R:cx}
theorem Rel.ext {c0 c:Cx} (h:Rel c0 c) (hn:∀ i,c0.own i=none):Proofs.YtfmdaiojokniiaaGreatDoor.Ext c0.w c.w:=⟨h.os,h.tape,h.output,h.size,fun b hb=>h.keep b hb (fun i n hi=>by rw [hn i] at hi; cases hi)⟩
@[irreducible] def aw (E : Env) (f : FuncId) (h : List ae) (args : List AV) (Q : AV → List ae → Prop) : Prop :=
 qV E.P f∧s7 h∧∀ (c:Cx) (vs:List Value),c.heap=h→aK E.G c→VL c args vs →
  Calls E.P f vs.toArray c.w fun e w'=>∃ (c':Cx) (r:AV) (v:Value),e = .returned v∧c'.w=w'∧Q r c'.heap∧VR c' r v∧aK E.G c'∧Rel c c'
theorem aw.mono {E:Env} {f:FuncId} {h:List ae} {args:List AV} {Q Q':AV→List ae→Prop} (H:aw E f h args Q) (hq:∀ r h,Q r h→Q' r h):aw E f h args Q':=by
 unfold aw at H ⊢;exact ⟨H.1,H.2.1,fun c vs h1 h2 h3=>(H.2.2 c vs h1 h2 h3).mono fun e w' ⟨c',r,v,k1,k2,k3,k4⟩=>⟨c',r,v,k1,k2,hq _ _ k3,k4⟩⟩
theorem aw.Fc {f : FuncId} {fn : Func} {body : Code} {args : List AV} {Q : AV → List ae → Prop} (hf : E.P.funcs[f]? = some fn) (hb : fn.body = some body) (hn : (fn.name == "runtime.NumGoroutine") = false) (lR : s7 h)
  (H:AW E f ⟨⟨f,none,[]⟩,[.code body],lQ args fn.ntmps⟩ [] h ⟨h.length,Q,[],⟨f,none,[],[],[],[]⟩⟩):aw E f h args Q:=by
 unfold AW at H;unfold aw;refine ⟨⟨fn,hf,by rw [hb]; rfl,hn⟩,lR,fun c vs h1 h2 h3=>?_⟩;intro cs;obtain ⟨c',fr,r,v,e1,e2,e3,e4,e5,e6,e7⟩:=H c c _ [] (by rw [h1]) (fun i hi=>by simp at hi; subst hi; trivial) h1 h2 ((Rel.refl c (by rw [h1]; exact lR)).x h2.bN h2.br) .nil (Bf fn.ntmps h3) trivial cs;refine ⟨.returned v,c'.w,fr,⟨c'.pB c.ay,r,v,rfl,rfl,e1,Ba e4.ay e2,e3.pB e4.ay,e4.clean⟩,?_,e6,e7⟩;have LW:Frame.enter E.P f vs.toArray .normal=(⟨⟨f,none,[]⟩,[.code body],lQ args fn.ntmps⟩:bQ).bB (vs.toArray++Array.replicate (fn.ntmps - vs.toArray.size) undef):=by
  simp [Frame.enter,bQ.bB,Frame.atR,hf,hb,bf,aP.bB,marks]
 show Steps E.P _ _;rw [LW];exact e5
theorem vy {P:Program} {o:Oper} {a:Act} {w:World} {fx:Operand} {args:Array Operand} {ts:Array TypeId} {f:FuncId} {v1 v2:Array Value} (h1:o.op = .call { callee := .value fx,args:=args,argTypes:=ts }) (hf:a.eval fx = .func (.func f) v1 v2) (hb:qV P f) :
  (execOp a.eval o).run P w = .ok (.enter f (v1++args.map a.eval++v2)) w:=by
 obtain ⟨fn,g1,g2,g3⟩:=hb;simp only [execOp,h1,resolve,hf,Deferred.ofValue,invoke,callFunc,Sem.run_bind,Sem.run_pure,Result.andThen_ok,program,Sem.run,g1,g3,g2,Bool.false_eq_true,if_false]
theorem Bg {P:Program} {b:Frame} {a:Act} {k:List Item} {cs:List Frame} {w:World} {ops:Array Oper} {i:Nat} {rest:List Nat} {o:Oper} {f:FuncId} {args:Array Value} (ho:ops[i]? = some o) (hw:Region.wanted o (yielded ops a.tmps)=true)
  (hr:(execOp a.eval o).run P w = .ok (.enter f args) w) :
  step P (lone (b.atR a (.inRegion ops (i::rest)::k)) cs w) = .next (lone (Frame.enter P f args .normal) (b.atR a (.inRegion ops (i::rest)::k)::cs) w):=by
 have hg:=stepGR_op (P:=P) (b:=b) (k:=k) (cs:=cs) (w:=w) (rest:=rest) ho hw;have qW:=pD (ro:=b.roundOf) hr (by simp);exact step_lone_go (by rw [hg]; simp [stepG.apply,qW,Frame.atR])
theorem km {c:Cx} {f:Fn} {a1 a2:List AV} {v:Value} (hv:VR c (.fn f a1 a2) v):∃ v1 v2:List Value,v = .func f v1.toArray v2.toArray∧VL c a1 v1∧VL c a2 v2:=by
 cases hv with
 |fn _ _ _ v1 v2 h1 h2 h3 h4=>exact ⟨v1.toList,v2.toList,by simp,⟨by simpa using h1,fun j x v hx hu=>h3 j x v hx (by simpa using hu)⟩,⟨by simpa using h2,fun j x v hx hu=>h4 j x v hx (by simpa using hu)⟩⟩
theorem VL.append {c:Cx} {a1 a2:List AV} {v1 v2:List Value} (h1:VL c a1 v1) (h2:VL c a2 v2):VL c (a1++a2) (v1++v2):=by
 refine ⟨by simp [h1.1,h2.1],fun j x v hx hv=>?_⟩;rcases Nat.lt_or_ge j a1.length with hj | hj
 ·rw [List.getElem?_append_left hj] at hx;rw [List.getElem?_append_left (by rw [← h1.1]; exact hj)] at hv;exact h1.2 j x v hx hv
 ·rw [List.getElem?_append_right hj] at hx;rw [List.getElem?_append_right (by rw [← h1.1]; exact hj),← h1.1] at hv;exact h2.2 _ x v hx hv
theorem AW.call {ops:Array Oper} {o:Oper} {l:List Oper} {fx:Operand} {args:Array Operand} {ts:Array TypeId} {f:FuncId} {a1 a2 av:List AV} {ds:List DV} {R1:DV→Prop} (hw:iB ops o s true) (ho:o.op = .call { callee := .value fx,args:=args,argTypes:=ts })
  (hf:aZ E.G s fx (.fn (.func f) a1 a2)) (ha:hY E.G s args.toList av) (hd:a1++av++a2=ds.map .d) (hc:aq E f ds R1)
  (H:∀ r,R1 r→AW E f0 ⟨ag,.bo ops l::k,bX s o.dst (.d r)⟩ cls h R):AW E f0 ⟨ag,.bo ops (o::l)::k,s⟩ cls h R:=by
 unfold AW at H ⊢;unfold aq at hc;intro c0 c t ts h0 h1 h2 h3 hr bE h4 h5 cs;obtain ⟨i,hi,dy,aM⟩:=kO (h1 _ (List.mem_cons_self ..));obtain ⟨v1,v2,e1,e2,e3⟩:=km (hf c ⟨t,marks ag.aG⟩ h3 h4);have e4:=ha c ⟨t,marks ag.aG⟩ h3 h4;have e5:=(e2.append e4).append e3;rw [hd] at e5;have vz:∀ b,c.bad b→b<c.w.heap.size:=fun b hb=>hb.elim (h3.bN b) fun ⟨j,n,hj⟩=>(h3.br j b n hj).1;have Bh:qU E.G c.bad c.w:=fun g e hg=>by
  have hp:∀ p,VR c (.bJ e 0) p→VR ⟨fun _=>none,[],c.bad,c.w⟩ (.bJ e 0) p:=fun p hp=>by
   cases hp with
   |bJ _ _ blk o' fv k1 k2 k3 k4=>exact .bJ _ _ blk o' fv (fun hb=>k1 (ta.1 hb)) k2 k3 (fun j x hx=>tc (k4 j x hx))
  exact hp _ (h3.fm g e hg)
 obtain ⟨e,w',fr,⟨v,r,rfl,hR,hv,hx⟩,Bi,Bj,Bk⟩:=hc.2 c.bad c.w _ vz Bh ⟨by simpa using e5.1,e5.nj⟩ ((bf ag).atR ⟨t,marks ag.aG⟩ (.inRegion ops (i::(List.range ops.size).drop (ops.size - l.length))::k.map aP.bB)::(ez cls ts++cs));obtain ⟨k1,k2⟩:=h3.grow hx;have iD:VS (c.dL w') (bX s o.dst (.d r)) ((⟨t,marks ag.aG⟩:Act).put o.dst v).tmps:=VS.bX (a:=⟨t,marks ag.aG⟩) (k2.vs h4) o.dst (.d _ _ hv);obtain ⟨c2,qX,r2,u2,q1,q2,q3,vA,q4,q5,q6⟩:=H r hR c0 (c.dL w') _ ts h0 (fy aM (dE h1)) h2 k1 (hr.step k2) (bE.step h3 k2) iD (k2.cr h5) cs;refine ⟨c2,qX,r2,u2,q1,q2,q3,vA,?_,q5,q6⟩;have cq:=vy (P:=E.P) (w:=c.w) (a:=⟨t,marks ag.aG⟩) ho e1 hc.1;have iE:(v1.toArray++args.map (⟨t,marks ag.aG⟩:Act).eval++v2.toArray)=(v1++args.toList.map (⟨t,marks ag.aG⟩:Act).eval++v2).toArray:=by
  apply Array.ext';simp
 rw [iE] at cq;have s1:=Bg (P:=E.P) (b:=bf ag) (k:=k.map aP.bB) (cs:=ez cls ts++cs) (rest:=(List.range ops.size).drop (ops.size - l.length)) hi (hw c t h4) cq;have s2:=step_leave_returned (c:=(bf ag).atR ⟨t,marks ag.aG⟩ (.inRegion ops (i::(List.range ops.size).drop (ops.size - l.length))::k.map aP.bB)) (cs:=ez cls ts++cs) Bk;rw [Frame.finish_atR,hi] at s2;have Bl:(⟨ag,.bo ops (o::l)::k,s⟩:bQ).bB t=(bf ag).atR ⟨t,marks ag.aG⟩ (.inRegion ops (i::(List.range ops.size).drop (ops.size - l.length))::k.map aP.bB):=by
  simp only [bQ.bB,List.map_cons,dy]
 rw [Bl];refine .head s1 (Steps.trans Bi (.head s2 ?_));have aE:(bf ag).atR ((⟨t,marks ag.aG⟩:Act).put ((some o).bind (·.dst)) v) (.inRegion ops ((List.range ops.size).drop (ops.size - l.length))::k.map aP.bB)=(⟨ag,.bo ops l::k,bX s o.dst (.d r)⟩:bQ).bB ((⟨t,marks ag.aG⟩:Act).put o.dst v).tmps:=by
  simp only [bQ.bB,List.map_cons,aP.bB,Option.bind_some];rw [put_defers]
 rw [aE];exact q4
end
end Go.ax
end
section
namespace Go.ax
open Go Go.RowKit
section
variable {E:Env} {f0 ag:FuncId} {k:List aP} {s:List AV} {cls:List bQ} {h:List ae} {R:cx}
def te (G:List (Nat × DV)) (h:List ae) (x:AV) (r:DV):Prop:=∀ (c:Cx) (v:Value),aK G c→c.heap=h→VR c x v→VD c.ay c.w r v
theorem Fe {c:Cx} {x:DV} {v:Value} (hv:VD c.bad c.w x v):VD c.ay c.w x v:=hv.mono fun _ _ hn=>⟨fun hb=>hn (.inl hb),rfl⟩
theorem LX {G:List (Nat × DV)} (x:DV):te G h (.d x) x:=fun c v _ _ hv=>by cases hv with | d _ _ hv=>exact Fe hv
theorem LY {G:List (Nat × DV)} {b g:Nat} {ts:Nat × Nat} {l:List DV} (hb:h[b]? = some (.arr g ts l)):te G h (.own b g) (.sl l):=fun c v ho hh hv=>by
 subst hh;obtain ⟨q0,q1,q2⟩:=ho.box b _ hb;cases hv with
 |own _ _ _ l' blk cap k1 k2 =>
  rw [hb] at k1; cases k1;rcases q2 with ⟨q2,-⟩ | ⟨je,iz,vs,q2,q3,q4,q5,q6,q7⟩
  ·rw [k2] at q2; cases q2
  ·rw [k2] at q2; cases q2;have bE:=kL q3;refine .sl l blk 0 cap ts.2 (fun i j=>vs.toList.getD (i*ts.2+j) undef) (fun _=>ho.sep b blk cap k2) q0 q5 q1 (fun i j e x he hx=>?_) (fun i j e x he hx=>?_) (fun i j e x he hx=>?_)
   ·obtain ⟨v,g1,-,g2⟩:=q7 i j e x he hx;rw [bE (i*ts.2+j) v (by simpa using g1)];simp [List.getD,g1]
   ·obtain ⟨v,g1,-,g2⟩:=q7 i j e x he hx;simp only [List.getD,Array.getElem?_toList,g1,Option.getD_some];exact Fe g2
   ·obtain ⟨v,g1,g2,-⟩:=q7 i j e x he hx;simp only [List.getD,Array.getElem?_toList,g1,Option.getD_some];exact g2
 |gj _ _ _ k1 k2=>rw [hb] at k1; cases k1; exact .slnil
 |jd _ _ g' _ _ _ k1 k2 _=>rw [hb] at k1; cases k1; omega
 |ix _ _ _ k1 _=>rw [hb] at k1; cases k1
 |kK _ _ _ _ _ _ k1 _ _=>rw [hb] at k1; cases k1
def yl {α:Sort _} (h:List ae) (x:AV) (stop:α) (k:DV→α):α :=
 match x with
 | .d x=>k x
 | .own b g=>aO h b stop fun
  | .arr g' _ l=>match Nat.beq g g' with
   |true=>k (.sl l)
   |false=>stop
  |_=>stop
 |_=>stop
theorem Ff {G:List (Nat × DV)} {x:AV} {stop:Prop} {k:DV→Prop} (H:yl h x stop k):stop∨∃ r,te G h x r∧k r:=by
 unfold yl at H;split at H
 ·exact .inr ⟨_,LX _,H⟩
 ·rcases a8 H with h | ⟨bx,hb,H⟩
  ·exact .inl h
  split at H
  ·split at H
   ·rename_i q;have:=Nat.eq_of_beq_eq_true q;subst this;exact .inr ⟨_,LY hb,H⟩
   ·exact .inl H
  ·exact .inl H
 ·exact .inl H
def vB {α:Sort _} (d:AV→α→(DV→α)→α):List AV→(stop:α)→(List DV→α)→α
 | [],_,k=>k []
 |x::l,stop,k=>d x stop fun r=>vB d l stop fun l'=>k (r::l')
def LZ (G:List (Nat × DV)) (h:List ae) (l:List AV) (r:List DV):Prop:=∀ (c:Cx) (vs:List Value),aK G c→c.heap=h→VL c l vs→iC c.ay c.w r vs
theorem Bm {G:List (Nat × DV)} {d:AV→Prop→(DV→Prop)→Prop} (hd:∀ {x:AV} {stop:Prop} {k:DV→Prop},d x stop k→stop∨∃ r,te G h x r∧k r) {stop:Prop}:∀ {l:List AV} {k:List DV→Prop},vB d l stop k→stop∨∃ r,LZ G h l r∧k r
 | [],k,H => .inr ⟨[],fun c vs _ _ hv=>⟨by simpa using hv.1,fun j x v hx=>by simp at hx⟩,H⟩
 |x::l,k,H=>by
  simp only [vB] at H;rcases hd H with h | ⟨r,hr,H⟩
  ·exact .inl h
  rcases Bm hd H with h | ⟨rs,L0,H⟩
  ·exact .inl h
  refine .inr ⟨r::rs,fun c vs h1 h2 hv=>?_,H⟩;cases vs with
  |nil=>have:=hv.1; simp at this
  |cons v vs =>
   obtain ⟨g1,g2⟩:=hv.head;have g3:=L0 c vs h1 h2 g2;refine ⟨by simp [g3.1],fun j y u hy hu=>?_⟩;cases j with
   |zero=>simp at hy hu; subst hy; subst hu; exact hr c v h1 h2 g1
   |succ j=>exact g3.2 j y u (by simpa using hy) (by simpa using hu)
def ym {α:Sort _} (h:List ae) (x:AV) (stop:α) (k:DV→α):α :=
 match x with
 | .agg l=>vB (yl h) l stop fun r=>k (.agg r)
 |x=>yl h x stop k
theorem Fg {G:List (Nat × DV)} {x:AV} {stop:Prop} {k:DV→Prop} (H:ym h x stop k):stop∨∃ r,te G h x r∧k r:=by
 unfold ym at H;split at H
 ·rcases Bm (G:=G) (h:=h) Ff H with h | ⟨r,hr,H⟩
  ·exact .inl h
  refine .inr ⟨_,fun c v h1 h2 hv=>?_,H⟩;obtain ⟨vs,rfl,gm⟩:=nk hv;have:=hr c vs h1 h2 gm;exact .agg _ _ (by simpa using this.1) fun j x v hx hu=>this.2 j x v hx (by simpa using hu)
 ·exact Ff H
def tf {α:Sort _} (T:List bk) (s:List AV) (h:List ae):List ResultVar→(stop:α)→(List AV→α)→α
 | [],_,k=>k []
 | .tmp t::l,stop,k=>aO s t stop fun v=>tf T s h l stop fun l'=>k (v::l')
 | .cell a t::l,stop,k=>aO T t stop fun i=>aO s a stop fun
  | .ptr b off=>aO h b stop fun
   | .cells c=>jC i c off stop fun v=>tf T s h l stop fun l'=>k (v::l')
   |_=>stop
  |_=>stop
def qY (t:Array Value):ResultVar→Sem Value
 | .tmp t'=>pure (t.getD t' undef)
 | .cell a t'=>do loadVar t' (← asAddr (t.getD a undef))
theorem yn (hE:E.OK) {stop:Prop}:∀ {l:List ResultVar} {k:List AV→Prop},tf E.T s h l stop k→stop∨∃ r,k r∧∀ (c:Cx) (t:Array Value),c.heap=h→aK E.G c→VS c s t→∃ vs:List Value,VL c r vs∧(l.mapM (qY t)).run E.P c.w = .ok vs c.w
 | [],k,H => .inr ⟨[],H,fun c t _ _ hs=>⟨[],.nil,by simp⟩⟩
 | .tmp n::l,k,H=>by
  simp only [tf] at H;rcases a8 H with h | ⟨x,hx,H⟩
  ·exact .inl h
  rcases yn hE H with h | ⟨r,hk,hr⟩
  ·exact .inl h
  refine .inr ⟨x::r,hk,fun c t hc ho hs=>?_⟩;obtain ⟨vs,h1,h2⟩:=hr c t hc ho hs;have hl:n<t.size:=by
   rw [← hs.1];rcases Nat.lt_or_ge n s.length with h | h
   ·exact h
   ·rw [List.getElem?_eq_none h] at hx; cases hx
  refine ⟨t[n]::vs,.cons (hs.2 n x _ hx (by simp [hl])) h1,?_⟩;rw [List.mapM_cons];simp only [qY,Sem.run_bind,Sem.run_pure,Result.andThen_ok,h2];simp [hl]
 | .cell a ty::l,k,H=>by
  simp only [tf] at H;rcases a8 H with h | ⟨i,hi,H⟩
  ·exact .inl h
  rcases a8 H with h | ⟨x,hx,H⟩
  ·exact .inl h
  split at H
  ·rename_i b off;rcases a8 H with h1 | ⟨bx,hb,H⟩
   ·exact .inl h1
   split at H
   ·rename_i cs;rcases yd H with h1 | ⟨v,H,hp⟩
    ·exact .inl h1
    rcases yn hE H with h | ⟨r,hk,hr⟩
    ·exact .inl h
    refine .inr ⟨v::r,hk,fun c t hc ho hs=>?_⟩;obtain ⟨vs,h1,h2⟩:=hr c t hc ho hs;subst hc;have hl:a<t.size:=by
     rw [← hs.1];rcases Nat.lt_or_ge a s.length with h | h
     ·exact h
     ·rw [List.getElem?_eq_none h] at hx; cases hx
    obtain ⟨blk,cap,us,VX,g1,g2,g3⟩:=ho.cells hb;obtain ⟨u,hu,od⟩:=hp E.P ty c blk 0 us.toList (hE.types ty i hi) g3 (kL g2);have pw:=hs.2 a _ t[a] hx (by simp [hl]);have L1:t[a] = .pointer (some ⟨blk,0+off,none⟩):=by
     generalize t[a]=p at pw;cases pw with
     |ptr _ _ cs' je iz b8 cI=>rw [g1] at cI; cases cI; rw [Nat.zero_add]
     |hU _ _ _ b8 _=>rw [hb] at b8; cases b8
    have vC:(loadVar ty ⟨blk,0+off,none⟩).run E.P c.w = .ok u c.w:=hu;refine ⟨u::vs,.cons od h1,?_⟩;rw [List.mapM_cons];have hg:t.getD a undef = .pointer (some ⟨blk,0+off,none⟩):=by simp [hl,L1]
    simp only [qY,hg,asAddr,Sem.run_bind,Sem.run_pure,Result.andThen_ok,vC,h2]
   ·exact .inl H
  ·exact .inl H
def packed:List Value→Value
 | [v]=>v
 |vs => .tuple vs.toArray
theorem Bn {P:Program} {fn:Func} {t:Array Value} {w:World} {vs:List Value} (h:(fn.results.toList.mapM (qY t)).run P w = .ok vs w) :
  (results fn t).run P w = .ok (packed vs) w:=by
 have e1:results fn t=(do let vs ← fn.results.mapM (qY t); pure (if h:vs.size=1 then vs[0] else .tuple vs)):=by
  rfl
 have e2:(fn.results.mapM (qY t):Sem (Array Value))=List.toArray <$> (fn.results.toList.mapM (qY t)):=by
  rw [Array.mapM_eq_mapM_toList]
 simp only [e1,e2,Sem.run_bind,map_eq_pure_bind,h,Result.andThen_ok,Sem.run_pure];cases vs with
 |nil=>rfl
 |cons v vs=>cases vs with
  |nil=>rfl
  |cons u vs=>simp [packed]
def lS {α:Sort _} (T:List bk) (s:List AV) (h:List ae) (rs:List ResultVar) (stop:α) (k:AV→List ae→α):α :=
 tf T s h rs stop fun
  | [x]=>k x h
  |l=>k (.aF l) h
theorem AW.Fh (hE:E.OK) {td:List aP} (mD:∀ (a:Act) (cs:List Frame) (w:World),step E.P (lone ((bf ⟨ag,none,[]⟩).atR a (td.map aP.bB)) cs w) = .next (lone { (bf ⟨ag,none,[]⟩).atR a (td.map aP.bB) with mode := .returning } cs w))
  {fn:Func} (hf:E.P.funcs[ag]? = some fn) (H:lS E.T s h fn.results.toList False R.Q):AW E ag ⟨⟨ag,none,[]⟩,td,s⟩ [] h R:=by
 unfold AW;intro c0 c t ts h0 h1 h2 h3 hr bE h4 h5 cs;unfold lS at H;rcases yn hE H with h' | ⟨l,H,hl⟩
 ·cases h'
 obtain ⟨vs,g1,g2⟩:=hl c t h2 h3 h4;have fin:∀ r v,packed vs=v→R.Q r h→VR c r v→∃ (c':Cx) (fr:Frame) (r:AV) (v:Value),
   R.Q r c'.heap∧VR c' r v∧aK E.G c'∧ee c0 c'∧Steps E.P (lone ((⟨⟨ag,none,[]⟩,td,s⟩:bQ).bB t) (ez [] ts++cs) c.w) (lone fr cs c'.w)∧fr.fn=ag∧fr.leaving E.P c'.w (.returned v):=fun r v e1 e2 e3=>by
  refine ⟨c,_,r,v,by rw [h2]; exact e2,e3,h3,hr,.one (mD ⟨t,[]⟩ cs c.w),rfl,rfl,rfl,rfl,fn,hf,?_⟩;rw [← e1];exact Bn g2
 split at H
 ·rename_i x;cases vs with
  |nil=>have:=g1.1; simp at this
  |cons v vs=>cases vs with
   |cons u vs=>have:=g1.1; simp at this
   |nil=>exact fin x v rfl H g1.head.1
 ·rename_i aJ;refine fin (.aF l) (.tuple vs.toArray) ?_ H (.aF _ _ (by simpa using g1.1) fun j x v hx hu=>g1.2 j x v hx (by simpa using hu));cases vs with
  |nil=>rfl
  |cons v vs=>cases vs with
   |nil =>
    have:=g1.1;cases l with
    |nil=>simp at this
    |cons x l=>cases l with
     |nil=>exact absurd rfl (aJ x)
     |cons y l=>simp at this
   |cons u vs=>rfl
def tg (R:DV→Prop) (x:AV) (h:List ae):Prop :=
 match x with
 | .aF l=>vB (ym h) l False fun r=>R (.aF r)
 |x=>ym h x False R
theorem L2 {G:List (Nat × DV)} {R:DV→Prop} {x:AV} (H:tg R x h):∃ r,te G h x r∧R r:=by
 unfold tg at H;split at H
 ·rcases Bm (G:=G) (h:=h) Fg H with h' | ⟨r,hr,H⟩
  ·cases h'
  refine ⟨_,fun c v h1 h2 hv=>?_,H⟩;cases hv with
  |aF _ vs hl bD =>
   have:=hr c vs.toList h1 h2 ⟨by simpa using hl,fun j x v hx hv=>bD j x v hx (by simpa using hv)⟩;exact .aF _ _ (by simpa using this.1) fun j x v hx hu=>this.2 j x v hx (by simpa using hu)
 ·rcases Fg (G:=G) H with h' | h'
  ·cases h'
  ·exact h'
theorem aq.L3 {f:FuncId} {args:List DV} {R:DV→Prop} (H:aw E f [] (args.map .d) (tg R)):aq E f args R:=by
 unfold aw at H;unfold aq;refine ⟨H.1,fun ay w vs h1 h2 h3=>?_⟩
 let c:Cx:=⟨fun _=>none,[],ay,w⟩
 have hv:VL c (args.map .d) vs := .qM h3.1 fun j x v hx hu=>tc (h3.2 j x v hx hu);have ho:aK E.G c:=⟨h1,fun i b n hi=>(by cases hi),fun i j b n m hi=>(by cases hi),fun i b n hi=>(by cases hi),fun i bx hi=>(by simp [c] at hi),h2⟩;refine (H.2.2 c vs rfl ho hv).mono fun e w' ⟨c',r,v,k1,k2,k3,k4,k5,k6⟩=>?_;obtain ⟨d,hd,hR⟩:=L2 (G:=E.G) k3;subst k2;have:=hd c' v k5 rfl k4;rw [k6.ay] at this;exact ⟨v,d,k1,hR,this,k6.ext fun _=>rfl⟩
theorem AW.ret (hE:E.OK) {fn:Func} (hf:E.P.funcs[ag]? = some fn) (H:lS E.T s h fn.results.toList False R.Q):AW E ag ⟨⟨ag,none,[]⟩,.code .ret::k,s⟩ [] h R := .Fh hE (fun _ _ _=>stepR_ret rfl) hf H
theorem AW.L4 (hE:E.OK) {fn:Func} (hf:E.P.funcs[ag]? = some fn) (H:lS E.T s h fn.results.toList False R.Q):AW E ag ⟨⟨ag,none,[]⟩,[],s⟩ [] h R := .Fh hE (fun _ _ _=>stepR_end rfl) hf H
end
end Go.ax
end
section
namespace Go.ax
open Go Go.RowKit
@[irreducible] def need (C K : Prop) : Prop := C ∧ K
theorem bc {C K:Prop} (h:C) (k:K):need C K:=by unfold need; exact ⟨h,k⟩
theorem kP {C K:Prop} (h:need C K):C∧K:=by unfold need at h; exact h
def lT (b:UInt8):DV := .int .u8 b.toNat
def two {β:Type} (l:List β) (stop:Prop) (k:β→β→Prop):Prop :=
 match l with
 | [a,b]=>k a b
 |_=>stop
theorem Fi {β:Type} {l:List β} {stop:Prop} {k:β→β→Prop} (H:two l stop k):stop∨∃ a b,l=[a,b]∧k a b:=by
 unfold two at H;split at H
 ·exact .inr ⟨_,_,rfl,H⟩
 ·exact .inl H
def yo (e:Nat) (ei:bk) (h:List ae) (a:AV) (m:List DV) (stop:Prop) (k:AV→List ae→Prop):Prop :=
 match a with
 | .d .aL=>need (m.length≤2147483648∧∀ e∈m,e.cells.length=ei.size) (lI h (.arr 1 (e,ei.size) m) 0 fun h' n=>k (.own n 1) h')
 | .own b g=>aO h b stop fun
  | .arr g' ts l=>match Nat.beq g g',Nat.beq ts.1 e,Nat.beq ts.2 ei.size with
   |true,true,true=>need (l.length+m.length≤2147483648∧∀ e∈m,e.cells.length=ei.size) (fk h b (.arr (g+1) ts (l++m)) fun h'=>k (.own b (g+1)) h')
   |_,_,_=>stop
  |_=>stop
 |_=>stop
def qZ (T:List bk) (G:List (Nat × DV)) (o:Op) (s:List AV) (h:List ae) (stop:Prop) (k:AV→List ae→Prop):Prop :=
 match o with
 | .call { callee := .builtin .append,args:=args,argTypes:=ts }=>two args.toList stop fun x y=>two ts.toList stop fun t0 t1=>aO T t0 stop fun i0=>aO T t1 stop fun i1 =>
  match i0.k with
  | .slice e=>aO T e stop fun ei=>match Nat.beq ei.zero.length ei.size,Nat.blt 0 ei.size,Nat.ble ei.bytes 65536 with
   |true,true,true=>bS G s x stop fun a=>bS G s y stop fun b =>
    match i1.k,b with
    | .slice _,.d (.sl m)=>yo e ei h a m stop k
    | .string,.d (.str z)=>match ei.k with
     | .int .u8=>yo e ei h a (z.map lT) stop k
     |_=>stop
    |_,_=>stop
   |_,_,_=>stop
  |_=>stop
 | .makeSlice t n c=>aO T t stop fun i=>match i.k with
  | .slice e=>aO T e stop fun ei=>match Nat.beq ei.zero.length ei.size,Nat.blt 0 ei.size,Nat.ble ei.bytes 65536,ei.zero.all DV.ep with
   |true,true,true,true=>bS G s n stop fun
    | .d (.int _ a)=>bS G s c stop fun
     | .d (.int _ b) =>
      match ei.zero with
      | [z]=>need (0≤a∧a≤b∧b≤2147483648) (lI h (.arr 0 (e,ei.size) (List.replicate a.toNat z)) 0 fun h' n=>k (.own n 0) h')
      |zl=>need (0≤a∧a≤b∧b≤2147483648) (lI h (.arr 0 (e,ei.size) (List.replicate a.toNat (.agg zl))) 0 fun h' n=>k (.own n 0) h')
     |_=>stop
    |_=>stop
   |_,_,_,_=>stop
  |_=>stop
 |_=>stop
theorem aT {β:Type} {l:List β} {n:Nat} {e:β} (h:l[n]? = some e):n<l.length:=by
 rcases Nat.lt_or_ge n l.length with h' | h'
 ·exact h'
 ·rw [List.getElem?_eq_none h'] at h; cases h
section
variable {E:Env} {s:List AV} {h:List ae} {c:Cx} {G:List (Nat × DV)} {P:Program}
structure Src (P:Program) (size:Nat) (w:World) (x:Value) (n:Nat) (news:List Value):Prop where
 len:∀ w,(Builtin.lenOf x).run P w = .ok n w
 cells:∀ d:Nat,(Builtin.firstCells size n x).run P { w with drawn:=d } = .ok news.toArray { w with drawn:=d }
 one:∀ v∈news,v.oneCell'=true
 size:news.length=n*size
theorem L5 {t0 t1 e:TypeId} {i:TypeInfo} {d1:TypeDesc} (h0:P.underlying t0=some (.slice e)) (h1:P.underlying t1=some d1) (kQ:∀ k,d1 ≠ .int k) (hi:P.info? e=some i) {w:World} {g n m cap:Nat} {cur:Array Value} {x:Value} {news:List Value}
  (hg:w.heap[g]? = some (.cells cur e (0,0))) (hs:Src P i.size w x m news) (ra:n+m≤cap) (fE:n*i.size+news.length≤cur.size) (ty:TypeId) :
  (Builtin.append_ #[t0,t1] ty #[.slice (some ⟨g,0,none⟩) n cap,x]).run P w = .ok (.slice (some ⟨g,0,none⟩) (n+m) cap) (w.setCells g (n*i.size) news):=by
 have aX:=run_storeCells_cells (P:=P) g (n*i.size) news 0 w (fun j hj=>by
   simp only [World.cell?,hg]
   simp; omega) (fun j hj=>by simp [World.frozen?,hg]) hs.one
 simp only [Nat.add_zero] at aX;have hc:=hs.cells w.drawn;simp [Builtin.append_,run_underlying h0,run_underlying h1,Go.sizeOf,typeInfo,hi,hs.len,ra,hc,lK,aX]
theorem L6 {t0 t1 e:TypeId} {i:TypeInfo} {d1:TypeDesc} (h0:P.underlying t0=some (.slice e)) (h1:P.underlying t1=some d1) (kQ:∀ k,d1 ≠ .int k) (hi:P.info? e=some i) {w:World} {n cap:Nat} {b:Option Addr} {x:Value}
  (hs:Src P i.size w x 0 []) (ra:n≤cap) (ty:TypeId):(Builtin.append_ #[t0,t1] ty #[.slice b n cap,x]).run P w = .ok (.slice b n cap) w:=by
 have hc:=hs.cells w.drawn;cases b <;> simp [Builtin.append_,run_underlying h0,run_underlying h1,Go.sizeOf,typeInfo,hi,hs.len,ra,hc,storeCells]
theorem L7 {t0 t1 e:TypeId} {i:TypeInfo} {z:Value} {d1:TypeDesc} (h0:P.underlying t0=some (.slice e)) (h1:P.underlying t1=some d1) (kQ:∀ k,d1 ≠ .int k) (hi:P.info? e=some i) (hz:i.zero=some z) {w:World} {n m cap:Nat} {b:Option Addr} {x:Value} {nv news:List Value}
  (hold:∀ d:Nat,(Builtin.firstCells i.size n (.slice b n cap)).run P { w with drawn:=d } = .ok nv.toArray { w with drawn:=d }) (hs:Src P i.size w x m news) (hg:cap<n+m) (L8:n+m≤2147483648) (oq:i.bytes≤65536) (ty:TypeId) :
  (Builtin.append_ #[t0,t1] ty #[.slice b n cap,x]).run P w = .ok (.slice (some ⟨w.heap.size,0,none⟩) (n+m) (grownCap w (n+m) cap e)) (w.drew.alloc (.cells (nv.toArray++news.toArray++Builtin.zeroCells z.cells (grownCap w (n+m) cap e - (n+m))) e)):=by
 have hn:¬ (n+m≤cap):=by omega
 have L9:¬ (9223372036854775807<((n:Int)+(m:Int))):=by omega
 have fE:(n+m)*i.bytes≤140737488355328:=by
  calc (n+m)*i.bytes≤2147483648*65536:=Nat.mul_le_mul L8 oq
   _=140737488355328:=by decide
 have Ma:¬ (281474976710656<Builtin.nextslicecap (n+m) cap*i.bytes):=by
  have:=growslice_fits (old:=cap) (need:=n+m) (bytes:=i.bytes) (by omega) fE;omega
 have hc:=hs.cells w.drew.drawn;have ho:=hold w.drew.drawn;have vD:(Builtin.firstCells i.size m x).run P w.drew = .ok news.toArray w.drew:=hc;have cI:(Builtin.firstCells i.size n (.slice b n cap)).run P w.drew = .ok nv.toArray w.drew:=ho;simp [Builtin.append_,run_underlying h0,run_underlying h1,Go.sizeOf,typeInfo,zeroValue,hi,hz,hs.len,hn,L9,Ma,Question.forced,vD,cI,newRow,grownCap]
 congr 2
 apply Array.ext';simp [List.append_assoc]
theorem Fj {c:Cx} {m:List DV} {x:Value} {sz:Nat} (bY:0<sz) (hm:∀ e∈m,e.cells.length=sz) (hv:VD c.bad c.w (.sl m) x):∃ news:List Value,Src P sz c.w x m.length news∧(∀ (j:Nat) (y:DV) (v:Value),(flat m)[j]? = some y→news[j]? = some v→VD c.bad c.w y v):=by
 have dv:gp sz m:=fun i e he=>hm e (List.mem_of_getElem? he);cases hv with
 |slnil=>exact ⟨[],⟨fun _=>rfl,fun _=>rfl,fun v hv=>by simp at hv,by simp⟩,fun j y v hy=>by simp [flat] at hy⟩
 |jB a=>exact ⟨[],⟨fun _=>rfl,fun _=>by simp [Builtin.firstCells,loadCells,loadCellsFrom],fun v hv=>by simp at hv,by simp⟩,fun j y v hy=>by simp [flat] at hy⟩
 |sl _ blk off cap cL f hb yp iw hlen dq bD bZ =>
  by_cases aJ:m=[]
  ·subst aJ;exact ⟨[],⟨fun _=>rfl,fun _=>by simp [Builtin.firstCells,loadCells,loadCellsFrom],fun v hv=>by simp at hv,by simp⟩,fun j y v hy=>by simp [flat] at hy⟩
  obtain ⟨e0,r,hr⟩:=List.exists_cons_of_ne_nil aJ;have lL:cL=sz:=(hlen 0 e0 (by rw [hr]; rfl)).symm.trans (hm e0 (by rw [hr]; simp));subst lL;have at_:∀ (idx:Nat),idx<m.length*cL→∃ (i j:Nat) (e y:DV),idx=i*cL+j∧j<cL∧m[i]? = some e∧e.cells[j]? = some y∧idx / cL=i∧idx % cL=j:=fun idx nw=>by
   have hd:idx / cL<m.length:=Nat.div_lt_of_lt_mul (by rw [Nat.mul_comm]; exact nw);have nx:idx % cL<cL:=Nat.mod_lt _ bY;have hl:idx % cL<m[idx / cL].cells.length:=by rw [hlen _ _ (List.getElem?_eq_getElem hd)]; exact nx
   exact ⟨idx / cL,idx % cL,m[idx / cL],m[idx / cL].cells[idx % cL],by rw [Nat.mul_comm]; exact (Nat.div_add_mod idx cL).symm,nx,List.getElem?_eq_getElem hd,List.getElem?_eq_getElem hl,rfl,rfl⟩
  have dX:∀ (j:Nat) (v:Value),((List.range (m.length*cL)).map fun idx=>f (idx / cL) (idx % cL))[j]? = some v→j<m.length*cL∧v=f (j / cL) (j % cL):=fun j v hv=>by
   have hj:j<m.length*cL:=by have:=aT hv; simpa using this
   simp [hj] at hv;exact ⟨hj,hv.symm⟩
  refine ⟨(List.range (m.length*cL)).map fun idx=>f (idx / cL) (idx % cL),⟨fun _=>rfl,fun d=>?_,fun v hv=>?_,by simp⟩,fun j y v hy hv=>?_⟩
  ·have:=run_loadCells_list (P:=P) { c.w with drawn:=d } ⟨blk,off,none⟩ ((List.range (m.length*cL)).map fun idx=>f (idx / cL) (idx % cL)) (fun j v hv=>by
    obtain ⟨hj,rfl⟩:=dX j v hv;obtain ⟨i,jj,e,y,e1,e2,e3,e4,e5,e6⟩:=at_ j hj;rw [lK,e5,e6,e1]
    exact dq i jj e y e3 e4)
   simpa [Builtin.firstCells] using this
  ·obtain ⟨j,Mb⟩:=List.getElem?_of_mem hv;obtain ⟨hj,rfl⟩:=dX j v Mb;obtain ⟨i,jj,e,y,e1,e2,e3,e4,e5,e6⟩:=at_ j hj;rw [e5,e6];exact bZ i jj e y e3 e4
  ·obtain ⟨hj,rfl⟩:=dX j v hv;obtain ⟨i,jj,e,y',e1,e2,e3,e4,e5,e6⟩:=at_ j hj;have:=flat_get dv e3 e2;rw [← e1,hy,e4] at this;cases this;rw [e5,e6];exact bD i jj e y e3 e4
theorem Fk {c:Cx} {z:List UInt8}:Src P 1 c.w (.string ⟨z.toArray⟩) (z.map lT).length (z.map fun b=>Value.int .u8 b.toNat)∧(∀ (j:Nat) (y:DV) (v:Value),(flat (z.map lT))[j]? = some y→(z.map fun b=>Value.int .u8 b.toNat)[j]? = some v→VD c.bad c.w y v):=by
 have Mc:flat (z.map lT)=z.map lT:=by
  induction z with
  |nil=>rfl
  |cons b z ih=>simp only [List.map_cons,flat,List.flatMap_cons] at ih ⊢; rw [ih]; rfl
 refine ⟨⟨fun _=>by simp [Builtin.lenOf,ByteArray.size],fun d=>?_,fun v hv=>?_,by simp⟩,fun j y v hy hv=>?_⟩
 ·simp [Builtin.firstCells]
 ·obtain ⟨b,-,rfl⟩:=List.mem_map.1 hv; rfl
 ·rw [Mc] at hy;rw [List.getElem?_map] at hy hv;cases hz:z[j]? with
  |none=>rw [hz] at hy; cases hy
  |some b=>rw [hz] at hy hv; cases hy; cases hv; exact .int _ _
def jG (c:Cx) (l:List DV) (vs:List Value):Prop:=∀ (idx:Nat) (y:DV),(flat l)[idx]? = some y→∃ v,vs[idx]? = some v∧v.oneCell'=true∧VD c.bad c.w y v
theorem jG.ij {c:Cx} {l:List DV} {vs:Array Value} {sz:Nat} (dv:gp sz l) (h:jG c l vs.toList):∀ (i j:Nat) (e x:DV),l[i]? = some e→e.cells[j]? = some x→∃ v,vs[i*sz+j]? = some v∧v.oneCell'=true∧VD c.bad c.w x v:=fun i j e x he hx=>by
 have hj:j<sz:=by rw [← dv i e he]; exact aT hx
 obtain ⟨v,h1,h2⟩:=h (i*sz+j) x (by rw [flat_get dv he hj]; exact hx);exact ⟨v,by simpa using h1,h2⟩
theorem jG.Md {c:Cx} {l:List DV} {vs:Array Value} {sz:Nat} (bY:0<sz) (dv:gp sz l) (h:∀ (i j:Nat) (e x:DV),l[i]? = some e→e.cells[j]? = some x→∃ v,vs[i*sz+j]? = some v∧v.oneCell'=true∧VD c.bad c.w x v):jG c l vs.toList:=fun idx y hy=>by
 have ai:=aT hy;rw [lN dv] at ai;have hd:idx / sz<l.length:=Nat.div_lt_of_lt_mul (by rw [Nat.mul_comm]; exact ai);have nx:idx % sz<sz:=Nat.mod_lt _ bY;have h1:=flat_get dv (List.getElem?_eq_getElem hd) nx;have e1:idx / sz*sz+idx % sz=idx:=by rw [Nat.mul_comm]; exact Nat.div_add_mod idx sz
 rw [e1,hy] at h1;obtain ⟨v,h2,h3⟩:=h (idx / sz) (idx % sz) _ y (List.getElem?_eq_getElem hd) h1.symm;rw [e1] at h2;exact ⟨v,by simpa using h2,h3⟩
theorem jG.append {c:Cx} {l m:List DV} {vs news:List Value} {tail:List Value} {sz:Nat} (dv:gp sz l) (hl:jG c l vs) (eG:l.length*sz≤vs.length) (bZ:∀ v∈news,v.oneCell'=true) (hlen:news.length=(flat m).length) (hn:∀ (j:Nat) (y:DV) (v:Value),(flat m)[j]? = some y→news[j]? = some v→VD c.bad c.w y v) :
  jG c (l++m) (vs.take (l.length*sz)++news++tail):=fun idx y hy=>by
 rw [A8] at hy;have rf:=lN dv;have Me:(vs.take (l.length*sz)).length=l.length*sz:=by simp; omega
 rcases Nat.lt_or_ge idx (l.length*sz) with h | h
 ·rw [List.getElem?_append_left (by omega)] at hy;obtain ⟨v,h1,h2⟩:=hl idx y hy;refine ⟨v,?_,h2⟩;rw [List.append_assoc,List.getElem?_append_left (by omega),List.getElem?_take,if_pos h];exact h1
 ·rw [List.getElem?_append_right (by omega),rf] at hy;have ai:=aT hy;have nw:idx - l.length*sz<news.length:=by omega
  refine ⟨news[idx - l.length*sz],?_,bZ _ (List.getElem_mem nw),hn _ y _ hy (by simp [nw])⟩;rw [List.append_assoc,List.getElem?_append_right (by omega),Me,List.getElem?_append_left nw];simp [nw]
theorem jG.step {c c':Cx} (hs:Step c c') {l:List DV} {vs:List Value} (h:jG c l vs):jG c' l vs:=fun idx y hy=>by
 obtain ⟨v,h1,h2,h3⟩:=h idx y hy;exact ⟨v,h1,h2,hs.vd h3⟩
theorem Mf {sz:Nat} {l m:List DV} (hl:gp sz l) (hm:∀ e∈m,e.cells.length=sz):gp sz (l++m):=fun i e he=>by
 rcases Nat.lt_or_ge i l.length with h | h
 ·rw [List.getElem?_append_left h] at he; exact hl i e he
 ·rw [List.getElem?_append_right h] at he; exact hm e (List.mem_of_getElem? he)
def Cx.ic (c:Cx) (b g:Nat) (ts:Nat × Nat) (l:List DV) (own:Option (Nat × Nat)) (w:World):Cx:={ c with own:=fun i=>if i=b then own else c.own i,heap:=c.heap.set b (.arr g ts l),w:=w }
theorem aK.ic {G:List (Nat × DV)} (ho:aK G c) {b g:Nat} {ts:Nat × Nat} {l l':List DV} (hb:c.heap[b]? = some (.arr g ts l)) {w:World} (own:Option (Nat × Nat)) (Bo:w.os=c.w.os) (Mg:w.tape=c.w.tape) (Mh:w.output=c.w.output) (ie:c.w.heap.size≤w.heap.size)
  (Fl:∀ k,k<c.w.heap.size→(∀ n,c.own b≠some (k,n))→w.heap[k]? = c.w.heap[k]?) (bA:∀ k n,own=some (k,n)→k<w.heap.size∧(k<c.w.heap.size→∃ m,c.own b=some (k,m))) :
  let c':=c.ic b (g+1) ts l' own w
  Step c c'∧((gp ts.2 l'∧((own=none∧l'=[])∨∃ (blk cap:Nat) (vs:Array Value),own=some (blk,cap)∧w.heap[blk]? = some (.cells vs ts.1 (0,0))∧vs.size=cap*ts.2∧l'.length≤cap∧cap≤maxLen∧jG c' l' vs.toList))→aK G c'):=by
 intro c';have er:=aT hb
 have aX:Step c c':={
  ay:=rfl
  bN:=ho.bN
  os:=Bo
  tape:=Mg
  output:=Mh
  size:=ie
  keep:=fun x hx hn=>Fl x hx (fun n=>hn b n)
  db:=fun i x n hi hx=>by
   simp only [c',Cx.ic] at hi;split at hi
   ·rename_i bu; subst bu; exact (bA x n hi).2 hx
   ·exact ⟨n,hi⟩
  boxes:=fun i bx hi=>by
   by_cases bu:i=b
   ·subst bu;rw [hb] at hi;cases hi;exact .inl ⟨g+1,l',by show (c.heap.set i _)[i]? = _; rw [List.getElem?_set_self er],.inl (Nat.lt_succ_self _)⟩
   ·have h':c'.heap[i]? = some bx:=by show (c.heap.set b _)[i]? = _; rw [List.getElem?_set_ne (Ne.symm bu)]; exact hi
    have og:c'.own i=c.own i:=by simp only [c',Cx.ic]; rw [if_neg bu]
    cases bx with
    |cells cs=>exact .inl ⟨cs,h',og,rfl⟩
    |arr g sz l=>exact .inl ⟨g,l,h',.inr ⟨rfl,rfl,og⟩⟩
    |map es=>exact .inl ⟨es,h',og⟩
    |gone=>exact h'
    |hole=>exact ⟨_,h'⟩ }
 refine ⟨aX,fun c8=>ho.next aX ?_ ?_ ?_⟩
 ·intro i x n hi;have hl:c'.heap.length=c.heap.length:=by simp [c',Cx.ic]
  rw [hl];simp only [c',Cx.ic] at hi;split at hi
  ·rename_i bu; subst bu; exact ⟨(bA x n hi).1,er⟩
  ·have:=ho.br i x n hi; exact ⟨Nat.lt_of_lt_of_le this.1 ie,this.2⟩
 ·intro i j x n m hi hj;simp only [c',Cx.ic] at hi hj;split at hi <;> split at hj
  ·omega
  ·rename_i h1 h2;have:=(ho.br j x m hj).1;obtain ⟨q,hq⟩:=(bA x n hi).2 this;exact absurd (ho.inj j b x m q hj hq) h2
  ·rename_i h1 h2;have:=(ho.br i x n hi).1;obtain ⟨q,hq⟩:=(bA x m hj).2 this;exact absurd (ho.inj i b x n q hi hq) h1
  ·exact ho.inj i j x n m hi hj
 ·intro i bx hi;by_cases bu:i=b
  ·subst bu;have bV:(c.heap.set i (.arr (g+1) ts l'))[i]? = some bx:=hi;rw [List.getElem?_set_self er] at bV;cases bV;right;have ot:c'.own i=own:=by simp [c',Cx.ic]
   obtain ⟨q0,-,-⟩:=ho.box i _ hb;obtain ⟨dv,Mi⟩:=c8;refine ⟨q0,dv,?_⟩;rcases Mi with ⟨h1,h2⟩ | ⟨blk,cap,vs,h1,h2,h3,h4,h5,h6⟩
   ·exact .inl ⟨ot.trans h1,h2⟩
   ·exact .inr ⟨blk,cap,vs,ot.trans h1,h2,h3,h4,h5,h6.ij dv⟩
  ·left;have bV:(c.heap.set b (.arr (g+1) ts l'))[i]? = some bx:=hi;rw [List.getElem?_set_ne (Ne.symm bu)] at bV;refine ⟨bV,by simp only [c',Cx.ic]; rw [if_neg bu],fun x n hn=>Fl x (ho.br i x n hn).1 (fun m hm=>bu (ho.inj i b x n m hn hm))⟩
theorem lU {b g:Nat} {ts:Nat × Nat} {l:List DV} (hb:c.heap[b]? = some (.arr g ts l)) {v:Value} (hv:VR c (.own b g) v):(∃ blk cap,c.own b=some (blk,cap)∧v = .slice (some ⟨blk,0,none⟩) l.length cap)∨(l=[]∧v = .slice none 0 0∧c.own b=none):=by
 cases hv with
 |own _ _ _ l' blk cap k1 k2=>rw [hb] at k1; cases k1; exact .inl ⟨blk,cap,k2,rfl⟩
 |gj _ _ _ k1 k2=>rw [hb] at k1; cases k1; exact .inr ⟨rfl,rfl,k2⟩
 |jd _ _ g' _ _ _ k1 k2 _=>rw [hb] at k1; cases k1; omega
 |ix _ _ _ k1 _=>rw [hb] at k1; cases k1
 |kK _ _ _ _ _ _ k1 _ _=>rw [hb] at k1; cases k1
theorem Mj {β:Type} {vs news:List β} {o:Nat} (h:o+news.length≤vs.length):cV vs o news=vs.take o++news++vs.drop (o+news.length):=by
 have h1:vs=vs.take o++(vs.drop o).take news.length++vs.drop (o+news.length):=by
  rw [List.append_assoc,← List.drop_drop,List.take_append_drop,List.take_append_drop]
 have h2:(vs.take o).length=o:=by simp; omega
 have:=A7 news (vs.take o) ((vs.drop o).take news.length) (vs.drop (o+news.length)) (by simp; omega);rw [← h1,h2] at this;exact this
theorem ou {n:Nat} (h:n≤2147483648):n≤maxLen:=by unfold maxLen; omega
theorem Fm (aM:aK G c) {t0 t1:TypeId} {i:TypeInfo} {z:Value} {d1:TypeDesc} {ts:Nat × Nat} (h0:P.underlying t0=some (.slice ts.1)) (h1:P.underlying t1=some d1) (kQ:∀ k,d1 ≠ .int k) (hi:P.info? ts.1=some i) (hz:i.zero=some z) (ia:z.cells.size=i.size) (ie:i.size=ts.2) (oq:i.bytes≤65536)
  {b g:Nat} {l m:List DV} (hb:c.heap[b]? = some (.arr g ts l)) {v x:Value} (hv:VR c (.own b g) v) {news:List Value} (hs:Src P i.size c.w x m.length news) (hn:∀ (j:Nat) (y:DV) (v:Value),(flat m)[j]? = some y→news[j]? = some v→VD c.bad c.w y v) (hm:∀ e∈m,e.cells.length=ts.2) (pE:l.length+m.length≤2147483648) (ty:TypeId) :
  ∃ (c':Cx) (v':Value),(Builtin.append_ #[t0,t1] ty #[v,x]).run P c.w = .ok v' c'.w∧c'.heap=c.heap.set b (.arr (g+1) ts (l++m))∧aK G c'∧VR c' (.own b (g+1)) v'∧Step c c':=by
 obtain ⟨q0,q1,q2⟩:=aM.box b _ hb;have er:=aT hb;have Fp:gp ts.2 (l++m):=Mf q1 hm;have vE:(flat m).length=m.length*ts.2:=lN (fun i e he=>hm e (List.mem_of_getElem? he));have th:news.length=(flat m).length:=by rw [hs.size,vE,ie]
 have kR:∀ own w,(c.ic b (g+1) ts (l++m) own w).heap[b]? = some (.arr (g+1) ts (l++m)):=fun own w=>by show (c.heap.set b _)[b]? = _; rw [List.getElem?_set_self er]
 have Bp:∀ own w,(c.ic b (g+1) ts (l++m) own w).own b=own:=fun own w=>by simp [Cx.ic]
 have grown:∀ (nv:List Value) (cap:Nat) (bs:Option Addr),(∀ (idx:Nat) (y:DV),(flat l)[idx]? = some y→∃ v,nv[idx]? = some v∧v.oneCell'=true∧VD c.bad c.w y v)→nv.length=l.length*ts.2→(∀ d:Nat,(Builtin.firstCells i.size l.length (.slice bs l.length cap)).run P { c.w with drawn:=d } = .ok nv.toArray { c.w with drawn:=d })→cap<l.length+m.length→v = .slice bs l.length cap →
   ∃ (c':Cx) (v':Value),(Builtin.append_ #[t0,t1] ty #[v,x]).run P c.w = .ok v' c'.w∧c'.heap=c.heap.set b (.arr (g+1) ts (l++m))∧aK G c'∧VR c' (.own b (g+1)) v'∧Step c c':=by
  intro nv cap bs hold Mk Ml iw Mm;subst Mm;have hr:=L7 h0 h1 kQ hi hz Ml hs iw pE oq ty;have aC:=grownCap_ge c.w (l.length+m.length) cap ts.1;have hle:=grownCap_le_maxLen c.w (l.length+m.length) cap ts.1 (ou pE);generalize grownCap c.w (l.length+m.length) cap ts.1=nc at hr aC hle
  let cells:Array Value:=nv.toArray++news.toArray++Builtin.zeroCells z.cells (nc - (l.length+m.length))
  have hw:(c.w.drew.alloc (.cells cells ts.1)).heap[c.w.heap.size]? = some (.cells cells ts.1 (0,0)):=heap_alloc_new c.w.drew _;obtain ⟨k1,k2⟩:=aM.ic (l':=l++m) hb (w:=c.w.drew.alloc (.cells cells ts.1)) (some (c.w.heap.size,nc)) rfl rfl rfl (by simp) (fun k hk _=>Below.heap_alloc c.w.drew _ k hk) (fun k n e=>by cases e; exact ⟨by simp,fun h=>by omega⟩);refine ⟨_,_,hr,rfl,k2 ⟨Fp,.inr ⟨c.w.heap.size,nc,cells,rfl,hw,?_,by simpa using aC,hle,?_⟩⟩,?_,k1⟩
  ·simp only [cells,Array.size_append,List.size_toArray,size_zeroCells,ia,Mk,th,vE,ie,← Nat.add_mul]
   congr 1
   omega
  ·have:=jG.append (c:=c) (l:=l) (m:=m) (vs:=nv) (news:=news) (tail:=(Builtin.zeroCells z.cells (nc - (l.length+m.length))).toList) q1 hold (by omega) hs.one th hn;rw [List.take_of_length_le (by omega)] at this;have:=this.step k1
   simpa [cells] using this
  ·have:=VR.own (c:=c.ic b (g+1) ts (l++m) (some (c.w.heap.size,nc)) (c.w.drew.alloc (.cells cells ts.1))) b (g+1) ts (l++m) c.w.heap.size nc (kR _ _) (Bp _ _);rw [List.length_append] at this;exact this
 rcases lU hb hv with ⟨blk,cap,r1,rfl⟩ | ⟨rfl,rfl,r1⟩
 ·rcases q2 with ⟨q2,-⟩ | ⟨je,iz,vs,q2,q3,q4,q5,q6,q7⟩
  ·rw [r1] at q2; cases q2
  rw [r1] at q2; cases q2;have rf:=jG.Md q0 q1 q7;have eG:l.length*ts.2≤vs.size:=by rw [q4]; exact Nat.mul_le_mul_right _ q5
  by_cases ra:l.length+m.length≤cap
  ·have fE:l.length*i.size+news.length≤vs.size:=by
    rw [th,vE,ie,q4,← Nat.add_mul];exact Nat.mul_le_mul_right _ ra
   have hr:=L5 h0 h1 kQ hi q3 hs ra fE ty;obtain ⟨e1,e2,e3,e4⟩:=ye blk news (l.length*i.size) c.w;obtain ⟨k1,k2⟩:=aM.ic (l':=l++m) hb (w:=c.w.setCells blk (l.length*i.size) news) (some (blk,cap)) e1 e2 e3 (Nat.le_of_eq e4.symm) (fun k _ hk=>sV blk news _ c.w k (fun e=>hk cap (by rw [e]; exact r1))) (fun k n e=>by cases e; exact ⟨by rw [e4]; exact (aM.br b blk cap r1).1,fun _=>⟨cap,r1⟩⟩);refine ⟨_,_,hr,rfl,k2 ⟨Fp,.inr ⟨blk,cap,(cV vs.toList (l.length*i.size) news).toArray,rfl,yf blk ts.1 (0,0) news _ c.w vs q3,by simp [vi,q4],by simpa using ra,q6,?_⟩⟩,?_,k1⟩
   ·have:=jG.append (c:=c) (l:=l) (m:=m) (vs:=vs.toList) (news:=news) (tail:=vs.toList.drop (l.length*ts.2+news.length)) q1 rf (by simpa using eG) hs.one th hn;have:=this.step k1;show jG _ (l++m) (cV vs.toList (l.length*i.size) news);rw [Mj (by simp; exact fE)];rw [← ie] at this;exact this
   ·have:=VR.own (c:=c.ic b (g+1) ts (l++m) (some (blk,cap)) (c.w.setCells blk (l.length*i.size) news)) b (g+1) ts (l++m) blk cap (kR _ _) (Bp _ _);rw [List.length_append] at this;exact this
  ·have bE:=kL q3;refine grown (vs.toList.take (l.length*ts.2)) cap (some ⟨blk,0,none⟩) (fun idx y hy=>?_) (by simp; omega) (fun d=>?_) (by omega) rfl
   ·obtain ⟨u,g1,g2⟩:=rf idx y hy;have ai:=aT hy;rw [lN q1] at ai;exact ⟨u,by rw [List.getElem?_take,if_pos ai]; exact g1,g2⟩
   ·have:=run_loadCells_list (P:=P) { c.w with drawn:=d } ⟨blk,0,none⟩ (vs.toList.take (l.length*ts.2)) (fun j u hu=>by
     rw [List.getElem?_take] at hu;split at hu
     ·rw [lK]; exact bE j u hu
     ·cases hu)
    have hlen:(vs.toList.take (l.length*ts.2)).length=l.length*i.size:=by simp; rw [ie]; omega
    rw [hlen] at this;exact this
 ·by_cases Mn:m.length=0
  ·obtain rfl:m=[]:=List.eq_nil_of_length_eq_zero Mn;have ov:news=[]:=List.eq_nil_of_length_eq_zero (by rw [hs.size]; simp);subst ov;have hr:=L6 (b:=none) (n:=0) (cap:=0) h0 h1 kQ hi hs (Nat.le_refl _) ty;obtain ⟨k1,k2⟩:=aM.ic (l':=[]++[]) hb (w:=c.w) none rfl rfl rfl (Nat.le_refl _) (fun k _ _=>rfl) (fun k n e=>by cases e);exact ⟨c.ic b (g+1) ts ([]++[]) none c.w,.slice none 0 0,hr,rfl,k2 ⟨fun i e he=>by simp at he,.inl ⟨rfl,rfl⟩⟩,.gj b (g+1) ts (kR _ _) (Bp _ _),k1⟩
  ·exact grown [] 0 none (fun idx y hy=>by simp [flat] at hy) (by simp) (fun d=>by simp [Builtin.firstCells]) (by simp; omega) rfl
theorem aK.tj (aM:aK G c) (ts:Nat × Nat) (gE:0<ts.2):let c':Cx:={ c with heap:=c.heap++[.arr 0 ts []] }
  aK G c'∧Step c c'∧c'.heap[c.heap.length]? = some (.arr 0 ts [])∧VR c' (.own c.heap.length 0) (.slice none 0 0):=by
 intro c';have bL:c.own c.heap.length=none:=by
  cases ho:c.own c.heap.length with
  |none=>rfl
  |some p=>have:=(aM.br _ p.1 p.2 ho).2; omega
 have aX:Step c c':=⟨rfl,aM.bN,rfl,rfl,rfl,Nat.le_refl _,fun _ _ _=>rfl,fun i b n hi _=>⟨n,hi⟩,fun i bx hi=>by
  have h':c'.heap[i]? = some bx:=by show (c.heap++_)[i]? = _; rw [List.getElem?_append_left (aT hi)]; exact hi
  cases bx with
  |cells cs=>exact .inl ⟨cs,h',rfl,rfl⟩
  |arr g sz l=>exact .inl ⟨g,l,h',.inr ⟨rfl,rfl,rfl⟩⟩
  |map es=>exact .inl ⟨es,h',rfl⟩
  |gone=>exact h'
  |hole=>exact ⟨_,h'⟩⟩
 have gF:c'.heap[c.heap.length]? = some (.arr 0 ts []):=by show (c.heap++_)[_]? = _; simp
 refine ⟨aM.next aX (fun i b n hi=>⟨(aM.br i b n hi).1,by have:=(aM.br i b n hi).2; show i<(c.heap++_).length; simp; omega⟩) aM.inj (fun i bx hi=>?_),aX,gF,.gj _ _ ts gF bL⟩;by_cases fF:i=c.heap.length
 ·subst fF;rw [gF] at hi;cases hi;exact .inr ⟨gE,fun i e he=>by simp at he,.inl ⟨bL,rfl⟩⟩
 ·have ai:i<c.heap.length:=by
   have:=aT hi;have h2:c'.heap.length=c.heap.length+1:=by show (c.heap++_).length=_; simp
   omega
  have bV:(c.heap++[.arr 0 ts []])[i]? = some bx:=hi;rw [List.getElem?_append_left ai] at bV;exact .inl ⟨bV,rfl,fun _ _ _=>rfl⟩
theorem Fq {o:Oper} {ac:Act} {w w':World} {args:Array Operand} {ts:Array TypeId} {x y:Operand} {t0 t1:Nat} {v v0 v1:Value} (h1:o.op = .call { callee := .builtin .append,args:=args,argTypes:=ts }) (hx:args.toList=[x,y]) (ht:ts.toList=[t0,t1]) (e0:ac.eval x=v0) (e1:ac.eval y=v1)
  (hr:(Builtin.append_ #[t0,t1] o.type #[v0,v1]).run P w = .ok v w'):(execOp ac.eval o).run P w = .ok (.value v) w':=by
 have ha:args.map ac.eval = #[v0,v1]:=by
  apply Array.ext';rw [Array.toList_map,hx];simp [e0,e1]
 have gE:ts = #[t0,t1]:=by apply Array.ext'; rw [ht]
 simp only [execOp,h1,resolve,ha,gE,Sem.run_bind,Sem.run_pure,Result.andThen_ok,invoke,builtin,hr]
theorem Fs (hE:E.OK) {args:Array Operand} {rh:Array TypeId} {x y:Operand} {t0 t1 e:Nat} {i0 i1 ei:bk} (hx:args.toList=[x,y]) (yq:rh.toList=[t0,t1]) (jF:E.T[t0]? = some i0) (tn:E.T[t1]? = some i1) (cJ:i0.k = .slice e) (cZ:∀ k,i1.k ≠ .int k) (bP:E.T[e]? = some ei)
  (hz:ei.zero.length=ei.size) (cA:0<ei.size) (oq:ei.bytes≤65536) {bv:AV} (hy:aZ E.G s y bv) {m:List DV} (hm:∀ e∈m,e.cells.length=ei.size)
  (tp:∀ (c:Cx) (v:Value),VR c bv v→∃ news:List Value,Src E.P ei.size c.w v m.length news∧(∀ (j:Nat) (y:DV) (v:Value),(flat m)[j]? = some y→news[j]? = some v→VD c.bad c.w y v))
  {a:AV} (ha:aZ E.G s x a) {r:AV} {h':List ae}
  (Bq:(∃ b g ts l,a = .own b g∧h[b]? = some (.arr g ts l)∧ts.1=e∧ts.2=ei.size∧l.length+m.length≤2147483648∧r = .own b (g+1)∧h'=h.set b (.arr (g+1) ts (l++m)))∨(a = .d .aL∧m.length≤2147483648∧r = .own h.length 1∧h'=h++[.arr 1 (e,ei.size) m])) :
  bC E (.call { callee := .builtin .append,args:=args,argTypes:=rh }) s h r h':=fun o c ac h1 h2 h3 h4=>by
 subst h2;obtain ⟨yg,d0,g1,g2,g3,-⟩:=cm (hE.types _ _ jF);obtain rfl:=kg (cJ.symm.trans g3);obtain ⟨VY,d1,k1,k2,k3,-⟩:=cm (hE.types _ _ tn);obtain ⟨ti,z,q1,q2,q3,q4⟩:=zeroOf (hE.types _ _ bP) hz cA;obtain ⟨vv,d',p1,p2,p3,p4,p5,-⟩:=cm (hE.types _ _ bP);rw [q1] at p1; cases p1;have kQ:∀ k,d1 ≠ .int k:=fun k e=>cZ k (by rw [k3,e]; rfl);have ia:z.cells.size=ti.size:=by
  obtain ⟨vs,e1,e2⟩:=q4 c;rw [e1];have:=e2.1;simp at this;simp [← this,hz,q3]
 rcases Bq with ⟨b,g,ts,l,rfl,hb,rfl,Ft,pE,rfl,rfl⟩ | ⟨rfl,pE,rfl,rfl⟩
 ·obtain ⟨news,hs,hn⟩:=tp c _ (hy c ac h3 h4);rw [q3] at hs;obtain ⟨c',v',r1,r2,r3,r4,r5⟩:=Fm h3 g2 k2 kQ q1 q2 ia (by rw [← q3]; exact Ft.symm) (by rw [← p5]; exact oq) hb (ha c ac h3 h4) hs hn (fun e he=>by rw [Ft]; exact hm e he) pE o.type;exact ⟨c',v',.inl (Fq h1 hx yq rfl rfl r1),r2,r3,r4,r5⟩
 ·obtain ⟨w1,w2,w3,w4⟩:=h3.tj (e,ei.size) cA;have lV:=w2.vr (hy c ac h3 h4);obtain ⟨news,hs,hn⟩:=tp _ _ lV;rw [q3] at hs;have cy:ac.eval x = .slice none 0 0:=by
   have:=ha c ac h3 h4;generalize ac.eval x=u at this;cases this with
   |d _ _ hd=>cases hd; rfl
  obtain ⟨c',v',r1,r2,r3,r4,r5⟩:=Fm (ts:=(e,ei.size)) w1 g2 k2 kQ q1 q2 ia q3.symm (by rw [← p5]; exact oq) w3 w4 hs hn hm (by simpa using pE) o.type;refine ⟨c',v',.inl (Fq h1 hx yq cy rfl r1),?_,r3,r4,w2.trans r5⟩;rw [r2];simp
theorem Fu (hE:E.OK) {t e:Nat} {n cc:Operand} {i ei:bk} (hi:E.T[t]? = some i) (hk:i.k = .slice e) (bP:E.T[e]? = some ei) (hz:ei.zero.length=ei.size) (cA:0<ei.size) (oq:ei.bytes≤65536) (eR:∀ y∈ei.zero,y.ep=true) {j j':IntKind} {a b:Int} (hn:aZ E.G s n (.d (.int j a))) (hc:aZ E.G s cc (.d (.int j' b)))
  (ha:0≤a) (tq:a≤b) (hb:b≤2147483648) {zd:DV} (Fv:zd.cells=ei.zero):bC E (.makeSlice t n cc) s h (.own h.length 0) (h++[.arr 0 (e,ei.size) (List.replicate a.toNat zd)]):=fun o c ac h1 h2 h3 h4=>by
 subst h2;obtain ⟨yg,d0,g1,g2,g3,-⟩:=cm (hE.types _ _ hi);obtain rfl:=kg (hk.symm.trans g3);obtain ⟨ti,z,q1,q2,q3,q4⟩:=zeroOf (hE.types _ _ bP) hz cA;obtain ⟨vv,d',p1,p2,p3,p4,p5,-⟩:=cm (hE.types _ _ bP);rw [q1] at p1; cases p1;obtain ⟨zs,ia,jg⟩:=q4 c;have ki:zs.length=ei.size:=by rw [← jg.1]; simpa using hz
 have Mo:(ti.bytes:Int)*b≤281474976710656:=by
  have h5:(ti.bytes:Int)≤65536:=by rw [← p5]; omega
  calc (ti.bytes:Int)*b≤65536*2147483648:=Int.mul_le_mul h5 hb (by omega) (by omega)
   _≤281474976710656:=by decide
 have hr:=run_make (P:=E.P) c.w t e ti z g2 q1 q2 j j' a b ha tq Mo (by omega);have e1:=dM (hn c ac h3 h4);have e2:=dM (hc c ac h3 h4);obtain ⟨k1,k2⟩:=h3.add (.arr 0 (e,ei.size) (List.replicate a.toNat zd)) b.toNat (.cells (madeCells z.cells (b.toNat*ti.size)) e);have dv:gp ei.size (List.replicate a.toNat zd):=fun i e he=>by
  rw [List.getElem?_replicate] at he;split at he
  ·cases he; rw [Fv,hz]
  ·cases he
 have bA:(c.add (.arr 0 (e,ei.size) (List.replicate a.toNat zd)) b.toNat (.cells (madeCells z.cells (b.toNat*ti.size)) e)).own c.heap.length=some (c.w.heap.size,b.toNat):=by simp [Cx.add]
 have kR:(c.add (.arr 0 (e,ei.size) (List.replicate a.toNat zd)) b.toNat (.cells (madeCells z.cells (b.toNat*ti.size)) e)).heap[c.heap.length]? = some (.arr 0 (e,ei.size) (List.replicate a.toNat zd)):=by simp [Cx.add]
 refine ⟨_,.slice (some ⟨c.w.heap.size,0,none⟩) a.toNat b.toNat,.inl ?_,rfl,k2 ⟨cA,dv,.inr ⟨c.w.heap.size,b.toNat,madeCells z.cells (b.toNat*ti.size),bA,heap_alloc_new _ _,by rw [size_madeCells,q3],by simp; omega,ou (by omega),?_⟩⟩,?_,k1⟩
 ·simp only [execOp,h1,e1,e2,Sem.run_bind,hr,Result.andThen_ok,Sem.run_pure];rfl
 ·intro i' j2 e' x he hx;have iF:j2<ei.size:=by rw [← dv i' e' he]; exact aT hx
  rw [List.getElem?_replicate] at he;split at he
  ·rename_i ai;cases he;rw [Fv] at hx;have nw:i'*ei.size+j2<b.toNat*ti.size:=by
    rw [← q3];have:(i'+1)*ei.size≤b.toNat*ei.size:=Nat.mul_le_mul_right _ (by omega);rw [Nat.add_mul,Nat.one_mul] at this;omega
   have nx:(i'*ei.size+j2) % ei.size=j2:=by rw [Nat.mul_comm,Nat.mul_add_mod,Nat.mod_eq_of_lt iF]
   have bD:(madeCells z.cells (b.toNat*ti.size))[i'*ei.size+j2]? = some (zs[j2]'(by omega)):=by
    simp [madeCells,nw,ia,ki,nx,iF]
   have fw:=jg.nj j2 x (zs[j2]'(by omega)) hx (by simp [ki,iF]);exact ⟨_,bD,vh fw (eR x (List.mem_of_getElem? hx)),k1.vd fw⟩
  ·cases he
 ·have:=VR.own (c:=c.add (.arr 0 (e,ei.size) (List.replicate a.toNat zd)) b.toNat (.cells (madeCells z.cells (b.toNat*ti.size)) e)) c.heap.length 0 (e,ei.size) _ c.w.heap.size b.toNat kR bA;rw [List.length_replicate] at this;exact this
theorem Mp (hE:E.OK) {o:Op} {stop:Prop} {k:AV→List ae→Prop} (H:qZ E.T E.G o s h stop k):stop∨∃ v h',k v h'∧bC E o s h v h':=by
 unfold qZ at H;split at H
 ·rename_i args rh;rcases Fi H with h | ⟨x,y,hx,H⟩
  ·exact .inl h
  rcases Fi H with h | ⟨t0,t1,ht,H⟩
  ·exact .inl h
  rcases a8 H with h | ⟨i0,jF,H⟩
  ·exact .inl h
  rcases a8 H with h | ⟨i1,tn,H⟩
  ·exact .inl h
  split at H
  ·rename_i e cJ;rcases a8 H with h | ⟨ei,bP,H⟩
   ·exact .inl h
   split at H
   ·rename_i q1 q2 q3;rcases bW H with h | ⟨a,ha,H⟩
    ·exact .inl h
    rcases bW H with h | ⟨b,hb,H⟩
    ·exact .inl h
    have fin:∀ (m:List DV),(∀ k,i1.k ≠ .int k)→((∀ e∈m,e.cells.length=ei.size)→∀ (c:Cx) (v:Value),VR c b v→∃ news:List Value,Src E.P ei.size c.w v m.length news∧(∀ (j:Nat) (y:DV) (v:Value),(flat m)[j]? = some y→news[j]? = some v→VD c.bad c.w y v)) →
      yo e ei h a m stop k→stop∨∃ v h',k v h'∧bC E (.call { callee := .builtin .append,args:=args,argTypes:=rh }) s h v h':=by
     intro m cZ tp H;have gen:=fun {r h'} (hm:∀ e∈m,e.cells.length=ei.size) Bq=>Fs (h:=h) (r:=r) (h':=h') hE hx ht jF tn cJ cZ bP (Nat.eq_of_beq_eq_true q1) (gq q2) (Nat.le_of_ble_eq_true q3) hb hm (tp hm) ha Bq;unfold yo at H;split at H
     ·obtain ⟨⟨h1,h2⟩,H⟩:=kP H;rw [pv,Nat.zero_add] at H;exact .inr ⟨_,_,H,gen h2 (.inr ⟨rfl,h1,rfl,rfl⟩)⟩
     ·rcases a8 H with h | ⟨bx,gw,H⟩
      ·exact .inl h
      split at H
      ·split at H
       ·rename_i p1 p2 p3;have p1:=Nat.eq_of_beq_eq_true p1;subst p1;obtain ⟨⟨h1,h2⟩,H⟩:=kP H;rw [fQ] at H;exact .inr ⟨_,_,H,gen h2 (.inl ⟨_,_,_,_,rfl,gw,Nat.eq_of_beq_eq_true p2,Nat.eq_of_beq_eq_true p3,h1,rfl,rfl⟩)⟩
       ·exact .inl H
      ·exact .inl H
     ·exact .inl H
    split at H
    ·rename_i e' m cZ;exact fin m (fun k hk=>by rw [cZ] at hk; cases hk) (fun hm c v hv=>by cases hv with | d _ _ hv=>exact Fj (gq q2) hm hv) H
    ·rename_i z cZ;split at H
     ·refine fin (z.map lT) (fun k hk=>by rw [cZ] at hk; cases hk) (fun hm c v hv=>?_) H;have eF:=ni hv;subst eF;by_cases hz:z=[]
      ·subst hz;exact ⟨[],⟨fun _=>by simp [Builtin.lenOf,ByteArray.size],fun d=>by simp [Builtin.firstCells],fun v hv=>by simp at hv,by simp⟩,fun j y v hy=>by simp [flat] at hy⟩
      ·obtain ⟨b0,r,hr⟩:=List.exists_cons_of_ne_nil hz;have h1:1=ei.size:=hm (lT b0) (by rw [hr]; simp);rw [← h1];exact ⟨_,Fk.1,(Fk (P:=E.P)).2⟩
     ·exact .inl H
    ·exact .inl H
   ·exact .inl H
  ·exact .inl H
 ·rcases a8 H with h | ⟨i,hi,H⟩
  ·exact .inl h
  split at H
  ·rename_i e hk;rcases a8 H with h | ⟨ei,bP,H⟩
   ·exact .inl h
   split at H
   ·rename_i q1 q2 q3 q4;rcases bW H with h | ⟨a,ha,H⟩
    ·exact .inl h
    split at H
    ·rcases bW H with h | ⟨b,hb,H⟩
     ·exact .inl h
     split at H
     ·split at H
      ·rename_i z jD;obtain ⟨⟨h1,h2,h3⟩,H⟩:=kP H;rw [pv,Nat.zero_add] at H;have ia:z.ep=true:=by rw [jD] at q4; simpa using q4
       exact .inr ⟨_,_,H,Fu hE hi hk bP (Nat.eq_of_beq_eq_true q1) (gq q2) (Nat.le_of_ble_eq_true q3) (fun y hy=>List.all_eq_true.1 q4 y hy) ha hb h1 h2 h3 (zd:=z) (by rw [jD]; cases z <;> first | rfl | cases ia)⟩
      ·obtain ⟨⟨h1,h2,h3⟩,H⟩:=kP H;rw [pv,Nat.zero_add] at H;exact .inr ⟨_,_,H,Fu hE hi hk bP (Nat.eq_of_beq_eq_true q1) (gq q2) (Nat.le_of_ble_eq_true q3) (fun y hy=>List.all_eq_true.1 q4 y hy) ha hb h1 h2 h3 rfl⟩
     ·exact .inl H
    ·exact .inl H
   ·exact .inl H
  ·exact .inl H
 ·exact .inl H
end
end Go.ax
end
section
namespace Go.ax
open Go Go.RowKit
@[irreducible] def pF (l : List DV) (sz : Nat) (n : Int) (K : DV → Prop) : Prop := ∃ e, 0 ≤ n ∧ l[n.toNat]? = some e ∧ e.cells.length = sz ∧ K e
theorem eu {l:List DV} {sz:Nat} {n:Int} {K:DV→Prop} (e:DV) (h0:0≤n) (he:l[n.toNat]? = some e) (hs:e.cells.length=sz) (k:K e):pF l sz n K:=by unfold pF; exact ⟨e,h0,he,hs,k⟩
theorem Br {l:List DV} {sz:Nat} {n:Int} {K:DV→Prop} (h:pF l sz n K):∃ e,0≤n∧l[n.toNat]? = some e∧e.cells.length=sz∧K e:=by unfold pF at h; exact h
@[irreducible] def vF (s : List UInt8) (n : Int) (K : UInt8 → Prop) : Prop := ∃ b, 0 ≤ n ∧ s[n.toNat]? = some b ∧ K b
theorem jl {s:List UInt8} {n:Int} {K:UInt8→Prop} (b:UInt8) (h0:0≤n) (hb:s[n.toNat]? = some b) (k:K b):vF s n K:=by unfold vF; exact ⟨b,h0,hb,k⟩
theorem Mq {s:List UInt8} {n:Int} {K:UInt8→Prop} (h:vF s n K):∃ b,0≤n∧s[n.toNat]? = some b∧K b:=by unfold vF at h; exact h
@[irreducible] def vG (c : List DV) (len sz : Nat) (n : Int) (K : DV → Prop) : Prop := ∃ e, 0 ≤ n ∧ n < len ∧ 0 < sz ∧ (c.drop (n.toNat * sz)).take sz = e.cells ∧ e.cells.length = sz ∧ K e
theorem Mr {c:List DV} {len sz:Nat} {n:Int} {K:DV→Prop} (e:DV) (h0:0≤n) (h1:n<len) (hz:0<sz) (he:(c.drop (n.toNat*sz)).take sz=e.cells) (hs:e.cells.length=sz) (k:K e):vG c len sz n K:=by unfold vG; exact ⟨e,h0,h1,hz,he,hs,k⟩
theorem Ms {c:List DV} {len sz:Nat} {n:Int} {K:DV→Prop} (h:vG c len sz n K):∃ e,0≤n∧n<len∧0<sz∧(c.drop (n.toNat*sz)).take sz=e.cells∧e.cells.length=sz∧K e:=by unfold vG at h; exact h
def yr (G:List (Nat × DV)) (s:List AV) (x:Option Operand) (stop:Prop) (k:Option Int→Prop):Prop :=
 match x with
 |none=>k none
 |some x=>bS G s x stop fun
  | .d (.int _ n)=>k (some n)
  |_=>stop
def yu (e:DV) (off:Nat) (ds:List DV) (stop:Prop) (k:DV→Prop):Prop :=
 match e with
 | .agg c=>match Nat.ble (off+ds.length) c.length with
  |true=>sP c off ds fun c'=>k (.agg c')
  |false=>stop
 |_=>match off,ds with
  | 0,[d]=>match d.ep with
   |true=>k d
   |false=>stop
  |_,_=>stop
def Bs (e:DV) (off:Nat) (vs:List AV) (stop:Prop) (k:DV→Prop):Prop:=oc vs stop fun ds=>yu e off ds stop k
def ow (T:List bk) (G:List (Nat × DV)) (o:Op) (s:List AV) (h:List ae) (stop:Prop) (k:AV→List ae→Prop):Prop :=
 match o with
 | .indexAddr t x i=>aO T t stop fun ti=>bS G s x stop fun a=>bS G s i stop fun
  | .d (.int _ n)=>match ti.k with
   | .slice e=>aO T e stop fun ei=>match a with
    | .d (.sl l)=>match Nat.blt 0 ei.size with
     |true=>pF l ei.size n fun e=>k (.bJ e 0) h
     |false=>stop
    | .own b g=>aO h b stop fun
     | .arr g' ts l=>match Nat.beq g g',Nat.beq ts.2 ei.size with
      |true,true=>need (0≤n∧n<l.length) (k (.cC b g n.toNat 0) h)
      |_,_=>stop
     |_=>stop
    |_=>stop
   | .array len e=>aO T e stop fun ei=>match a with
    | .bJ (.agg c) 0=>vG c len ei.size n fun e'=>k (.bJ e' 0) h
    |_=>stop
   |_=>stop
  |_=>stop
 | .index t x i=>aO T t stop fun ti=>bS G s x stop fun a=>bS G s i stop fun
  | .d (.int _ n)=>match ti.k,a with
   | .string,.d (.str l)=>vF l n fun b=>k (.d (.int .u8 b.toNat)) h
   |_,_=>stop
  |_=>stop
 | .slice t x lo hi none=>aO T t stop fun ti=>bS G s x stop fun a=>yr G s lo stop fun l=>yr G s hi stop fun u=>match ti.k,a with
  | .string,.d (.str z)=>need (0≤l.getD 0∧l.getD 0≤u.getD z.length∧u.getD z.length≤z.length) (k (.d (.str ((z.take (u.getD z.length).toNat).drop (l.getD 0).toNat))) h)
  | .slice e,.d (.sl z)=>aO T e stop fun ei=>need (0≤l.getD 0∧l.getD 0≤u.getD z.length∧u.getD z.length≤z.length∧∀ e∈z,e.cells.length=ei.size) (k (.d (.sl ((z.take (u.getD z.length).toNat).drop (l.getD 0).toNat))) h)
  |_,_=>stop
 | .load t x=>aO T t stop fun ti=>bS G s x stop fun
  | .cC b g i off=>aO h b stop fun
   | .arr g' ts l=>match Nat.beq g g' with
    |true=>pF l ts.2 i fun e=>match e with
     | .agg c=>mA .d c fun c'=>jC ti c' off stop fun v=>k v h
     |e=>jC ti [.d e] off stop fun v=>k v h
    |false=>stop
   |_=>stop
  |_=>stop
 | .store t x y=>aO T t stop fun ti=>bS G s y stop fun v=>bS G s x stop fun
  | .cC b g i off=>aO h b stop fun
   | .arr g' ts l=>match Nat.beq g g' with
    |true=>sR v stop fun vs=>match Nat.beq vs.length ti.size,vs.all AV.ep with
     |true,true=>pF l ts.2 i fun e=>Bs e off vs stop fun e'=>fk h b (.arr g ts (l.set i e')) fun h'=>k (.d .undef) h'
     |_,_=>stop
    |false=>stop
   |_=>stop
  |_=>stop
 |o=>qZ T G o s h stop k
section
variable {E:Env} {s:List AV} {h:List ae} {c:Cx}
theorem Bt {P:Program} {t e:Nat} {i ei:bk} (ht:ec P t=some i) (Mt:ec P e=some ei) (hk:i.k = .slice e) {j:IntKind} {n:Int} {b o len cap:Nat} {w:World} (h0:0≤n) (h1:n<len) :
  (Instr.indexAt t (.slice (some ⟨b,o,none⟩) len cap) (.int j n)).run P w = .ok (.pointer (some ⟨b,o+n.toNat*ei.size,none⟩)) w:=by
 obtain ⟨ti,d,g1,g2,g3,-⟩:=cm ht;obtain rfl:=kg (hk.symm.trans g3);simp only [Instr.indexAt,asIntOf,Sem.run_bind,Sem.run_pure,Result.andThen_ok,run_underlying g2,h0,h1,and_self,if_true,run_sizeOf Mt,lK]
theorem vH {P:Program} {o:Oper} {ac:Act} {w:World} {t:Nat} {x i:Operand} {v:Value} (h1:o.op = .indexAddr t x i) (hr:(Instr.indexAt t (ac.eval x) (ac.eval i)).run P w = .ok v w):(execOp ac.eval o).run P w = .ok (.value v) w:=by
 simp only [execOp,h1,Sem.run_bind,hr,Result.andThen_ok,Sem.run_pure]
theorem Mu {l:List DV} {v:Value} (hv:VR c (.d (.sl l)) v) {n sz:Nat} {e:DV} (he:l[n]? = some e) (hs:e.cells.length=sz) (cA:0<sz):∃ blk off cap,v = .slice (some ⟨blk,off,none⟩) l.length cap∧VR c (.bJ e 0) (.pointer (some ⟨blk,off+n*sz,none⟩)):=by
 cases hv with
 |d _ _ hd=>cases hd with
  |slnil=>simp at he
  |jB=>simp at he
  |sl _ blk off cap cL f hb bY iw hlen dq bD bZ =>
   obtain rfl:cL=sz:=(hlen n e he).symm.trans hs;refine ⟨blk,off,cap,rfl,?_⟩;have aJ:l≠[]:=fun h0=>by subst h0; simp at he
   have:=VR.bJ (c:=c) e 0 blk (off+n*cL) (fun j=>f n j) (hb aJ) (fun h0=>by rw [h0] at hs; simp at hs; omega) (fun j x hx=>by rw [Nat.add_assoc]; exact dq n j e x he hx) (fun j x hx=>bD n j e x he hx);exact this
theorem Mv (hE:E.OK) {t e:Nat} {x i:Operand} {ti ei:bk} (bO:E.T[t]? = some ti) (bP:E.T[e]? = some ei) (hk:ti.k = .slice e) {l:List DV} {j:IntKind} {n:Int} (hx:aZ E.G s x (.d (.sl l))) (hi:aZ E.G s i (.d (.int j n))) (cA:0<ei.size) {y:DV} (h0:0≤n) (hy:l[n.toNat]? = some y) (hs:y.cells.length=ei.size) :
  bC E (.indexAddr t x i) s h (.bJ y 0) h := .quiet fun o c ac h1 _ h3 h4=>by
 obtain ⟨blk,off,cap,e1,e2⟩:=Mu (hx c ac h3 h4) hy hs cA;refine ⟨_,vH h1 ?_,e2⟩;rw [e1,dM (hi c ac h3 h4)];have:=aT hy;exact Bt (hE.types t ti bO) (hE.types e ei bP) hk h0 (by omega)
theorem Fw {b g i off:Nat} {ts:Nat × Nat} {l:List DV} (hb:c.heap[b]? = some (.arr g ts l)) {v:Value} (hv:VR c (.cC b g i off) v):∃ blk cap,c.own b=some (blk,cap)∧v = .pointer (some ⟨blk,i*ts.2+off,none⟩)∧i<l.length:=by
 cases hv with
 |cC _ _ _ _ _ l' blk cap k1 k2 k3=>rw [hb] at k1; cases k1; exact ⟨blk,cap,k2,rfl,k3⟩
 |kc _ _ g' _ _ _ _ _ k1 k2 _=>rw [hb] at k1; cases k1; omega
 |ke _ _ _ _ _ k1 _=>rw [hb] at k1; cases k1
theorem Mw (hE:E.OK) {t e:Nat} {x i:Operand} {ti ei:bk} (bO:E.T[t]? = some ti) (bP:E.T[e]? = some ei) (hk:ti.k = .slice e) {b g:Nat} {ts:Nat × Nat} {l:List DV} (hb:h[b]? = some (.arr g ts l)) (gE:ts.2=ei.size) {j:IntKind} {n:Int} (hx:aZ E.G s x (.own b g)) (hi:aZ E.G s i (.d (.int j n))) (h0:0≤n) (h1:n<l.length) :
  bC E (.indexAddr t x i) s h (.cC b g n.toNat 0) h := .quiet fun o c ac e1 e2 h3 h4=>by
 subst e2;rcases lU hb (hx c ac h3 h4) with ⟨blk,cap,q1,q2⟩ | ⟨rfl,-,-⟩
 ·refine ⟨_,vH e1 (v := .pointer (some ⟨blk,0+n.toNat*ei.size,none⟩)) ?_,?_⟩
  ·rw [q2,dM (hi c ac h3 h4)];exact Bt (hE.types t ti bO) (hE.types e ei bP) hk h0 h1
  ·have:=VR.cC (c:=c) b g n.toNat 0 ts l blk cap hb q1 (by omega);rw [gE] at this
   simpa using this
 ·simp at h1; omega
theorem Mx (hE:E.OK) {t e len:Nat} {x i:Operand} {ti ei:bk} (bO:E.T[t]? = some ti) (bP:E.T[e]? = some ei) (hk:ti.k = .array len e) {cs:List DV} {j:IntKind} {n:Int} (hx:aZ E.G s x (.bJ (.agg cs) 0)) (hi:aZ E.G s i (.d (.int j n))) {y:DV} (h0:0≤n) (h1:n<len) (cA:0<ei.size) (hy:(cs.drop (n.toNat*ei.size)).take ei.size=y.cells) (hs:y.cells.length=ei.size) :
  bC E (.indexAddr t x i) s h (.bJ y 0) h := .quiet fun o c ac e1 _ h3 h4=>by
 obtain ⟨kS,d,g1,g2,g3,-⟩:=cm (hE.types t ti bO);obtain rfl:=vj (hk.symm.trans g3);have key:∀ p,VR c (.bJ (.agg cs) 0) p→∃ blk o',p = .pointer (some ⟨blk,o',none⟩)∧VR c (.bJ y 0) (.pointer (some ⟨blk,o'+n.toNat*ei.size,none⟩)):=fun p hp=>by
  cases hp with
  |bJ _ _ blk o' f k1 k2 k3 k4 =>
   have dX:∀ (jj:Nat) (z:DV),y.cells[jj]? = some z→cs[n.toNat*ei.size+jj]? = some z:=fun jj z hz=>by
    rw [← hy,List.getElem?_take] at hz;split at hz
    ·simpa using hz
    ·cases hz
   exact ⟨blk,o'+0,rfl,VR.bJ y 0 blk (o'+0+n.toNat*ei.size) (fun jj=>f (n.toNat*ei.size+jj)) k1 (fun hh=>by rw [hh] at hs; simp at hs; omega) (fun jj z hz=>by rw [Nat.add_zero,Nat.add_assoc]; exact k3 _ z (dX jj z hz)) (fun jj z hz=>k4 _ z (dX jj z hz))⟩
 obtain ⟨blk,o',q1,q2⟩:=key _ (hx c ac h3 h4);refine ⟨_,vH e1 ?_,q2⟩;rw [q1,dM (hi c ac h3 h4)];simp only [Instr.indexAt,asIntOf,Sem.run_bind,Sem.run_pure,Result.andThen_ok,run_underlying g2,Instr.sureAddr,h0,h1,and_self,if_true,run_sizeOf (hE.types e ei bP),lK]
theorem My (hE:E.OK) {t:Nat} {x i:Operand} {ti:bk} (bO:E.T[t]? = some ti) (hk:ti.k = .string) {l:List UInt8} {j:IntKind} {n:Int} (hx:aZ E.G s x (.d (.str l))) (hi:aZ E.G s i (.d (.int j n))) {b:UInt8} (h0:0≤n) (hb:l[n.toNat]? = some b) :
  bC E (.index t x i) s h (.d (.int .u8 b.toNat)) h := .quiet fun o c ac e1 _ h3 h4=>by
 obtain ⟨kS,d,g1,g2,g3,-⟩:=cm (hE.types t ti bO);obtain rfl:=py (hk.symm.trans g3);have ai:=aT hb;have dX:(ByteArray.mk l.toArray)[n.toNat]? = some b:=by
  have hs:n.toNat<(ByteArray.mk l.toArray).size:=by simpa [ByteArray.size] using ai
  rw [getElem?_pos (ByteArray.mk l.toArray) n.toNat hs];have:=List.getElem?_eq_getElem ai;rw [hb] at this
  simpa [ByteArray.getElem_eq_getElem_data] using this.symm
 refine ⟨.int .u8 b.toNat,?_,.d _ _ (.int _ _)⟩;simp only [execOp,e1,ni (hx c ac h3 h4),dM (hi c ac h3 h4),Instr.index,asIntOf,Sem.run_bind,Sem.run_pure,Result.andThen_ok,run_underlying g2,h0,if_true,dX]
def vI (G:List (Nat × DV)) (s:List AV) (x:Option Operand) (n:Option Int):Prop:=∀ (c:Cx) (a:Act),aK G c→VS c s a.tmps→match n with
 |none=>x.map a.eval=none
 |some n=>∃ j,x.map a.eval=some (.int j n)
theorem Fx {x:Option Operand} {stop:Prop} {k:Option Int→Prop} (H:yr E.G s x stop k):stop∨∃ n,vI E.G s x n∧k n:=by
 unfold yr at H;split at H
 ·exact .inr ⟨none,fun _ _ _ _=>rfl,H⟩
 ·rcases bW H with h | ⟨v,hv,H⟩
  ·exact .inl h
  split at H
  ·rename_i j n;refine .inr ⟨some n,fun c a h1 h2=>?_,H⟩;show ∃ j,_=some (Value.int j n);exact ⟨j,by simp [dM (hv c a h1 h2)]⟩
  ·exact .inl H
theorem Fy {P:Program} {w:World} {isSlice:Bool} {len cap:Nat} {lo hi:Option Value} {l u:Option Int} (hl:match l with | none=>lo=none | some n=>∃ j,lo=some (.int j n)) (hu:match u with | none=>hi=none | some n=>∃ j,hi=some (.int j n))
  (h0:0≤l.getD 0) (h1:l.getD 0≤u.getD len) (h2:u.getD len≤len) (hc:len≤cap) :
  (Instr.sliceBounds isSlice len cap lo hi none).run P w = .ok ((l.getD 0).toNat,(u.getD len).toNat,cap) w:=by
 cases l with
 |none =>
  simp only at hl;subst hl;cases u with
  |none =>
   simp only at hu;subst hu;simp only [Instr.sliceBounds,Sem.run_bind,Sem.run_pure,Result.andThen_ok,Option.getD_none,Int.toNat_natCast,Int.toNat_zero]
  |some n =>
   obtain ⟨j,rfl⟩:=hu;simp only [Option.getD_some,Option.getD_none] at h1 h2;simp only [Instr.sliceBounds,Sem.run_bind,Sem.run_pure,Result.andThen_ok,Option.getD_none,Option.getD_some,Int.toNat_zero,run_sliceBound w j n cap _ h1 (by omega)]
 |some m =>
  obtain ⟨i,rfl⟩:=hl;cases u with
  |none =>
   simp only at hu;subst hu;simp only [Option.getD_some,Option.getD_none] at h0 h1;simp only [Instr.sliceBounds,Sem.run_bind,Sem.run_pure,Result.andThen_ok,Option.getD_none,Option.getD_some,Int.toNat_natCast,run_sliceBound w i m len _ h0 h1]
  |some n =>
   obtain ⟨j,rfl⟩:=hu;simp only [Option.getD_some] at h0 h1 h2;simp only [Instr.sliceBounds,Sem.run_bind,Sem.run_pure,Result.andThen_ok,Option.getD_some,run_sliceBound w j n cap _ (by omega) (by omega),run_sliceBound w i m n.toNat _ h0 (by omega)]
theorem Mz (l:List UInt8) (a b:Nat):(ByteArray.mk l.toArray).extract a b=ByteArray.mk ((l.take b).drop a).toArray:=by
 apply ByteArray.ext;simp [List.extract_eq_take_drop,List.drop_take]
theorem MA (hE:E.OK) {t:Nat} {x:Operand} {lo hi:Option Operand} {ti:bk} (bO:E.T[t]? = some ti) (hk:ti.k = .string) {z:List UInt8} {l u:Option Int} (hx:aZ E.G s x (.d (.str z))) (hl:vI E.G s lo l) (hu:vI E.G s hi u)
  (h0:0≤l.getD 0) (h1:l.getD 0≤u.getD z.length) (h2:u.getD z.length≤z.length):bC E (.slice t x lo hi none) s h (.d (.str ((z.take (u.getD z.length).toNat).drop (l.getD 0).toNat))) h := .quiet fun o c ac e1 _ h3 h4=>by
 obtain ⟨kS,d,g1,g2,g3,-⟩:=cm (hE.types t ti bO);obtain rfl:=py (hk.symm.trans g3);have bY:(ByteArray.mk z.toArray).size=z.length:=by simp [ByteArray.size]
 have hb:=Fy (P:=E.P) (w:=c.w) (isSlice:=false) (len:=z.length) (cap:=z.length) (hl c ac h3 h4) (hu c ac h3 h4) h0 h1 h2 (Nat.le_refl _);refine ⟨_,?_,.d _ _ (.str _)⟩;simp only [execOp,e1,ni (hx c ac h3 h4),Instr.sliceAt,Instr.slice,Sem.run_bind,Sem.run_pure,Result.andThen_ok,run_underlying g2,Option.map_none,Option.isSome_none,Bool.false_eq_true,if_false,bY,hb,Mz]
theorem Fz {bad:Nat→Prop} {w:World} {z:List DV} {v:Value} (hv:VD bad w (.sl z) v) {lo hi sz:Nat} (h1:lo≤hi) (h2:hi≤z.length) (bY:∀ e∈z,e.cells.length=sz):∃ a cap,v = .slice a z.length cap∧z.length≤cap∧VD bad w (.sl ((z.take hi).drop lo)) (.slice (if cap=lo then a else a.map (·.add (lo*sz))) (hi - lo) (cap - lo)):=by
 have hlen:((z.take hi).drop lo).length=hi - lo:=by simp; omega
 cases hv with
 |slnil =>
  simp at h2;subst h2;simp at h1;subst h1;exact ⟨none,0,rfl,Nat.le_refl _,by simpa using VD.slnil⟩
 |jB a =>
  simp at h2;subst h2;simp at h1;subst h1;exact ⟨some a,0,rfl,Nat.le_refl _,by simpa using VD.jB a⟩
 |sl _ blk off cap cL f hb yp iw mE dq bD bZ =>
  refine ⟨some ⟨blk,off,none⟩,cap,rfl,iw,?_⟩;by_cases hc:cap=lo
  ·have:hi=lo:=by omega
   subst this;have e:(z.take hi).drop hi=[]:=by simp
   rw [e,if_pos hc,Nat.sub_self];exact .sl [] blk off (cap - hi) cL f (fun h=>absurd rfl h) yp (Nat.zero_le _) (fun i e he=>by simp at he) (fun i j e x he=>by simp at he) (fun i j e x he=>by simp at he) (fun i j e x he=>by simp at he)
  ·rw [if_neg hc,← hlen];simp only [Option.map_some,lK];have dX:∀ (i:Nat) (e:DV),((z.take hi).drop lo)[i]? = some e→z[lo+i]? = some e:=fun i e he=>by
    simp only [List.getElem?_drop,List.getElem?_take] at he;split at he
    ·exact he
    ·cases he
   by_cases aJ:(z.take hi).drop lo=[]
   ·rw [aJ];exact .sl [] blk _ (cap - lo) cL f (fun h=>absurd rfl h) yp (Nat.zero_le _) (fun i e he=>by simp at he) (fun i j e x he=>by simp at he) (fun i j e x he=>by simp at he) (fun i j e x he=>by simp at he)
   ·obtain ⟨e0,r,hr⟩:=List.exists_cons_of_ne_nil aJ;have Bu:=dX 0 e0 (by rw [hr]; rfl);have lL:cL=sz:=(mE _ _ Bu).symm.trans (bY e0 (List.mem_of_getElem? Bu));subst lL;refine .sl _ blk (off+lo*cL) (cap - lo) cL (fun i j=>f (lo+i) j) (fun _=>hb (fun h=>by subst h; simp at Bu)) yp (by rw [hlen]; omega) (fun i e he=>mE _ _ (dX i e he)) (fun i j e x he hx=>?_) (fun i j e x he hx=>bD _ _ _ _ (dX i e he) hx) (fun i j e x he hx=>bZ _ _ _ _ (dX i e he) hx);have:=dq _ _ _ _ (dX i e he) hx;rw [Nat.add_mul] at this;rw [show off+lo*cL+(i*cL+j)=off+(lo*cL+i*cL+j) by omega];exact this
theorem MB (hE:E.OK) {t e:Nat} {x:Operand} {lo hi:Option Operand} {ti ei:bk} (bO:E.T[t]? = some ti) (bP:E.T[e]? = some ei) (hk:ti.k = .slice e) {z:List DV} {l u:Option Int} (hx:aZ E.G s x (.d (.sl z))) (hl:vI E.G s lo l) (hu:vI E.G s hi u)
  (h0:0≤l.getD 0) (h1:l.getD 0≤u.getD z.length) (h2:u.getD z.length≤z.length) (bY:∀ e∈z,e.cells.length=ei.size):bC E (.slice t x lo hi none) s h (.d (.sl ((z.take (u.getD z.length).toNat).drop (l.getD 0).toNat))) h := .quiet fun o c ac e1 _ h3 h4=>by
 obtain ⟨kS,d,g1,g2,g3,-⟩:=cm (hE.types t ti bO);obtain rfl:=kg (hk.symm.trans g3);have hv:=hx c ac h3 h4;generalize Bv:ac.eval x=v at hv;cases hv with
 |d _ _ hv =>
  obtain ⟨a,cap,rfl,iw,hd⟩:=Fz hv (lo:=(l.getD 0).toNat) (hi:=(u.getD z.length).toNat) (by omega) (by omega) bY;have hb:=Fy (P:=E.P) (w:=c.w) (isSlice:=true) (len:=z.length) (cap:=cap) (hl c ac h3 h4) (hu c ac h3 h4) h0 h1 h2 iw;refine ⟨_,?_,.d _ _ hd⟩;simp only [execOp,e1,Bv,Instr.sliceAt,Instr.slice,Sem.run_bind,Sem.run_pure,Result.andThen_ok,run_underlying g2,Option.map_none,hb,run_sizeOf (hE.types e ei bP)]
theorem aK.elem {G:List (Nat × DV)} (ho:aK G c) {b g:Nat} {ts:Nat × Nat} {l:List DV} (hb:c.heap[b]? = some (.arr g ts l)) {blk cap:Nat} (bA:c.own b=some (blk,cap)) {i:Nat} {e:DV} (he:l[i]? = some e) :
  ∃ (vs:Array Value) (us:List Value),c.w.heap[blk]? = some (.cells vs ts.1 (0,0))∧us.length=ts.2∧yc c.w blk (i*ts.2) us∧VL c (e.cells.map .d) us∧i*ts.2+ts.2≤vs.size:=by
 obtain ⟨q0,q1,q2⟩:=ho.box b _ hb;rcases q2 with ⟨q2,-⟩ | ⟨je,iz,vs,q2,q3,q4,q5,q6,q7⟩
 ·rw [bA] at q2; cases q2
 ·rw [bA] at q2; cases q2;have hlen:=q1 i e he;have hi:=aT he;have fE:i*ts.2+ts.2≤vs.size:=by
   rw [q4]
   calc i*ts.2+ts.2=(i+1)*ts.2:=by rw [Nat.add_mul,Nat.one_mul]
    _≤cap*ts.2:=Nat.mul_le_mul_right _ (by omega)
  refine ⟨vs,(vs.toList.drop (i*ts.2)).take ts.2,q3,by simp; omega,fun j v hv=>?_,.qM (by simp [hlen]; omega) (fun j x v hx hv=>?_),fE⟩
  ·rw [List.getElem?_take] at hv;split at hv
   ·rw [List.getElem?_drop] at hv;have:=kL q3 (i*ts.2+j) v hv
    simpa using this
   ·cases hv
  ·obtain ⟨u,k1,-,k2⟩:=q7 i j e x he hx;rw [List.getElem?_take] at hv;split at hv
   ·rw [List.getElem?_drop] at hv;have:vs[i*ts.2+j]? = some v:=by simpa using hv
    rw [k1] at this; cases this;exact k2
   ·cases hv
theorem FA (hE:E.OK) {t:Nat} {x:Operand} {ti:bk} (bO:E.T[t]? = some ti) {b g i off:Nat} {ts:Nat × Nat} {l:List DV} (hb:h[b]? = some (.arr g ts l)) (hx:aZ E.G s x (.cC b g i off)) {e:DV} (he:l[i]? = some e) {stop:Prop} {k:AV→Prop} {cs:List AV} (kn:cs=e.cells.map .d) (H:jC ti cs off stop k) :
  stop∨∃ v,k v∧bC E (.load t x) s h v h:=by
 rcases yd H with h1 | ⟨v,hk,hp⟩
 ·exact .inl h1
 refine .inr ⟨v,hk,.quiet fun o c ac h1 h2 h3 h4=>?_⟩;subst h2;obtain ⟨blk,cap,q1,q2,q3⟩:=Fw hb (hx c ac h3 h4);obtain ⟨vs,us,r1,r2,r3,r4,r5⟩:=h3.elem hb q1 he;obtain ⟨u,hu,od⟩:=hp E.P t c blk (i*ts.2) us (hE.types t ti bO) (by rw [kn]; exact r4) r3;refine ⟨u,?_,od⟩;simp only [execOp,h1,q2,Sem.run_bind,hu,Result.andThen_ok,Sem.run_pure]
theorem aK.MC {G:List (Nat × DV)} (ho:aK G c) {b g blk cap:Nat} {ts:Nat × Nat} {l:List DV} {vs:Array Value} (hb:c.heap[b]? = some (.arr g ts l)) (bA:c.own b=some (blk,cap)) (hblk:c.w.heap[blk]? = some (.cells vs ts.1 (0,0)))
  {i off:Nat} {e e':DV} (he:l[i]? = some e) (hs:e'.cells.length=ts.2) {us:List Value} (fE:off+us.length≤ts.2) (bZ:∀ u∈us,u.oneCell'=true)
  (hv:∀ (j:Nat) (x:DV),e'.cells[j]? = some x→(off≤j∧∃ v,us[j - off]? = some v∧VD c.bad c.w x v)∨((j<off∨off+us.length≤j)∧e.cells[j]? = some x)) :
  let c':Cx:={ c with heap:=c.heap.set b (.arr g ts (l.set i e')),w:=c.w.setCells blk (i*ts.2+off) us }
  aK G c'∧Step c c':=by
 intro c';obtain ⟨e1,e2,e3,e4⟩:=ye blk us (i*ts.2+off) c.w;have er:b<c.heap.length:=(ho.br b blk cap bA).2
 have aX:Step c c':={
  ay:=rfl
  bN:=ho.bN
  os:=e1
  tape:=e2
  output:=e3
  size:=Nat.le_of_eq e4.symm
  keep:=fun x _ hn=>sV blk us _ c.w x (fun e=>hn b cap (by rw [e]; exact bA))
  db:=fun i x n hi _=>⟨n,hi⟩
  boxes:=fun k bx hk=>by
   by_cases ox:k=b
   ·subst ox;rw [hb] at hk;cases hk;exact .inl ⟨g,l.set i e',by show (c.heap.set k _)[k]? = _; rw [List.getElem?_set_self er],.inr ⟨rfl,by simp,rfl⟩⟩
   ·have h':c'.heap[k]? = some bx:=by show (c.heap.set b _)[k]? = _; rw [List.getElem?_set_ne (Ne.symm ox)]; exact hk
    cases bx with
    |cells cs=>exact .inl ⟨cs,h',rfl,rfl⟩
    |arr g sz l=>exact .inl ⟨g,l,h',.inr ⟨rfl,rfl,rfl⟩⟩
    |map es=>exact .inl ⟨es,h',rfl⟩
    |gone=>exact h'
    |hole=>exact ⟨_,h'⟩ }
 refine ⟨ho.next aX (fun k x n hk=>⟨by show x<(c.w.setCells blk _ us).heap.size; rw [e4]; exact (ho.br k x n hk).1,by show k<(c.heap.set b _).length; rw [List.length_set]; exact (ho.br k x n hk).2⟩) ho.inj (fun k bx hk=>?_),aX⟩;by_cases ox:k=b
 ·subst ox;have iG:(c.heap.set k (.arr g ts (l.set i e')))[k]? = some bx:=hk;rw [List.getElem?_set_self er] at iG;cases iG;right;obtain ⟨q0,q1,q2⟩:=ho.box k _ hb;rcases q2 with ⟨q2,-⟩ | ⟨je,iz,vs',q2,q3,q4,q5,q6,q7⟩
  ·rw [bA] at q2; cases q2
  ·rw [bA] at q2; cases q2;rw [hblk] at q3; cases q3;have fF:=aT he;have Bw:gp ts.2 (l.set i e'):=gp.set q1 i hs;refine ⟨q0,Bw,.inr ⟨blk,cap,(cV vs.toList (i*ts.2+off) us).toArray,bA,yf blk ts.1 (0,0) us _ c.w vs hblk,by simp [vi,q4],by simpa using q5,q6,fun i' j e2 x h2 hx=>?_⟩⟩;have hj:j<ts.2:=by rw [← Bw i' e2 h2]; exact aT hx
   have dX:∀ (p:Nat),(cV vs.toList (i*ts.2+off) us)[p]? = if i*ts.2+off≤p∧p<i*ts.2+off+us.length∧p<vs.size then us[p - (i*ts.2+off)]? else vs[p]? := by
    intro p;have gen:∀ (us:List Value) (o:Nat) (q:List Value),(cV q o us)[p]? = if o≤p∧p<o+us.length∧p<q.length then us[p - o]? else q[p]? := by
     intro us
     induction us with
     |nil=>intro o q; rw [if_neg (by simp; omega)]; rfl
     |cons u us ih =>
      intro o q;rw [cV,ih];by_cases hp:o=p
      ·subst hp;rw [if_neg (by omega)];by_cases hq:o<q.length
       ·rw [if_pos (by simp; omega),List.getElem?_set_self hq]; simp
       ·rw [if_neg (by omega),List.getElem?_eq_none (by simp; omega),List.getElem?_eq_none (by omega)]
      ·by_cases hc:o+1≤p∧p<o+1+us.length∧p<q.length
       ·rw [if_pos (by simpa using hc),if_pos (by simp; omega)];rw [show p - o=(p - (o+1))+1 by omega];simp
       ·rw [if_neg (by simpa using hc),if_neg (by simp; omega),List.getElem?_set_ne hp]
    have:=gen us (i*ts.2+off) vs.toList
    simpa using this
   have VZ:i*ts.2+ts.2≤vs.size:=by
    rw [q4]
    calc i*ts.2+ts.2=(i+1)*ts.2:=by rw [Nat.add_mul,Nat.one_mul]
     _≤cap*ts.2:=Nat.mul_le_mul_right _ (by omega)
   show ∃ v,(cV vs.toList (i*ts.2+off) us).toArray[i'*ts.2+j]? = some v∧_;rw [List.getElem?_toArray,dX];by_cases Bx:i'=i
   ·subst Bx;rw [List.getElem?_set_self fF] at h2;cases h2;rcases hv j x hx with ⟨k1,v,k2,k3⟩ | ⟨k1,k2⟩
    ·have:=aT k2;rw [if_pos (by omega)];exact ⟨v,by rw [show i'*ts.2+j - (i'*ts.2+off)=j - off by omega]; exact k2,bZ v (List.mem_of_getElem? k2),aX.vd k3⟩
    ·rw [if_neg (by omega)];obtain ⟨v,r1,r2,r3⟩:=q7 i' j e x he k2;exact ⟨v,r1,r2,aX.vd r3⟩
   ·rw [List.getElem?_set_ne (Ne.symm Bx)] at h2;obtain ⟨v,r1,r2,r3⟩:=q7 i' j e2 x h2 hx;rw [if_neg ?_]
    ·exact ⟨v,r1,r2,aX.vd r3⟩
    ·rintro ⟨k1,k2,-⟩;rcases Nat.lt_or_gt_of_ne Bx with ai | rj
     ·have:(i'+1)*ts.2≤i*ts.2:=Nat.mul_le_mul_right _ ai;rw [Nat.add_mul,Nat.one_mul] at this;omega
     ·have:(i+1)*ts.2≤i'*ts.2:=Nat.mul_le_mul_right _ rj;rw [Nat.add_mul,Nat.one_mul] at this;omega
 ·left;have iG:(c.heap.set b (.arr g ts (l.set i e')))[k]? = some bx:=hk;rw [List.getElem?_set_ne (Ne.symm ox)] at iG;exact ⟨iG,rfl,fun x n hn=>sV blk us _ c.w x (fun e=>ox (ho.inj k b blk n cap (by rw [← e]; exact hn) bA))⟩
theorem MD {β:Type} (us:List β) (o:Nat) (q:List β) (p:Nat):(cV q o us)[p]? = if o≤p∧p<o+us.length∧p<q.length then us[p - o]? else q[p]? := by
 induction us generalizing o q with
 |nil=>rw [if_neg (by simp; omega)]; rfl
 |cons u us ih =>
  rw [cV,ih];by_cases hp:o=p
  ·subst hp;rw [if_neg (by omega)];by_cases hq:o<q.length
   ·rw [if_pos (by simp; omega),List.getElem?_set_self hq]; simp
   ·rw [if_neg (by omega),List.getElem?_eq_none (by simp; omega),List.getElem?_eq_none (by omega)]
  ·by_cases hc:o+1≤p∧p<o+1+us.length∧p<q.length
   ·rw [if_pos (by simpa using hc),if_pos (by simp; omega)];rw [show p - o=(p - (o+1))+1 by omega];simp
   ·rw [if_neg (by simpa using hc),if_neg (by simp; omega),List.getElem?_set_ne hp]
theorem FB {e:DV} (h:e.ep=true):e.cells=[e]:=by cases e <;> first | rfl | cases h
def By (e:DV) (off:Nat) (ds:List DV) (e':DV):Prop:=e'.cells.length=e.cells.length∧off+ds.length≤e.cells.length ∧
 ∀ (j:Nat) (x:DV),e'.cells[j]? = some x→(off≤j∧ds[j - off]? = some x)∨((j<off∨off+ds.length≤j)∧e.cells[j]? = some x)
theorem ME {e:DV} {off:Nat} {ds:List DV} {stop:Prop} {k:DV→Prop} (H:yu e off ds stop k):stop∨∃ e',k e'∧By e off ds e':=by
 unfold yu at H;split at H
 ·rename_i cs;split at H
  ·rename_i q;rw [AO] at H;have hq:=Nat.le_of_ble_eq_true q;refine .inr ⟨.agg (cV cs off ds),H,by simp [DV.cells,vi],hq,fun j x hx=>?_⟩;simp only [DV.cells] at hx;rw [MD] at hx;split at hx
   ·rename_i hc; exact .inl ⟨hc.1,hx⟩
   ·rename_i hc;refine .inr ⟨?_,hx⟩;have hj:=aT hx;omega
  ·exact .inl H
 ·rename_i oe;split at H
  ·rename_i d;split at H
   ·rename_i hd;have jE:e.cells=[e]:=by cases e <;> first | rfl | exact absurd rfl (oe _)
    refine .inr ⟨d,H,by rw [jE,FB hd]; rfl,by rw [jE]; simp,fun j x hx => .inl ⟨Nat.zero_le _,by rw [FB hd] at hx; simpa using hx⟩⟩
   ·exact .inl H
  ·exact .inl H
theorem MF {e:DV} {off:Nat} {vs:List AV} {stop:Prop} {k:DV→Prop} (H:Bs e off vs stop k):stop∨∃ (ds:List DV) (e':DV),vs=ds.map .d∧k e'∧By e off ds e':=by
 unfold Bs at H;rcases ve vs stop (fun ds=>yu e off ds stop k) with ⟨ds,h1,h2⟩ | h2
 ·rw [h2] at H;rcases ME H with h | ⟨e',h3,h4⟩
  ·exact .inl h
  ·exact .inr ⟨ds,e',h1,h3,h4⟩
 ·rw [h2] at H; exact .inl H
theorem MG (hE:E.OK) {t:Nat} {x y:Operand} {ti:bk} (bO:E.T[t]? = some ti) {b g i off:Nat} {ts:Nat × Nat} {l:List DV} (hb:h[b]? = some (.arr g ts l)) (hx:aZ E.G s x (.cC b g i off)) {v:AV} (hy:aZ E.G s y v) {ds:List DV} (hv:AY v (ds.map .d)) (bY:ds.length=ti.size) (MI:(ds.map AV.d).all AV.ep=true)
  {e e':DV} (he:l[i]? = some e) (kh:e.cells.length=ts.2) (hp:By e off ds e'):bC E (.store t x y) s h (.d .undef) (h.set b (.arr g ts (l.set i e'))):=fun o c ac h1 h2 h3 h4=>by
 subst h2;obtain ⟨blk,cap,q1,q2,q3⟩:=Fw hb (hx c ac h3 h4);obtain ⟨vs,V0,r1,r2,r3,r4,r5⟩:=h3.elem hb q1 he;obtain ⟨us,qN,jf⟩:=hv c _ (hy c ac h3 h4);have hlen:us.length=ds.length:=by rw [← jf.1]; simp
 obtain ⟨p1,p2,p3⟩:=hp;have bZ:∀ u∈us,u.oneCell'=true:=fun u hu=>by
  obtain ⟨j,hj,rfl⟩:=List.getElem_of_mem hu;have nn:j<(ds.map AV.d).length:=by rw [jf.1]; exact hj
  exact AX (jf.2 j _ us[j] (List.getElem?_eq_getElem nn) (by simp [hj])) (List.all_eq_true.1 MI _ (List.getElem_mem nn))
 have cq:=EX (P:=E.P) (w:=c.w) (b:=blk) (o:=i*ts.2+off) (hE.types t ti bO) qN (by omega) r1 (by omega) bZ
 obtain ⟨w1,w2⟩:=h3.MC (i:=i) (off:=off) (e':=e') (us:=us) hb q1 r1 he (by omega) (by omega) bZ (fun j x hx=>by
  rcases p3 j x hx with ⟨k1,k2⟩ | ⟨k1,k2⟩
  ·have ai:=aT k2;exact .inl ⟨k1,us[j - off]'(by omega),by simp [show j - off<us.length by omega],jf.nj (j - off) x _ k2 (by simp [show j - off<us.length by omega])⟩
  ·exact .inr ⟨by omega,k2⟩)
 refine ⟨_,Go.undef,.inr ⟨?_,rfl⟩,rfl,w1,.d _ _ .undef,w2⟩;simp only [execOp,h1,q2,Sem.run_bind,cq,Result.andThen_ok,Sem.run_pure]
theorem MJ (hE:E.OK) {o:Op} {stop:Prop} {k:AV→List ae→Prop} (H:ow E.T E.G o s h stop k):stop∨∃ v h',k v h'∧bC E o s h v h':=by
 unfold ow at H;split at H
 ·
  rcases a8 H with h | ⟨ti,bO,H⟩
  ·exact .inl h
  rcases bW H with h | ⟨a,ha,H⟩
  ·exact .inl h
  rcases bW H with h | ⟨b,hb,H⟩
  ·exact .inl h
  split at H
  ·split at H
   ·rename_i e hk;rcases a8 H with h | ⟨ei,bP,H⟩
    ·exact .inl h
    split at H
    ·split at H
     ·rename_i q;obtain ⟨y,h0,h1,h2,H⟩:=Br H;exact .inr ⟨_,_,H,Mv hE bO bP hk ha hb (gq q) h0 h1 h2⟩
     ·exact .inl H
    ·rcases a8 H with h | ⟨bx,gw,H⟩
     ·exact .inl h
     split at H
     ·split at H
      ·rename_i q1 q2;have:=Nat.eq_of_beq_eq_true q1;subst this;obtain ⟨⟨h0,h1⟩,H⟩:=kP H;exact .inr ⟨_,_,H,Mw hE bO bP hk gw (Nat.eq_of_beq_eq_true q2) ha hb h0 h1⟩
      ·exact .inl H
     ·exact .inl H
    ·exact .inl H
   ·rename_i len e hk;rcases a8 H with h | ⟨ei,bP,H⟩
    ·exact .inl h
    split at H
    ·obtain ⟨y,h0,h1,h2,h3,h4,H⟩:=Ms H;exact .inr ⟨_,_,H,Mx hE bO bP hk ha hb h0 h1 h2 h3 h4⟩
    ·exact .inl H
   ·exact .inl H
  ·exact .inl H
 ·
  rcases a8 H with h | ⟨ti,bO,H⟩
  ·exact .inl h
  rcases bW H with h | ⟨a,ha,H⟩
  ·exact .inl h
  rcases bW H with h | ⟨b,hb,H⟩
  ·exact .inl h
  split at H
  ·split at H
   ·have hk:ti.k = .string:=by assumption
    obtain ⟨y,h0,h1,H⟩:=Mq H;exact .inr ⟨_,_,H,My hE bO hk ha hb h0 h1⟩
   ·exact .inl H
  ·exact .inl H
 ·
  rcases a8 H with h | ⟨ti,bO,H⟩
  ·exact .inl h
  rcases bW H with h | ⟨a,ha,H⟩
  ·exact .inl h
  rcases Fx H with h | ⟨l,hl,H⟩
  ·exact .inl h
  rcases Fx H with h | ⟨u,hu,H⟩
  ·exact .inl h
  split at H
  ·have hk:ti.k = .string:=by assumption
   obtain ⟨⟨h0,h1,h2⟩,H⟩:=kP H;exact .inr ⟨_,_,H,MA hE bO hk ha hl hu h0 h1 h2⟩
  ·rcases a8 H with h | ⟨ei,bP,H⟩
   ·exact .inl h
   obtain ⟨⟨h0,h1,h2,h3⟩,H⟩:=kP H;exact .inr ⟨_,_,H,MB hE bO bP (by assumption) ha hl hu h0 h1 h2 h3⟩
  ·exact .inl H
 ·
  rcases a8 H with h | ⟨ti,bO,H⟩
  ·exact .inl h
  rcases bW H with h | ⟨a,ha,H⟩
  ·exact .inl h
  split at H
  ·rcases a8 H with h | ⟨bx,gw,H⟩
   ·exact .inl h
   split at H
   ·split at H
    ·rename_i q;have:=Nat.eq_of_beq_eq_true q;subst this;obtain ⟨e,h0,h1,h2,H⟩:=Br H;rw [Int.toNat_natCast] at h1;split at H
     ·rw [qH] at H;rcases FA hE bO gw ha h1 rfl H with h | ⟨v,H,hv⟩
      ·exact .inl h
      ·exact .inr ⟨_,_,H,hv⟩
     ·rename_i oe;rcases FA hE bO gw ha h1 (by cases e <;> first | rfl | exact absurd rfl (oe _)) H with h | ⟨v,H,hv⟩
      ·exact .inl h
      ·exact .inr ⟨_,_,H,hv⟩
    ·exact .inl H
   ·exact .inl H
  ·exact .inl H
 ·
  rcases a8 H with h | ⟨ti,bO,H⟩
  ·exact .inl h
  rcases bW H with h | ⟨v,hv,H⟩
  ·exact .inl h
  rcases bW H with h | ⟨a,ha,H⟩
  ·exact .inl h
  split at H
  ·rcases a8 H with h | ⟨bx,gw,H⟩
   ·exact .inl h
   split at H
   ·split at H
    ·rename_i q;have:=Nat.eq_of_beq_eq_true q;subst this;rcases ya H with h | ⟨vs,eG,H⟩
     ·exact .inl h
     split at H
     ·rename_i q1 q2;obtain ⟨e,h0,h1,h2,H⟩:=Br H;rw [Int.toNat_natCast] at h1;rcases MF H with h | ⟨ds,e',rfl,H,hp⟩
      ·exact .inl h
      rw [fQ] at H;exact .inr ⟨_,_,H,MG hE bO gw ha hv eG (by have:=Nat.eq_of_beq_eq_true q1; simpa using this) q2 h1 h2 hp⟩
     ·exact .inl H
    ·exact .inl H
   ·exact .inl H
  ·exact .inl H
 ·exact Mp hE H
end
end Go.ax
end
section
namespace Go.ax
open Go Go.RowKit
def Bz (op:BinOp) (j:IntKind) (a b:Int):Int :=
 let x:=BitVec.ofInt j.bits a
 let y:=BitVec.ofInt j.bits b
 match op with
 | .and=>j.wrap (x &&& y).toNat
 | .or=>j.wrap (x ||| y).toNat
 | .xor=>j.wrap (x ^^^ y).toNat
 |_=>j.wrap (x &&& ~~~y).toNat
def oy (op:BinOp) (j:IntKind) (a:Int) (n:Nat):Int:=match op with
 | .shl=>j.wrap (a*2 ^ min n j.bits)
 |_=>a.fdiv (2 ^ min n j.bits)
def FC:BinOp→Bool
 | .and | .or | .xor | .andNot=>true
 |_=>false
def FD:BinOp→Bool
 | .shl | .shr=>true
 |_=>false
def FE:BinOp→Bool
 | .quo | .rem=>true
 |_=>false
def BA (op:BinOp) (j:IntKind) (a b:Int):Int:=match op with
 | .quo=>j.wrap (a.tdiv b)
 |_=>a.tmod b
def vJ (d:Nat):List Nat→Bool
 | []=>false
 |a::l=>match Nat.beq a d with
  |true=>true
  |false=>vJ d l
theorem vK {a b:Nat} (h:Nat.blt a b=true):a<b:=Nat.le_of_ble_eq_true h
theorem yv {d:Nat}:∀ {l:List Nat},vJ d l=true→d∈l
 | [],h=>by cases h
 |a::l,h=>by
  unfold vJ at h;split at h
  ·rename_i q; rw [Nat.eq_of_beq_eq_true q]; exact List.mem_cons_self ..
  ·exact List.mem_cons_of_mem _ (yv h)
section
variable {E:Env} {s:List AV} {h:List ae} {c:Cx} {G:List (Nat × DV)}
theorem MK {op:BinOp} (b9:FC op=true) {t t':TypeId} {x y:Operand} {j:IntKind} {a b:Int} (hx:aZ E.G s x (.d (.int j a))) (hy:aZ E.G s y (.d (.int j b))):bC E (.binOp op t x y t') s h (.d (.int j (Bz op j a b))) h :=
 .quiet fun o c ac h1 _ h3 h4=>by
  have e1:=dM (hx c ac h3 h4);have e2:=dM (hy c ac h3 h4);refine ⟨.int j (Bz op j a b),oh h1 (by rw [e1,e2]; exact sW ..) ?_,.d _ _ (.int _ _)⟩;rw [e1,e2];cases op <;> first | (simp only [binOp,ne_eq,not_true_eq_false,if_false,Op.intBits]; rfl) | cases b9
theorem ML {op:BinOp} (b9:FD op=true) {t t':TypeId} {x y:Operand} {j j':IntKind} {a:Int} {b:Int} (hb:0≤b) (hx:aZ E.G s x (.d (.int j a))) (hy:aZ E.G s y (.d (.int j' b))):bC E (.binOp op t x y t') s h (.d (.int j (oy op j a b.toNat))) h :=
 .quiet fun o c ac h1 _ h3 h4=>by
  have e1:=dM (hx c ac h3 h4);have e2:=dM (hy c ac h3 h4);refine ⟨.int j (oy op j a b.toNat),oh h1 (by rw [e1,e2]; exact sW ..) ?_,.d _ _ (.int _ _)⟩;rw [e1,e2];have hn:¬ (b<0):=by omega
  cases op <;> first | (simp only [binOp,Op.shift,hn,if_false]; rfl) | cases b9
def pG {α:Sort _} (kd:TK) (a b:DV) (stop:α) (k:Bool→α):α :=
 match kd,a,b with
 | .int _,.int j m,.int j' n=>match IntKind.same j j' with
  |true=>k (m==n)
  |false=>stop
 | .string,.str m,.str n=>k (m==n)
 | .bool,.bool m,.bool n=>k (m==n)
 |_,_,_=>stop
def lW {α:Sort _} (T:List bk):Nat→List (Nat × Nat)→List DV→List DV→(stop:α)→(Bool→α)→α
 |_,[],[],[],_,k=>k true
 |n,f::fs,a::l,b::m,stop,k=>match Nat.beq f.1 n with
  |true=>aO T f.2 stop fun i=>pG i.k a b stop fun p=>lW T (n+1) fs l m stop fun q=>k (p&&q)
  |false=>stop
 |_,_,_,_,stop,_=>stop
theorem MM {kd:TK} {a b:DV} {stop:Prop} {k:Bool→Prop} (H:pG kd a b stop k):stop∨∃ p,k p:=by
 unfold pG at H;split at H
 ·split at H
  ·exact .inr ⟨_,H⟩
  ·exact .inl H
 ·exact .inr ⟨_,H⟩
 ·exact .inr ⟨_,H⟩
 ·exact .inl H
theorem FF {T:List bk} {stop:Prop}:∀ {n:Nat} {fs:List (Nat × Nat)} {l m:List DV} {k:Bool→Prop},lW T n fs l m stop k→stop∨∃ p,k p
 |_,[],[],[],_,H => .inr ⟨_,H⟩
 |_,[],[],_::_,_,H => .inl H
 |_,[],_::_,_,_,H => .inl H
 |_,_::_,[],_,_,H => .inl H
 |_,_::_,_::_,[],_,H => .inl H
 |n,f::fs,a::l,b::m,k,H=>by
  simp only [lW] at H;split at H
  ·rcases a8 H with H | ⟨i,-,H⟩
   ·exact .inl H
   rcases MM H with H | ⟨p,H⟩
   ·exact .inl H
   rcases FF H with H | ⟨q,H⟩
   ·exact .inl H
   ·exact .inr ⟨_,H⟩
  ·exact .inl H
theorem MN {P:Program} {ft:Nat} {i:bk} (ht:ec P ft=some i) {a b:DV} {stop:Prop} {k:Bool→Prop} (H:pG i.k a b stop k):stop∨∃ p,k p∧i.k.agg=false ∧
  ∀ (bad:Nat→Prop) (w w':World) (u v:Value) (d:Nat),VD bad w a u→VD bad w b v→(Op.equalIn (d+1) ft u v).run P w' = .ok p w':=by
 obtain ⟨ti,td,g1,g2,g3,-⟩:=cm ht;unfold pG at H;split at H
 ·rename_i hk;split at H
  ·rename_i hs;obtain rfl:=px hs;refine .inr ⟨_,H,by rw [hk]; rfl,fun bad w w' u v d hu hv=>?_⟩;cases hu; cases hv;obtain rfl:=sX (hk.symm.trans g3);exact run_equalIn_int w' d ft _ _ _ _ g2
  ·exact .inl H
 ·rename_i hk;refine .inr ⟨_,H,by rw [hk]; rfl,fun bad w w' u v d hu hv=>?_⟩;cases hu; cases hv;obtain rfl:=py (hk.symm.trans g3);rw [run_equalIn_string w' d ft _ _ g2];simp
 ·rename_i hk;refine .inr ⟨_,H,by rw [hk]; rfl,fun bad w w' u v d hu hv=>?_⟩;cases hu; cases hv;have:td = .bool:=by rw [hk] at g3; cases td <;> first | rfl | cases g3
  subst this;exact run_equalIn_bool' w' _ ft _ _ g2
 ·exact .inl H
theorem FG {P : Program} {T : List bk} (hT : ∀ (t : Nat) (i : bk), T[t]? = some i → ec P t = some i) {stop : Prop} : ∀ {n : Nat} {fl : List Field} {l m : List DV} {k : Bool → Prop}, lW T n (fl.map fun f => (f.offset, f.type)) l m stop k → (∀ f ∈ fl, f.name ≠ "_") → stop ∨ ∃ p, k p ∧
  ∀ (bad:Nat→Prop) (w w':World) (xs ys:List Value) (d:Nat),(∀ (j:Nat) (x:DV),l[j]? = some x→∃ u,xs[n+j]? = some u∧VD bad w x u)→(∀ (j:Nat) (x:DV),m[j]? = some x→∃ u,ys[n+j]? = some u∧VD bad w x u)→(Op.eqFields (d+1) xs.toArray ys.toArray fl).run P w' = .ok p w':=by
 intro n fl
 induction fl generalizing n with
 |nil =>
  intro l m k H _;cases l with
  |nil=>cases m with
   |nil=>exact .inr ⟨true,H,fun bad w w' xs ys d _ _=>by simp only [Op.eqFields,Sem.run_pure]⟩
   |cons b m=>exact .inl H
  |cons a l=>exact .inl H
 |cons f fl ih =>
  intro l m k H hn;cases l with
  |nil=>exact .inl H
  |cons a l=>cases m with
   |nil=>exact .inl H
   |cons b m =>
    simp only [List.map_cons,lW] at H;split at H
    ·rename_i q;have q:=Nat.eq_of_beq_eq_true q;rcases a8 H with H | ⟨i,hi,H⟩
     ·exact .inl H
     rcases MN (hT _ i hi) H with H | ⟨p,H,eN,hp⟩
     ·exact .inl H
     rcases ih H (fun g hg=>hn g (List.mem_cons_of_mem _ hg)) with H | ⟨p',H,pw⟩
     ·exact .inl H
     refine .inr ⟨p&&p',H,fun bad w w' xs ys d hx hy=>?_⟩;obtain ⟨u,u1,u2⟩:=hx 0 a rfl;obtain ⟨v,v1,v2⟩:=hy 0 b rfl;rw [Nat.add_zero] at u1 v1;have yw:=hn f (List.mem_cons_self ..);simp only [Op.eqFields,ne_eq,yw,not_false_eq_true,if_true,Sem.run_bind];rw [q,yh (hT _ i hi) w' xs n u u1 eN,Result.andThen_ok,yh (hT _ i hi) w' ys n v v1 eN,Result.andThen_ok,hp bad w w' u v d u2 v2,Result.andThen_ok];cases p with
     |false=>simp
     |true =>
      simp only [Bool.not_true,Bool.false_eq_true,if_false,Bool.true_and];exact pw bad w w' xs ys d (fun j x hj=>by rw [show n+1+j=n+(j+1) by omega]; exact hx (j+1) x (by simpa using hj)) (fun j x hj=>by rw [show n+1+j=n+(j+1) by omega]; exact hy (j+1) x (by simpa using hj))
    ·exact .inl H
theorem FH (hE:E.OK) {op:BinOp} {t:Nat} {t':TypeId} {x y:Operand} {i:bk} (hi:E.T[t]? = some i) (hQ:t∈E.Q) {fs:List (Nat × Nat)} (hk:i.k = .struct fs) {l m:List DV} (hx:aZ E.G s x (.d (.agg l))) (hy:aZ E.G s y (.d (.agg m))) {stop:Prop} {k:Bool→Prop} (H:lW E.T 0 fs l m stop k) :
  stop∨∃ p,k p∧(op = .eql→∀ h,bC E (.binOp op t x y t') s h (.d (.bool p)) h)∧(op = .neq→∀ h,bC E (.binOp op t x y t') s h (.d (.bool !p)) h):=by
 obtain ⟨ti,d,g1,g2,g3,-⟩:=cm (hE.types t i hi);obtain ⟨fl,rfl,rfl⟩:=om (hk.symm.trans g3);have hq:=hE.eqs t hQ;simp only [x4,g2,Bool.and_eq_true,Bool.not_eq_true',List.all_eq_true,bne_iff_ne,ne_eq] at hq;obtain ⟨⟨q1,q2⟩,q3⟩:=hq;rcases FG hE.types H q3 with h | ⟨p,H,hp⟩
 ·exact .inl h
 have fS:E.P.fieldsOf t=fl:=by simp [Program.fieldsOf,g2]
 have val:∀ (c:Cx) (ac:Act),aK E.G c→VS c s ac.tmps→∃ xs ys:List Value,ac.eval x = .agg xs.toArray∧ac.eval y = .agg ys.toArray∧(Op.equalIn 10000 t (.agg xs.toArray) (.agg ys.toArray)).run E.P c.w = .ok p c.w:=by
  intro c ac h3 h4;have eQ:=hx c ac h3 h4;have eS:=hy c ac h3 h4;generalize ac.eval x=u at eQ;generalize ac.eval y=v at eS;cases eQ with
  |d _ _ eQ=>cases eQ with
   |agg _ xs x1 x2=>cases eS with
    |d _ _ eS=>cases eS with
     |agg _ ys y1 y2 =>
      refine ⟨xs.toList,ys.toList,by simp,by simp,?_⟩;rw [run_equalIn_struct c.w 9999 t _ _ (by rw [fS]; exact g2) q1,fS];refine hp c.bad c.w c.w xs.toList ys.toList 9998 (fun j z hz=>?_) (fun j z hz=>?_)
      ·have hj:=aT hz;rw [x1] at hj;exact ⟨xs[j],by simp [hj],x2 j z _ hz (by simp [hj])⟩
      ·have hj:=aT hz;rw [y1] at hj;exact ⟨ys[j],by simp [hj],y2 j z _ hz (by simp [hj])⟩
 have guard:∀ (op:BinOp) (xs ys:Array Value) (w:World),(eqGuard op t x y (.agg xs) (.agg ys)).run E.P w = .ok () w:=fun op xs ys w=>run_eqGuard_agg w op t x y xs ys q2;refine .inr ⟨p,H,fun e h=>?_,fun e h=>?_⟩
 ·subst e;refine .quiet fun o c ac h1 _ h3 h4=>⟨.bool p,?_,.d _ _ (.bool _)⟩;obtain ⟨xs,ys,e1,e2,e3⟩:=val c ac h3 h4;simp only [execOp,h1,e1,e2,Sem.run_bind,guard,Result.andThen_ok,run_eql_struct,e3,Sem.run_pure]
 ·subst e;refine .quiet fun o c ac h1 _ h3 h4=>⟨.bool !p,?_,.d _ _ (.bool _)⟩;obtain ⟨xs,ys,e1,e2,e3⟩:=val c ac h3 h4;simp only [execOp,h1,e1,e2,Sem.run_bind,guard,Result.andThen_ok,run_neq_struct,e3,Sem.run_pure]
theorem MO (hE:E.OK) {t0 t e:Nat} {x:Operand} {i0 i ei:bk} (jF:E.T[t0]? = some i0) (hi:E.T[t]? = some i) (bP:E.T[e]? = some ei) (hk:i.k = .slice e) (vL:ei.k = .int .u8) {l:List UInt8} (hx:aZ E.G s x (.d (.str l))) :
  bC E (.convert t0 t x) s h (.d (.sl (l.map lT))) h:=fun o c ac h1 h2 h3 h4=>by
 obtain ⟨yg,d0,k1,k2,-⟩:=cm (hE.types t0 i0 jF);obtain ⟨ti,d,g1,g2,g3,-⟩:=cm (hE.types t i hi);obtain rfl:=kg (hk.symm.trans g3);obtain ⟨tie,de,q1,q2,q3,-⟩:=cm (hE.types e ei bP);obtain rfl:=sX (vL.symm.trans q3);have ex:=ni (hx c ac h3 h4);have cq:=Lib.run_convert_string_bytes (P:=E.P) c.w t0 t e ⟨l.toArray⟩ k2 g2 q2;have MP:Proofs.YtfmdaiojokniiaaGreatDoor.Ext c.w (Lib.bytesWorld c.w e ⟨l.toArray⟩):=⟨rfl,rfl,rfl,by rw [Lib.bytesWorld_size]; omega,fun b hb=>Lib.bytesWorld_at_old c.w e _ b hb⟩;obtain ⟨r1,r2⟩:=h3.grow MP;refine ⟨c.dL (Lib.bytesWorld c.w e ⟨l.toArray⟩),_,.inl (by simp only [execOp,h1,ex,Sem.run_bind,cq,Result.andThen_ok,Sem.run_pure]; rfl),h2,r1,.d _ _ ?_,r2⟩;have bY:(ByteArray.mk l.toArray).size=(l.map lT).length:=by simp [ByteArray.size]
 rw [bY];have dq:∀ (j:Nat) (b:UInt8),l[j]? = some b→(Lib.bytesWorld c.w e ⟨l.toArray⟩).cell? ⟨c.w.heap.size,0+(j*1+0),none⟩=some (.int .u8 b.toNat):=fun j b hb=>by
  have hj:=aT hb;rw [show 0+(j*1+0)=j by omega,Lib.bytesWorld_cell c.w e _ j (by simp [ByteArray.size]; exact hj)];simp [List.getD,hb]
 have key:∀ (i j:Nat) (a y:DV),(l.map lT)[i]? = some a→a.cells[j]? = some y→∃ b,l[i]? = some b∧j=0∧y = .int .u8 b.toNat:=fun i j a y ha hy=>by
  rw [List.getElem?_map] at ha;cases hb:l[i]? with
  |none=>rw [hb] at ha; cases ha
  |some b =>
   rw [hb] at ha;cases ha;simp only [lT,DV.cells] at hy;cases j with
   |zero=>simp at hy; exact ⟨b,rfl,rfl,hy.symm⟩
   |succ j=>simp at hy
 refine .sl _ c.w.heap.size 0 _ 1 (fun i _ => .int .u8 (l.getD i 0).toNat) (fun _ hb=>?_) (by omega) ?_ (fun i a ha=>?_) (fun i j a y ha hy=>?_) (fun i j a y ha hy=>?_) (fun i j a y ha hy=>rfl)
 ·rcases hb with hb | ⟨i,n,hi⟩
  ·have:=h3.bN _ hb; omega
  ·have:=(h3.br i _ n hi).1; omega
 ·rw [List.length_map];have:=grownCap_ge c.w l.length 0 e
  simpa [ByteArray.size] using this
 ·rw [List.getElem?_map] at ha;cases hb:l[i]? with
  |none=>rw [hb] at ha; cases ha
  |some b=>rw [hb] at ha; cases ha; rfl
 ·obtain ⟨b,hb,rfl,rfl⟩:=key i j a y ha hy;refine (dq i b hb).trans ?_;simp [List.getD,hb]
 ·obtain ⟨b,hb,rfl,rfl⟩:=key i j a y ha hy;simp only [List.getD,hb,Option.getD_some];exact .int _ _
theorem MQ {op:BinOp} (b9:FE op=true) {t t':TypeId} {x y:Operand} {j:IntKind} {a b:Int} (hb:b≠0) (hx:aZ E.G s x (.d (.int j a))) (hy:aZ E.G s y (.d (.int j b))):bC E (.binOp op t x y t') s h (.d (.int j (BA op j a b))) h :=
 .quiet fun o c ac h1 _ h3 h4=>by
  have e1:=dM (hx c ac h3 h4);have e2:=dM (hy c ac h3 h4);refine ⟨.int j (BA op j a b),oh h1 (by rw [e1,e2]; exact sW ..) ?_,.d _ _ (.int _ _)⟩;rw [e1,e2];cases op <;> first | (simp only [binOp,ne_eq,not_true_eq_false,if_false,Op.intDiv,hb]; rfl) | cases b9
theorem MR {t t':TypeId} {x y:Operand} {a b:List UInt8} (hl:a.length+b.length≤9223372036854775807) (hx:aZ E.G s x (.d (.str a))) (hy:aZ E.G s y (.d (.str b))):bC E (.binOp .add t x y t') s h (.d (.str (a++b))) h :=
 .quiet fun o c ac h1 _ h3 h4=>by
  have e1:=ni (hx c ac h3 h4);have e2:=ni (hy c ac h3 h4);have e:(⟨a.toArray⟩:ByteArray)++⟨b.toArray⟩=⟨(a++b).toArray⟩:=by
   apply ByteArray.ext;simp
  refine ⟨.string ⟨(a++b).toArray⟩,oh h1 (by rw [e1,e2]; rfl) ?_,.d _ _ (.str _)⟩;rw [e1,e2];have hn:¬ (((ByteArray.mk a.toArray).size+(ByteArray.mk b.toArray).size:Nat):Int)>IntKind.i64.max:=by
   simp [ByteArray.size,IntKind.max,IntKind.bits,IntKind.signed];omega
  simp only [binOp,Op.stringOp,hn,if_false,e];rfl
def vM (E:Env) (o:Op) (s:List AV) (stop:Prop) (k:AV→Prop):Prop :=
 match o with
 | .binOp op t x y _=>aO E.T t stop fun i=>bS E.G s x stop fun a=>bS E.G s y stop fun b =>
  match a,b with
  | .d (.int j m),.d (.int j' n)=>match FC op with
   |true=>match IntKind.same j j' with
    |true=>k (.d (.int j (Bz op j m n)))
    |false=>stop
   |false=>stop
  | .d (.agg l),.d (.agg m)=>match i.k,vJ t E.Q with
   | .struct fs,true=>lW E.T 0 fs l m stop fun p=>match op with
    | .eql=>k (.d (.bool p))
    | .neq=>k (.d (.bool !p))
    |_=>stop
   |_,_=>stop
  |_,_=>stop
 | .convert t0 t x=>aO E.T t0 stop fun _=>aO E.T t stop fun i=>bS E.G s x stop fun v=>match i.k,v with
  | .slice e,.d (.str l)=>aO E.T e stop fun ei=>match ei.k with
   | .int .u8=>k (.d (.sl (l.map lT)))
   |_=>stop
  |_,_=>stop
 |_=>stop
theorem FI (hE:E.OK) {o:Op} {stop:Prop} {k:AV→Prop} (H:vM E o s stop k):stop∨∃ v,k v∧∀ h,bC E o s h v h:=by
 unfold vM at H;split at H
 ·rename_i op t x y t';rcases a8 H with h | ⟨i,hi,H⟩
  ·exact .inl h
  rcases bW H with h | ⟨a,ha,H⟩
  ·exact .inl h
  rcases bW H with h | ⟨b,hb,H⟩
  ·exact .inl h
  split at H
  ·split at H
   ·rename_i q;split at H
    ·rename_i p;obtain rfl:=px p;exact .inr ⟨_,H,fun h=>MK q ha hb⟩
    ·exact .inl H
   ·exact .inl H
  ·split at H
   ·rename_i fs hk hq;by_cases he:op = .eql
    ·subst he;rcases FH (op := .eql) (t':=t') (s:=s) hE hi (yv hq) hk ha hb H with h | ⟨p,H,h1,-⟩
     ·exact .inl h
     ·exact .inr ⟨_,H,fun h=>h1 rfl h⟩
    ·by_cases tr:op = .neq
     ·subst tr;rcases FH (op := .neq) (t':=t') (s:=s) hE hi (yv hq) hk ha hb H with h | ⟨p,H,-,h1⟩
      ·exact .inl h
      ·exact .inr ⟨_,H,fun h=>h1 rfl h⟩
     ·refine .inl ?_;rcases FF H with h | ⟨p,h⟩
      ·exact h
      ·split at h
       ·exact absurd rfl he
       ·exact absurd rfl tr
       ·exact h
   ·exact .inl H
  ·exact .inl H
 ·rename_i t0 t x;rcases a8 H with h | ⟨i0,jF,H⟩
  ·exact .inl h
  rcases a8 H with h | ⟨i,hi,H⟩
  ·exact .inl h
  rcases bW H with h | ⟨v,hv,H⟩
  ·exact .inl h
  split at H
  ·rename_i e l hk;rcases a8 H with h | ⟨ei,bP,H⟩
   ·exact .inl h
   split at H
   ·rename_i vL;exact .inr ⟨_,H,fun h=>MO hE jF hi bP hk vL hv⟩
   ·exact .inl H
  ·exact .inl H
 ·exact .inl H
def BB (E:Env) (o:Op) (s:List AV) (stop:Prop) (k:AV→Prop):Prop :=
 match o with
 | .binOp op _ x y _=>bS E.G s x stop fun a=>bS E.G s y stop fun b =>
  match a,b with
  | .d (.int j m),.d (.int j' n)=>match FD op with
   |true=>need (0≤n) (k (.d (.int j (oy op j m n.toNat))))
   |false=>match FE op,IntKind.same j j' with
    |true,true=>need (n≠0) (k (.d (.int j (BA op j m n))))
    |_,_=>stop
  | .d (.str l),.d (.str m)=>match op with
   | .add=>need (l.length+m.length≤9223372036854775807) (k (.d (.str (l++m))))
   |_=>stop
  |_,_=>stop
 |_=>stop
theorem MS {o:Op} {stop:Prop} {k:AV→Prop} (H:BB E o s stop k):stop∨∃ v,k v∧∀ h,bC E o s h v h:=by
 unfold BB at H;split at H
 ·rename_i op t x y t';rcases bW H with h | ⟨a,ha,H⟩
  ·exact .inl h
  rcases bW H with h | ⟨b,hb,H⟩
  ·exact .inl h
  split at H
  ·split at H
   ·rename_i q;obtain ⟨h0,H⟩:=kP H;exact .inr ⟨_,H,fun h=>ML q h0 ha hb⟩
   ·split at H
    ·rename_i q p;obtain rfl:=px p;obtain ⟨h0,H⟩:=kP H;exact .inr ⟨_,H,fun h=>MQ q h0 ha hb⟩
    ·exact .inl H
  ·split at H
   ·obtain ⟨h0,H⟩:=kP H;exact .inr ⟨_,H,fun h=>MR h0 ha hb⟩
   ·exact .inl H
  ·exact .inl H
 ·exact .inl H
theorem MT (hE:E.OK) {t e len:Nat} {x i:Operand} {ti ei:bk} (bO:E.T[t]? = some ti) (bP:E.T[e]? = some ei) (hk:ti.k = .array len e) {b off:Nat} {cs:List AV} (hb:h[b]? = some (.cells cs)) {j:IntKind} {m:Nat} (hx:aZ E.G s x (.ptr b off)) (hi:aZ E.G s i (.d (.int j (.ofNat m)))) (h1:m<len) :
  bC E (.indexAddr t x i) s h (.ptr b (off+m*ei.size)) h := .quiet fun o c ac e1 e2 h3 h4=>by
 subst e2;obtain ⟨kS,d,g1,g2,g3,-⟩:=cm (hE.types t ti bO);obtain rfl:=vj (hk.symm.trans g3);have key:∀ p,VR c (.ptr b off) p→∃ blk,p = .pointer (some ⟨blk,off,none⟩)∧VR c (.ptr b (off+m*ei.size)) (.pointer (some ⟨blk,off+m*ei.size,none⟩)):=fun p hp=>by
  cases hp with
  |ptr _ _ cs' blk cap k1 k2=>exact ⟨blk,rfl,.ptr _ _ cs' blk cap k1 k2⟩
  |hU _ _ _ k1 _=>rw [hb] at k1; cases k1
 obtain ⟨blk,q1,q2⟩:=key _ (hx c ac h3 h4);refine ⟨_,vH e1 ?_,q2⟩;rw [q1,dM (hi c ac h3 h4)];have h0:(0:Int)≤Int.ofNat m:=Int.natCast_nonneg m;have rm:Int.ofNat m<(len:Int):=by simpa using h1
 simp only [Instr.indexAt,asIntOf,Sem.run_bind,Sem.run_pure,Result.andThen_ok,run_underlying g2,Instr.sureAddr,h0,rm,and_self,if_true,run_sizeOf (hE.types e ei bP),lK];rfl
theorem MU (hE:E.OK) {t e len:Nat} {x:Operand} {ti ei:bk} (bO:E.T[t]? = some ti) (bP:E.T[e]? = some ei) (hk:ti.k = .array len e) (cA:0<len) {b:Nat} {ds:List DV} (hb:h[b]? = some (.cells (ds.map .d))) (hlen:ds.length=len) (eR:ds.all DV.ep=true) (hx:aZ E.G s x (.ptr b 0)) :
  bC E (.slice t x none none none) s h (.d (.sl ds)) (h.set b .gone):=fun o c ac h1 h2 h3 h4=>by
 subst h2;obtain ⟨kS,d,g1,g2,g3,-⟩:=cm (hE.types t ti bO);obtain rfl:=vj (hk.symm.trans g3);have er:=aT hb;have key:∀ p,VR c (.ptr b 0) p→∃ blk cap,p = .pointer (some ⟨blk,0,none⟩)∧c.own b=some (blk,cap):=fun p hp=>by
  cases hp with
  |ptr _ _ cs' blk cap k1 k2=>exact ⟨blk,cap,rfl,k2⟩
  |hU _ _ _ k1 _=>rw [hb] at k1; cases k1
 obtain ⟨blk,cap,q1,q2⟩:=key _ (hx c ac h3 h4);obtain ⟨je,iz,vs,ty,p1,p2,p3⟩:=h3.cells hb;rw [q2] at p1; cases p1
 let c':Cx:={ c with own:=fun i=>if i=b then none else c.own i,heap:=c.heap.set b .gone }
 have eh:c'.heap[b]? = some .gone:=by show (c.heap.set b .gone)[b]? = _; rw [List.getElem?_set_self er]
 have iH:∀ i,i≠b→c'.heap[i]? = c.heap[i]? := fun i hi=>by show (c.heap.set b .gone)[i]? = _; rw [List.getElem?_set_ne (Ne.symm hi)]
 have bA:∀ i,i≠b→c'.own i=c.own i:=fun i hi=>by simp only [c',if_neg hi]
 have ig:∀ i p,c'.own i=some p→i≠b∧c.own i=some p:=fun i p hp=>by
  simp only [c'] at hp;split at hp
  ·cases hp
  ·rename_i q; exact ⟨q,hp⟩
 have aX:Step c c':=⟨rfl,h3.bN,rfl,rfl,rfl,Nat.le_refl _,fun _ _ _=>rfl,fun i x n hi _=>⟨n,(ig i _ hi).2⟩,fun i bx hi=>by
  by_cases bu:i=b
  ·subst bu;cases bx with
   |cells cs=>exact .inr eh
   |arr g sz l=>exact .inr eh
   |map es=>exact .inr eh
   |gone=>exact eh
   |hole=>exact ⟨_,eh⟩
  ·rw [← iH i bu] at hi;cases bx with
   |cells cs=>exact .inl ⟨cs,hi,bA i bu,rfl⟩
   |arr g sz l=>exact .inl ⟨g,l,hi,.inr ⟨rfl,rfl,bA i bu⟩⟩
   |map es=>exact .inl ⟨es,hi,bA i bu⟩
   |gone=>exact hi
   |hole=>exact ⟨_,hi⟩⟩
 have aM:aK E.G c':=by
  refine h3.next aX (fun i x n hi=>?_) (fun i j x n m hi hj=>h3.inj i j x n m (ig i _ hi).2 (ig j _ hj).2) (fun i bx hi=>?_)
  ·have:=h3.br i x n (ig i _ hi).2;refine ⟨this.1,?_⟩;show i<(c.heap.set b .gone).length;rw [List.length_set];exact this.2
  ·by_cases bu:i=b
   ·subst bu;rw [eh] at hi;cases hi;right;show c'.own i=none;simp [c']
   ·rw [iH i bu] at hi;exact .inl ⟨hi,bA i bu,fun _ _ _=>rfl⟩
 have bD:∀ (j:Nat) (y:DV),ds[j]? = some y→∃ v,vs[j]? = some v∧v.oneCell'=true∧VD c.bad c.w y v:=fun j y hy=>by
  have hj:=aT hy;have hl:=p3.1;simp at hl;have hv:vs.toList[j]? = some vs[j]:=by simp
  have:=p3.2 j (.d y) _ (by simp [hy]) hv;cases this with
  |d _ _ hd=>exact ⟨_,by simp,vh hd (List.all_eq_true.1 eR y (List.mem_of_getElem? hy)),hd⟩
 refine ⟨c',.slice (some ⟨blk,0,none⟩) ds.length ds.length,.inl ?_,rfl,aM,.d _ _ ?_,aX⟩
 ·have mF:(Instr.sliceBounds false len len none none none).run E.P c.w = .ok (0,len,len) c.w:=rfl;have aJ:¬ (len=0):=by omega
  simp only [execOp,h1,q1,Instr.sliceAt,Sem.run_bind,Sem.run_pure,Result.andThen_ok,run_underlying g2,Instr.sureAddr,Option.map_none,mF,run_sizeOf (hE.types e ei bP),aJ,if_false,Nat.zero_mul,lK,Nat.sub_zero,hlen];rfl
 ·have one:∀ (i j:Nat) (y z:DV),ds[i]? = some y→y.cells[j]? = some z→j=0∧z=y:=fun i j y z hy hz=>by
   have:=List.all_eq_true.1 eR y (List.mem_of_getElem? hy);have hc:y.cells=[y]:=by cases y <;> first | rfl | cases this
   rw [hc] at hz;cases j with
   |zero=>simp at hz; exact ⟨rfl,hz.symm⟩
   |succ j=>simp at hz
  refine .sl ds blk 0 ds.length 1 (fun i j=>(vs[i]?).getD undef) (fun _ gG=>?_) (by omega) (Nat.le_refl _) (fun i y hy=>?_) (fun i j y z hy hz=>?_) (fun i j y z hy hz=>?_) (fun i j y z hy hz=>?_)
  ·rcases gG with gG | ⟨i,n,hi⟩
   ·exact h3.sep b blk cap q2 gG
   ·obtain ⟨k1,k2⟩:=ig i _ hi;exact k1 (h3.inj i b blk n cap k2 q2)
  ·have:=List.all_eq_true.1 eR y (List.mem_of_getElem? hy);cases y <;> first | rfl | cases this
  ·obtain ⟨rfl,rfl⟩:=one i j y z hy hz;obtain ⟨v,r1,r2,r3⟩:=bD i z hy;rw [r1,Option.getD_some];have:=kL p2 i v (by simpa using r1)
   simpa using this
  ·obtain ⟨rfl,rfl⟩:=one i j y z hy hz;obtain ⟨v,r1,r2,r3⟩:=bD i z hy;simp only [r1,Option.getD_some];exact aX.vd r3
  ·obtain ⟨rfl,rfl⟩:=one i j y z hy hz;obtain ⟨v,r1,r2,r3⟩:=bD i z hy;simp only [r1,Option.getD_some];exact r2
theorem MV (hE:E.OK) {t e:Nat} {ti ei:bk} (bO:E.T[t]? = some ti) (bP:E.T[e]? = some ei) (hk:ti.k = .slice e) (cA:0<ei.size) {parts:Array (Nat × Operand)} (hp:parts.toList=[]) :
  bC E (.buildSlice t 0 parts) s h (.own h.length 0) (h++[.arr 0 (e,ei.size) []]):=fun o c ac h1 h2 h3 h4=>by
 subst h2;obtain ⟨kS,d,g1,g2,g3,-⟩:=cm (hE.types t ti bO);obtain rfl:=kg (hk.symm.trans g3);obtain ⟨k1,k2⟩:=h3.add (.arr 0 (e,ei.size) []) 0 (.cells #[] e);have bA:(c.add (.arr 0 (e,ei.size) []) 0 (.cells #[] e)).own c.heap.length=some (c.w.heap.size,0):=by simp [Cx.add]
 have kR:(c.add (.arr 0 (e,ei.size) []) 0 (.cells #[] e)).heap[c.heap.length]? = some (.arr 0 (e,ei.size) []):=by simp [Cx.add]
 refine ⟨_,.slice (some ⟨c.w.heap.size,0,none⟩) 0 0,.inl ?_,rfl,k2 ⟨cA,fun i e he=>by simp at he,.inr ⟨c.w.heap.size,0,#[],bA,heap_alloc_new _ _,by simp,by simp,by simp,fun i j e x he=>by simp at he⟩⟩,.own c.heap.length 0 (e,ei.size) [] c.w.heap.size 0 kR bA,k1⟩;have pw:parts = #[]:=by apply Array.ext'; simpa using hp
 subst pw;have hn:¬ ((0:Nat)>2 ^ 24):=by decide
 simp only [execOp,h1,Instr.buildSlice,Sem.run_bind,Sem.run_pure,Result.andThen_ok,run_underlying g2,run_sizeOf (hE.types e ei bP),Nat.zero_mul,Array.map_empty,hn,if_false,if_true];simp [Instr.fill,newRow,show Array.range 0 = #[] from rfl];rfl
def vN (E:Env) (o:Op) (s:List AV) (h:List ae) (stop:Prop) (k:AV→List ae→Prop):Prop :=
 match o with
 | .indexAddr t x i=>aO E.T t stop fun ti=>match ti.k with
  | .array len e=>aO E.T e stop fun ei=>bS E.G s x stop fun
   | .ptr b off=>aO h b stop fun
    | .cells _=>bS E.G s i stop fun
     | .d (.int _ n)=>match n with
      | .ofNat m=>match Nat.blt m len with
       |true=>k (.ptr b (off+m*ei.size)) h
       |false=>stop
      |_=>stop
     |_=>stop
    |_=>stop
   |_=>stop
  |_=>stop
 | .slice t x none none none=>aO E.T t stop fun ti=>match ti.k with
  | .array len e=>aO E.T e stop fun _=>match Nat.blt 0 len with
   |true=>bS E.G s x stop fun
    | .ptr b 0=>aO h b stop fun
     | .cells cs=>oc cs stop fun ds=>match Nat.beq ds.length len,ds.all DV.ep with
      |true,true=>fk h b .gone fun h'=>k (.d (.sl ds)) h'
      |_,_=>stop
     |_=>stop
    |_=>stop
   |_=>stop
  |_=>stop
 | .buildSlice t len parts=>match len with
  | 0=>aO E.T t stop fun ti=>match ti.k with
   | .slice e=>aO E.T e stop fun ei=>match Nat.blt 0 ei.size,parts.toList with
    |true,[]=>lI h (.arr 0 (e,ei.size) []) 0 fun h' n=>k (.own n 0) h'
    |_,_=>stop
   |_=>stop
  |_=>stop
 |_=>stop
theorem FJ (hE:E.OK) {o:Op} {stop:Prop} {k:AV→List ae→Prop} (H:vN E o s h stop k):stop∨∃ v h',k v h'∧bC E o s h v h':=by
 unfold vN at H;split at H
 ·rename_i t x i;rcases a8 H with h | ⟨ti,bO,H⟩
  ·exact .inl h
  split at H
  ·rename_i len e hk;rcases a8 H with h | ⟨ei,bP,H⟩
   ·exact .inl h
   rcases bW H with h | ⟨a,ha,H⟩
   ·exact .inl h
   split at H
   ·rename_i b off;rcases a8 H with h | ⟨bx,hb,H⟩
    ·exact .inl h
    split at H
    ·rcases bW H with h | ⟨n,hn,H⟩
     ·exact .inl h
     split at H
     ·split at H
      ·split at H
       ·rename_i q;exact .inr ⟨_,_,H,MT hE bO bP hk hb ha hn (vK q)⟩
       ·exact .inl H
      ·exact .inl H
     ·exact .inl H
    ·exact .inl H
   ·exact .inl H
  ·exact .inl H
 ·rename_i t x;rcases a8 H with h | ⟨ti,bO,H⟩
  ·exact .inl h
  split at H
  ·rename_i len e hk;rcases a8 H with h | ⟨ei,bP,H⟩
   ·exact .inl h
   split at H
   ·rename_i q2;rcases bW H with h | ⟨a,ha,H⟩
    ·exact .inl h
    split at H
    ·rename_i b;rcases a8 H with h | ⟨bx,hb,H⟩
     ·exact .inl h
     split at H
     ·rename_i cs
      rcases ve cs stop (fun ds=>match Nat.beq ds.length len,ds.all DV.ep with
       |true,true=>fk h b .gone fun h'=>k (.d (.sl ds)) h'
       |_,_=>stop) with ⟨ds,e1,e2⟩ | e2
      ·rw [e2] at H;split at H
       ·rename_i p1 p2;rw [fQ] at H;subst e1;exact .inr ⟨_,_,H,MU hE bO bP hk (vK q2) hb (Nat.eq_of_beq_eq_true p1) p2 ha⟩
       ·exact .inl H
      ·rw [e2] at H; exact .inl H
     ·exact .inl H
    ·exact .inl H
   ·exact .inl H
  ·exact .inl H
 ·rename_i t len parts;split at H
  ·rcases a8 H with h | ⟨ti,bO,H⟩
   ·exact .inl h
   split at H
   ·rename_i e hk;rcases a8 H with h | ⟨ei,bP,H⟩
    ·exact .inl h
    split at H
    ·rename_i q1 q2;rw [pv,Nat.zero_add] at H;exact .inr ⟨_,_,H,MV hE bO bP hk (vK q1) q2⟩
    ·exact .inl H
   ·exact .inl H
  ·exact .inl H
 ·exact .inl H
def vO (E:Env) (o:Op) (s:List AV) (h:List ae) (stop:Prop) (k:AV→List ae→Prop):Prop:=vM E o s (vN E o s h stop k) fun v=>k v h
theorem FK (hE:E.OK) {o:Op} {stop:Prop} {k:AV→List ae→Prop} (H:vO E o s h stop k):stop∨∃ v h',k v h'∧bC E o s h v h':=by
 rcases FI hE H with H | ⟨v,H,ho⟩
 ·exact FJ hE H
 ·exact .inr ⟨v,h,H,ho h⟩
end
end Go.ax
end
section
namespace Go.ax
open Go Go.RowKit
def oz:DV→DV→Bool
 | .int j m,.int k n=>IntKind.same j k&&(m==n)
 | .str a,.str b=>a==b
 | .bool a,.bool b=>a==b
 |_,_=>false
def rp:List DV→List DV→Bool
 | [],[]=>true
 |a::l,b::m=>oz a b&&rp l m
 |_,_=>false
def dY:DV→DV→Bool
 | .agg l,.agg m=>rp l m
 |a,b=>oz a b
def ek (k:DV):List (DV × DV)→Option Nat
 | []=>none
 |p::l=>if dY k p.1 then some 0 else (ek k l).map (· + 1)
def findD (k:DV):List (DV × DV)→Option DV
 | []=>none
 |p::l=>if dY k p.1 then some p.2 else findD k l
def bM (k v:DV):List (DV × DV)→List (DV × DV)
 | []=>[(k,v)]
 |p::l=>if dY k p.1 then (k,v)::l else p::bM k v l
def lX:TK→DV→Prop
 | .int j,x=>∃ n,x = .int j n
 | .string,x=>∃ s,x = .str s
 | .bool,x=>∃ b,x = .bool b
 |_,_=>False
def rq (T:List bk):Nat→List (Nat × Nat)→List DV→Prop
 |_,[],[]=>True
 |n,f::fs,a::l=>f.1=n∧(∃ i,T[f.2]? = some i∧lX i.k a)∧rq T (n+1) fs l
 |_,_,_=>False
def cW (T:List bk) (k:TK) (x:DV):Prop:=match k with
 | .struct fs=>∃ l,x = .agg l∧rq T 0 fs l
 |k=>lX k x
def fT:DV→Value
 | .int j n => .int j n
 | .str s => .string ⟨s.toArray⟩
 | .bool b => .bool b
 | .agg l => .agg (l.map fun
  | .int j n => .int j n
  | .str s => .string ⟨s.toArray⟩
  | .bool b => .bool b
  |_=>undef).toArray
 |_=>undef
def tu:DV→Prop
 | .int _ _=>True
 | .str _=>True
 | .bool _=>True
 |_=>False
theorem lX.flat {k:TK} {x:DV} (h:lX k x):tu x:=by
 cases k <;> first | (obtain ⟨_,rfl⟩:=h; trivial) | exact h.elim
theorem rq.flat {T:List bk}:∀ {n:Nat} {fs:List (Nat × Nat)} {l:List DV},rq T n fs l→∀ x∈l,tu x
 |_,[],[],_,x,hx=>by simp at hx
 |_,_::_,[],h,_,_=>h.elim
 |_,[],_::_,h,_,_=>h.elim
 |n,f::fs,a::l,h,x,hx=>by
  rcases List.mem_cons.1 hx with rfl | hx
  ·obtain ⟨-,⟨i,-,h⟩,-⟩:=h;exact h.flat
  ·exact h.2.2.flat x hx
theorem FL {bad:Nat→Prop} {w:World} {x:DV} {v:Value} (hf:tu x) (h:VD bad w x v):v=fT x:=by
 cases x <;> first | exact hf.elim | (cases h; rfl)
theorem cW.cases {T:List bk} {k:TK} {x:DV} (h:cW T k x):tu x∨∃ l,x = .agg l∧∀ y∈l,tu y:=by
 unfold cW at h;split at h
 ·obtain ⟨l,rfl,h⟩:=h;exact .inr ⟨l,rfl,h.flat⟩
 ·exact .inl h.flat
theorem ru {T:List bk} {k:TK} {bad:Nat→Prop} {w:World} {x:DV} {v:Value} (hf:cW T k x) (h:VD bad w x v):v=fT x:=by
 rcases hf.cases with fH | ⟨l,rfl,fH⟩
 ·exact FL fH h
 ·cases h with
  |agg _ vs hl hv =>
   simp only [fT]
   congr 1
   apply Array.ext
   ·simpa using hl.symm
   ·intro j h1 h2;have hj:j<l.length:=by omega
    have e:=hv j l[j] vs[j] (by simp) (by simp [h1]);have:=FL (fH _ (List.getElem_mem hj)) e;rw [this];simp only [List.getElem_toArray,List.getElem_map];have rf:=fH _ (List.getElem_mem hj);generalize l[j]=y at rf;cases y <;> first | rfl | exact rf.elim
theorem BC (j:IntKind):IntKind.same j j=true:=by cases j <;> rfl
theorem FM {a b:DV} (h:oz a b=true):a=b:=by
 unfold oz at h;split at h
 ·simp only [Bool.and_eq_true,beq_iff_eq] at h;obtain rfl:=px h.1;rw [h.2]
 ·simp at h; rw [h]
 ·simp at h; rw [h]
 ·cases h
theorem FN:∀ {a b:List DV},rp a b=true→a=b
 | [],[],_=>rfl
 | [],_::_,h=>by cases h
 |_::_,[],h=>by cases h
 |x::a,y::b,h=>by
  simp only [rp,Bool.and_eq_true] at h;rw [FM h.1,FN h.2]
theorem FO {a b:DV} (h:dY a b=true):a=b:=by
 unfold dY at h;split at h
 ·rw [FN h]
 ·exact FM h
theorem BD (a b:List UInt8):((⟨a.toArray⟩:ByteArray)==⟨b.toArray⟩)=(a==b):=by
 show (a.toArray==b.toArray)=_;simp
theorem BE {α:Type}:∀ {l:List α} {p:α × α},p∈l.zip l→p.1=p.2∧p.1∈l
 | [],p,h=>by simp at h
 |a::l,p,h=>by
  rcases List.mem_cons.1 h with rfl | h
  ·exact ⟨rfl,List.mem_cons_self ..⟩
  ·exact ⟨(BE h).1,List.mem_cons_of_mem _ (BE h).2⟩
theorem MW (n:Nat) {x:DV} (h:tu x):Instr.sameBits n (fT x) (fT x)=true:=by
 cases x <;> first | exact h.elim | (cases n <;> simp [fT,Instr.sameBits,BD])
theorem FP {T:List bk} {k:TK} {x:DV} (h:cW T k x):Instr.sameBits 10000 (fT x) (fT x)=true:=by
 rcases h.cases with h1 | ⟨l,rfl,h1⟩
 ·exact MW _ h1
 ·show Instr.sameBits (9999+1) _ _=true;simp only [fT,Instr.sameBits,beq_self_eq_true,Bool.true_and,List.all_eq_true];intro p hp;obtain ⟨e1,e2⟩:=BE hp;obtain ⟨p1,p2⟩:=p;simp only at e1 e2;subst e1;obtain ⟨y,hy,rfl⟩:=List.mem_map.1 e2;have:=h1 y hy;cases y <;> first | exact this.elim | simp [Instr.sameBits,BD]
def vP (bad:Nat→Prop) (w:World) (es:List (DV × DV)) (en:List MapEntry):Prop:=en.length=es.length∧∀ (j:Nat) (k x:DV) (m:MapEntry),es[j]? = some (k,x)→en[j]? = some m→VD bad w k m.key∧VD bad w x m.val
theorem vP.cons {bad:Nat→Prop} {w:World} {p:DV × DV} {m:MapEntry} {es:List (DV × DV)} {en:List MapEntry} (h:vP bad w (p::es) (m::en)):VD bad w p.1 m.key∧VD bad w p.2 m.val∧vP bad w es en:=by
 obtain ⟨h1,h2⟩:=h;have:=h2 0 p.1 p.2 m rfl rfl;exact ⟨this.1,this.2,by simpa using h1,fun j k x m' hk hm=>h2 (j+1) k x m' (by simpa using hk) (by simpa using hm)⟩
theorem yx {k:DV}:∀ {es:List (DV × DV)} {j:Nat},ek k es=some j→∃ p,es[j]? = some p∧dY k p.1=true∧findD k es=some p.2
 | [],_,h=>by cases h
 |p::es,j,h=>by
  unfold ek at h;split at h
  ·rename_i q;cases h;exact ⟨p,rfl,q,by simp [findD,q]⟩
  ·rename_i q;cases hf:ek k es with
   |none=>rw [hf] at h; cases h
   |some i =>
    rw [hf] at h;cases h;obtain ⟨p',h1,h2,h3⟩:=yx hf;exact ⟨p',by simpa using h1,h2,by simp [findD,q,h3]⟩
theorem BF {k:DV}:∀ {es:List (DV × DV)},ek k es=none→findD k es=none
 | [],_=>rfl
 |p::es,h=>by
  unfold ek at h;split at h
  ·cases h
  ·rename_i q;cases hf:ek k es with
   |none=>simp [findD,q,BF hf]
   |some i=>rw [hf] at h; cases h
theorem vQ {k v:DV}:∀ {es:List (DV × DV)} {j:Nat},ek k es=some j→bM k v es=es.set j (k,v)
 | [],_,h=>by cases h
 |p::es,j,h=>by
  unfold ek at h;split at h
  ·rename_i q;cases h;simp [bM,q]
  ·rename_i q;cases hf:ek k es with
   |none=>rw [hf] at h; cases h
   |some i =>
    rw [hf] at h;cases h;simp [bM,q,vQ hf]
theorem vR {k v:DV}:∀ {es:List (DV × DV)},ek k es=none→bM k v es=es++[(k,v)]
 | [],_=>rfl
 |p::es,h=>by
  unfold ek at h;split at h
  ·cases h
  ·rename_i q;cases hf:ek k es with
   |none=>simp [bM,q,vR hf]
   |some i=>rw [hf] at h; cases h
theorem oA {P:Program} {w:World} {r:Nat} {es:Array MapEntry} {clock:Nat} (hb:w.heap[r]? = some (.map es clock)):(getObj r).run P w = .ok (.map es clock) w:=by
 simp [getObj,Sem.run,hb]
theorem vS {P:Program} {w:World} {r:Nat} {es:Array MapEntry} {clock:Nat} (o:Obj) (hb:w.heap[r]? = some (.map es clock)):(setObj r o).run P w = .ok () { w with heap:=w.heap.setIfInBounds r o }:=by
 simp [setObj,Sem.run,hb]
theorem MX {P:Program} {w:World} {kt:TypeId} {d:TypeDesc} {k:Value} {l:List MapEntry} {a:Option (Nat × Value)} (hd:P.underlying kt=some d) (h:Instr.findNow d k l 0=some a):(Instr.findKey kt k l).run P w = .ok a w:=by
 simp [Instr.findKey,run_underlying hd,Result.andThen,h]
section
variable {E:Env}
def BG:TK→Prop
 | .int _=>True
 | .string=>True
 | .bool=>True
 |_=>False
inductive pH (E:Env) (t:Nat):TK→Prop
 |plain (i:bk) (hi:E.T[t]? = some i) (h:BG i.k):pH E t i.k
 |struct (i:bk) (hi:E.T[t]? = some i) (fs:List (Nat × Nat)) (hk:i.k = .struct fs) (hq:t∈E.Q):pH E t (.struct fs)
theorem FQ {T:List bk}:∀ {n:Nat} {fs:List (Nat × Nat)} {l m:List DV},rq T n fs l→rq T n fs m→lW T n fs l m False (· = rp l m)
 |_,[],[],[],_,_=>rfl
 |_,_::_,[],_,h,_=>h.elim
 |_,[],_::_,_,h,_=>h.elim
 |_,_::_,_::_,[],_,h=>h.elim
 |_,[],[],_::_,_,h=>h.elim
 |n,f::fs,a::l,b::m,h,h'=>by
  obtain ⟨e1,⟨i,hi,ha⟩,hl⟩:=h;obtain ⟨-,⟨i',bV,hb⟩,hm⟩:=h';rw [hi] at bV;cases bV;simp only [lW];have:Nat.beq f.1 n=true:=by rw [e1]; exact Nat.beq_refl n
  rw [this];simp only;rw [x5 hi];have key:∀ (K:Bool→Prop),K (oz a b)→pG i.k a b False K:=fun K hK=>by
   unfold lX at ha hb;split at ha
   ·rename_i j hk;obtain ⟨x,rfl⟩:=ha;rw [hk] at hb ⊢;obtain ⟨y,rfl⟩:=hb;simp only [pG,BC]
    simpa [oz,BC] using hK
   ·rename_i hk;obtain ⟨x,rfl⟩:=ha;rw [hk] at hb ⊢;obtain ⟨y,rfl⟩:=hb;exact hK
   ·rename_i hk;obtain ⟨x,rfl⟩:=ha;rw [hk] at hb ⊢;obtain ⟨y,rfl⟩:=hb;exact hK
   ·exact ha.elim
  refine key _ ?_;have ih:=FQ hl hm;have mono:∀ {n:Nat} {fs:List (Nat × Nat)} {l m:List DV} {K K':Bool→Prop},(∀ p,K p→K' p)→lW T n fs l m False K→lW T n fs l m False K':=by
   intro n fs
   induction fs generalizing n with
   |nil=>intro l m K K' hk H; cases l <;> cases m <;> first | exact hk _ H | exact H
   |cons f fs BH =>
    intro l m K K' hk H;cases l with
    |nil=>exact H
    |cons a l=>cases m with
     |nil=>exact H
     |cons b m =>
      simp only [lW] at H ⊢;split at H
      ·rcases a8 H with H | ⟨i,hi,H⟩
       ·exact H.elim
       rw [x5 hi];unfold pG at H ⊢;split at H
       ·split at H
        ·exact BH (fun p hp=>hk _ hp) H
        ·exact H
       ·exact BH (fun p hp=>hk _ hp) H
       ·exact BH (fun p hp=>hk _ hp) H
       ·exact H
      ·exact H
  refine mono (fun p hp=>?_) ih;rw [hp,rp]
theorem MY (hE:E.OK) {t:Nat} {i:bk} (hi:E.T[t]? = some i) {fs:List (Nat × Nat)} (hk:i.k = .struct fs) (hq:t∈E.Q) {x y:DV} (hx:cW E.T (.struct fs) x) (hy:cW E.T (.struct fs) y) {bad:Nat→Prop} {w:World} {u v:Value} (hu:VD bad w x u) (hv:VD bad w y v) :
  (Op.equal t u v).run E.P w = .ok (dY x y) w:=by
 obtain ⟨l,rfl,hl⟩:=hx;obtain ⟨m,rfl,hm⟩:=hy;obtain ⟨ti,d,g1,g2,g3,-⟩:=cm (hE.types t i hi);obtain ⟨fl,rfl,rfl⟩:=om (hk.symm.trans g3);have yy:=hE.eqs t hq;simp only [x4,g2,Bool.and_eq_true,Bool.not_eq_true',List.all_eq_true,bne_iff_ne,ne_eq] at yy;obtain ⟨⟨q1,q2⟩,q3⟩:=yy;rcases FG hE.types (FQ hl hm) q3 with h | ⟨p,rfl,hp⟩
 ·exact h.elim
 have fS:E.P.fieldsOf t=fl:=by simp [Program.fieldsOf,g2]
 cases hu with
 |agg _ xs x1 x2=>cases hv with
  |agg _ ys y1 y2 =>
   show (Op.equalIn (9999+1) t _ _).run E.P w=_;rw [run_equalIn_struct w 9999 t _ _ (by rw [fS]; exact g2) q1,fS];have:=hp bad w w xs.toList ys.toList 9998 (fun j z hz=>?_) (fun j z hz=>?_)
   ·simpa [dY] using this
   ·have hj:=aT hz;rw [x1] at hj;exact ⟨xs[j],by simp [hj],x2 j z _ hz (by simp [hj])⟩
   ·have hj:=aT hz;rw [y1] at hj;exact ⟨ys[j],by simp [hj],y2 j z _ hz (by simp [hj])⟩
theorem MZ {td:TypeDesc} {k:TK} (hk:k=tk td) (hp:BG k) {x y:DV} (hx:lX k x) (hy:lX k y):Instr.sameNow td (fT x) (fT y)=some (dY x y):=by
 subst hk;cases td <;> simp only [tk,BG] at hp hx hy
 ·obtain ⟨a,rfl⟩:=hx; obtain ⟨b,rfl⟩:=hy; rfl
 ·obtain ⟨a,rfl⟩:=hx; obtain ⟨b,rfl⟩:=hy;simp [Instr.sameNow,fT,dY,oz,BC]
 ·obtain ⟨a,rfl⟩:=hx; obtain ⟨b,rfl⟩:=hy;simp [Instr.sameNow,fT,dY,oz,BD]
def jH (k:DV) (es:List (DV × DV)) (en:List MapEntry) (i:Nat):Option (Nat × Value):=(ek k es).bind fun j=>(en[j]?).map fun m=>(i+j,m.val)
theorem FR {k:DV} {p:DV × DV} {m:MapEntry} {es:List (DV × DV)} {en:List MapEntry} {i:Nat}:jH k (p::es) (m::en) i=if dY k p.1 then some (i,m.val) else jH k es en (i+1):=by
 simp only [jH,ek];split
 ·simp
 ·cases ek k es with
  |none=>rfl
  |some j =>
   simp;cases en[j]? with
   |none=>rfl
   |some m=>simp; omega
theorem BI (hE:E.OK) {t:Nat} {k:TK} (hT:pH E t k) {x:DV} (hx:cW E.T k x) {bad:Nat→Prop} {w:World} {u:Value} (hu:VD bad w x u) {es:List (DV × DV)} {en:List MapEntry} (kh:∀ p∈es,cW E.T k p.1) (tv:vP bad w es en) :
  (Instr.findKey t u en).run E.P w = .ok (jH x es en 0) w:=by
 cases hT with
 |plain i hi h =>
  obtain ⟨ti,d,g1,g2,g3,-⟩:=cm (hE.types t i hi);refine MX g2 ?_;have hF:∀ y,cW E.T i.k y→lX i.k y:=fun y hy=>by
   unfold cW at hy;split at hy
   ·rename_i q; rw [q] at h; exact h.elim
   ·exact hy
  obtain rfl:=ru hx hu;generalize 0=n
  induction es generalizing en n with
  |nil =>
   obtain rfl:en=[]:=List.eq_nil_of_length_eq_zero (by simpa using tv.1);rfl
  |cons p es ih=>cases en with
   |nil=>have:=tv.1; simp at this
   |cons m en =>
    obtain ⟨h1,h2,h3⟩:=tv.cons;have hp:=kh p (List.mem_cons_self ..);have e1:=ru hp h1;rw [FR,Instr.findNow,e1,MZ g3 h (hF _ hx) (hF _ hp)];cases dY x p.1 with
    |true=>rfl
    |false =>
     have ha:∀ q∈es,cW E.T i.k q.1:=fun q hq=>kh q (List.mem_cons_of_mem _ hq);first | exact ih ha h3 (n+1) | exact ih h3 ha (n+1) | exact ih h3 (n+1) ha
 |struct i hi fs hk hq =>
  obtain ⟨ti,d,g1,g2,g3,-⟩:=cm (hE.types t i hi);obtain ⟨fl,rfl,-⟩:=om (hk.symm.trans g3);rw [run_findKey_eq w (by rw [g2]) u en];generalize 0=n
  induction es generalizing en n with
  |nil =>
   obtain rfl:en=[]:=List.eq_nil_of_length_eq_zero (by simpa using tv.1);simp [Instr.findAsking,jH,ek]
  |cons p es ih=>cases en with
   |nil=>have:=tv.1; simp at this
   |cons m en =>
    obtain ⟨h1,h2,h3⟩:=tv.cons;have hp:=kh p (List.mem_cons_self ..);rw [FR];simp only [Instr.findAsking,Sem.run_bind,MY hE hi hk hq hx hp hu h1,Result.andThen_ok];cases dY x p.1 with
    |true=>simp
    |false =>
     simp only [Bool.false_eq_true,if_false];have ha:∀ q∈es,cW E.T (.struct _) q.1:=fun q hq=>kh q (List.mem_cons_of_mem _ hq);first | exact ih ha h3 (n+1) | exact ih h3 ha (n+1) | exact ih h3 (n+1) ha
theorem BJ (hE:E.OK) {t:Nat} {k:TK} (hT:pH E t k) {x:DV} (hx:cW E.T k x) {bad:Nat→Prop} {w:World} {u:Value} (hu:VD bad w x u) (em:Bool):(Instr.checkKey em 10000 t u).run E.P w = .ok () w:=by
 have one:∀ (n:Nat) (t:Nat) (i:bk) (hi:E.T[t]? = some i) (y:DV),lX i.k y→(Instr.checkKey em (n+1) t (fT y)).run E.P w = .ok () w:=fun n t i hi y hy=>by
  obtain ⟨ti,d,g1,g2,g3,-⟩:=cm (hE.types t i hi);unfold Instr.checkKey;simp only [Sem.run_bind,run_underlying g2,Result.andThen];unfold lX at hy;split at hy
  ·rename_i q; obtain ⟨a,rfl⟩:=hy; obtain rfl:=sX (q.symm.trans g3); simp [fT]
  ·rename_i q; obtain ⟨a,rfl⟩:=hy; obtain rfl:=py (q.symm.trans g3); simp [fT]
  ·rename_i q;obtain ⟨a,rfl⟩:=hy;have:d = .bool:=by rw [q] at g3; cases d <;> first | rfl | cases g3
   subst this;simp [fT]
  ·exact hy.elim
 obtain rfl:=ru hx hu;cases hT with
 |plain i hi h =>
  have hF:lX i.k x:=by
   unfold cW at hx;split at hx
   ·rename_i q; rw [q] at h; exact h.elim
   ·exact hx
  exact one 9999 t i hi x hF
 |struct i hi fs hk hq =>
  obtain ⟨ti,d,g1,g2,g3,-⟩:=cm (hE.types t i hi);obtain ⟨fl,rfl,rfl⟩:=om (hk.symm.trans g3);obtain ⟨l,rfl,hl⟩:=hx;show (Instr.checkKey em (9999+1) t _).run E.P w=_;rw [Instr.checkKey];simp only [Sem.run_bind,run_underlying g2,Result.andThen_ok,fT];rw [← Array.forIn_toList]
  generalize kn:(l.map fun
   | .int j n=>Value.int j n
   | .str s => .string ⟨s.toArray⟩
   | .bool b => .bool b
   |_=>undef)=cs
  have bD:∀ (j:Nat) (y:DV),l[j]? = some y→cs[0+j]? = some (fT y):=fun j y hy=>by
   rw [← kn];have:=hl.flat y (List.mem_of_getElem? hy);simp [hy];cases y <;> first | rfl | exact this.elim
  clear kn;have go:∀ (fl:List Field) (n:Nat) (l:List DV),rq E.T n (fl.map fun f=>(f.offset,f.type)) l→(∀ (j:Nat) (y:DV),l[j]? = some y→cs[n+j]? = some (fT y)) →
    (forIn fl PUnit.unit fun f _ =>
     if f.name ≠ "_" then do
      let d ← part f.type cs.toArray f.offset
      Instr.checkKey em 9999 f.type d
      pure (ForInStep.yield PUnit.unit)
     else pure (ForInStep.yield PUnit.unit):Sem PUnit).run E.P w = .ok PUnit.unit w:=by
   intro fl
   induction fl with
   |nil=>intro n l _ _; simp
   |cons f fl ih =>
    intro n l h hv;cases l with
    |nil=>exact h.elim
    |cons a l =>
     obtain ⟨e1,⟨fi,iA,mG⟩,hr⟩:=h;simp only at e1 iA;have eN:fi.k.agg=false:=by
      unfold lX at mG;split at mG <;> first | (rename_i q; rw [q]; rfl) | exact mG.elim
     have h0 := hv 0 a rfl;rw [Nat.add_zero] at h0;have hp := yh (hE.types _ fi iA) w cs n (fT a) h0 eN;have rv := ih (n + 1) l hr (fun j y hy => by rw [show n + 1 + j = n + (j + 1) by omega]; exact hv (j + 1) y (by simpa using hy));simp only [List.forIn_cons, Sem.run_bind];by_cases yw : f.name = "_"
     ·simp only [yw,ne_eq,not_true_eq_false,if_false,Sem.run_bind,Sem.run_pure,Result.andThen_ok];exact rv
     ·simp only [yw,ne_eq,not_false_eq_true,if_true,Sem.run_bind,e1,hp,Result.andThen_ok,one 9998 f.type fi iA a mG,Sem.run_pure];exact rv
  have:=go fl.toList 0 l hl bD;rw [this];rfl
end
section
variable {E:Env} {s:List AV} {h:List ae} {c:Cx} {G:List (Nat × DV)}
theorem M0 {t:Nat}:bC E (.makeMap t none) s h (.map h.length) (h++[.map []]):=fun o c ac h1 h2 h3 h4=>by
 subst h2;obtain ⟨k1,k2⟩:=h3.add (.map []) 0 (.map #[] 0);have bA:(c.add (.map []) 0 (.map #[] 0)).own c.heap.length=some (c.w.heap.size,0):=by simp [Cx.add]
 have kR:(c.add (.map []) 0 (.map #[] 0)).heap[c.heap.length]? = some (.map []):=by simp [Cx.add]
 refine ⟨_,.map (some c.w.heap.size),.inl ?_,rfl,k2 ⟨c.w.heap.size,0,#[],0,bA,heap_alloc_new _ _,⟨rfl,by simp,by simp,by simp,rfl⟩,fun j k x m hj=>by simp at hj⟩,.map c.heap.length [] c.w.heap.size 0 kR bA,k1⟩;simp only [execOp,h1,Option.map_none,Instr.makeMap];rfl
theorem M1 {b:Nat} {es:List (DV × DV)} (hb:c.heap[b]? = some (.map es)) {v:Value} (hv:VR c (.map b) v):∃ blk cap,v = .map (some blk)∧c.own b=some (blk,cap):=by
 cases hv with
 |map _ du blk cap k1 k2=>exact ⟨blk,cap,rfl,k2⟩
 |lH _ _ k1 _=>rw [hb] at k1; cases k1
theorem tx (h3:aK G c) {b:Nat} {es:List (DV × DV)} (hb:c.heap[b]? = some (.map es)) {v:Value} (hv:VR c (.map b) v):∃ (blk cap:Nat) (en:Array MapEntry) (ck:Nat),v = .map (some blk)∧c.own b=some (blk,cap)∧c.w.heap[blk]? = some (.map en ck)∧lJ en ck es.length∧vP c.bad c.w es en.toList:=by
 obtain ⟨blk,cap,rfl,ho⟩:=M1 hb hv;obtain ⟨je,iz,en,ck,p1,p2,p3,p4⟩:=h3.box b _ hb;rw [ho] at p1;cases p1;exact ⟨blk,cap,en,ck,rfl,ho,p2,p3,by simpa using p3.size,fun j k x m hk hm=>p4 j k x m hk (by simpa using hm)⟩
@[irreducible] def vT (E : Env) (e : Nat) (kd : TK) (x : DV) (es : List (DV × DV)) (K : DV → Bool → Prop) : Prop :=
 ∃ (z:DV) (zv:Value),cW E.T kd x∧(∀ p∈es,cW E.T kd p.1)∧(∀ w,(zeroValue e).run E.P w = .ok zv w)∧(∀ bad w,VD bad w z zv)∧K ((findD x es).getD z) (findD x es).isSome
theorem ny {E:Env} {e:Nat} {kd:TK} {x:DV} {es:List (DV × DV)} {K:DV→Bool→Prop} (z:DV) (zv:Value) {v:DV} {f:Bool} (h1:cW E.T kd x) (h2:∀ p∈es,cW E.T kd p.1) (h3:∀ w,(zeroValue e).run E.P w = .ok zv w) (h4:∀ bad w,VD bad w z zv)
  (e1:(findD x es).getD z=v) (e2:(findD x es).isSome=f) (k:K v f):vT E e kd x es K:=by
 unfold vT;exact ⟨z,zv,h1,h2,h3,h4,by rw [e1,e2]; exact k⟩
theorem M3 {E:Env} {e:Nat} {kd:TK} {x:DV} {es:List (DV × DV)} {K:DV→Bool→Prop} (h:vT E e kd x es K) :
  ∃ (z:DV) (zv:Value),cW E.T kd x∧(∀ p∈es,cW E.T kd p.1)∧(∀ w,(zeroValue e).run E.P w = .ok zv w)∧(∀ bad w,VD bad w z zv)∧K ((findD x es).getD z) (findD x es).isSome:=by unfold vT at h; exact h
theorem M4 (hE:E.OK) {t kt e:Nat} {m ko:Operand} {ti:bk} (bO:E.T[t]? = some ti) (hk:ti.k = .map kt e) {kd:TK} (hT:pH E kt kd) {b:Nat} {es:List (DV × DV)} (hb:h[b]? = some (.map es)) (hm:aZ E.G s m (.map b)) {x:DV} (hx:aZ E.G s ko (.d x))
  (h1:cW E.T kd x) (h2:∀ p∈es,cW E.T kd p.1) {z:DV} {zv:Value} (hz:∀ w,(zeroValue e).run E.P w = .ok zv w) (M5:∀ bad w,VD bad w z zv) (ok:Bool) :
  bC E (.lookup t m ko ok) s h (match ok with | true => .d (.aF [(findD x es).getD z,.bool (findD x es).isSome]) | false => .d ((findD x es).getD z)) h := .quiet fun o c ac e1 e2 h3 h4=>by
 subst e2;obtain ⟨kS,d,g1,g2,g3,-⟩:=cm (hE.types t ti bO);have hd:d = .map kt e:=by rw [hk] at g3; cases d <;> first | (cases g3; rfl) | cases g3
 subst hd;obtain ⟨blk,cap,en,ck,q1,q2,q3,qe,q4⟩:=tx h3 hb (hm c ac h3 h4);have cy:=hx c ac h3 h4;generalize hu:ac.eval ko=u at cy;cases cy with
 |d _ _ cy =>
  have r1:=BJ hE hT h1 cy en.isEmpty;have r2:=BI hE hT h1 cy h2 q4
  have hv:∃ (v:Value) (f:Bool),f=(findD x es).isSome∧VD c.bad c.w ((findD x es).getD z) v∧((match jH x es en.toList 0 with
    |some (_,v)=>pure (v,true)
    |none=>do pure (← zeroValue e,false):Sem (Value × Bool))).run E.P c.w = .ok (v,f) c.w:=by
   cases hf:ek x es with
   |none =>
    rw [BF hf];refine ⟨zv,false,rfl,M5 _ _,?_⟩;simp [jH,hf,hz]
   |some j =>
    obtain ⟨p,p1,p2,p3⟩:=yx hf;rw [p3];have hj:j<en.toList.length:=by rw [q4.1]; exact aT p1
    refine ⟨en.toList[j].val,true,rfl,(q4.2 j p.1 p.2 _ p1 (by simp)).2,?_⟩;have:en.toList[j]? = some en.toList[j]:=by simp
    simp only [jH,hf,Option.bind_some,this,Option.map_some];rfl
  obtain ⟨v,f,rfl,fw,cq⟩:=hv;have main:(Instr.lookup t (.map (some blk)) u ok).run E.P c.w = .ok (if ok then .tuple #[v,.bool (findD x es).isSome] else v) c.w:=by
   simp only [Instr.lookup,Sem.run_bind,run_underlying g2,Result.andThen_ok,oA q3,Sem.run_pure,r1,r2];have:=cq;cases FT:jH x es en.toList 0 with
   |none =>
    rw [FT] at this;simp only [Sem.run_bind,Sem.run_pure] at this ⊢;rw [hz] at this ⊢;simp only [Result.andThen_ok,Result.ok.injEq,Prod.mk.injEq] at this ⊢;rw [← this.1.1,← this.1.2];first | exact ⟨rfl,rfl⟩ | exact ⟨rfl,trivial⟩ | rfl
   |some q =>
    rw [FT] at this;simp only [Sem.run_pure,Result.ok.injEq,Prod.mk.injEq] at this ⊢;rw [← this.1.1,← this.1.2];first | exact ⟨rfl,rfl⟩ | exact ⟨rfl,trivial⟩ | rfl
  refine ⟨_,by simp only [execOp,e1,q1,hu,Sem.run_bind,main,Result.andThen_ok,Sem.run_pure]; rfl,?_⟩;cases ok with
  |true =>
   refine .d _ _ (.aF _ _ rfl fun j y w hy hw=>?_)
   match j with
   | 0=>simp at hy hw; subst hy; subst hw; exact fw
   | 1=>simp at hy hw; subst hy; subst hw; exact .bool _
   |j+2=>simp at hy
  |false=>exact .d _ _ fw
theorem FU (hE:E.OK) {op:Op} {t kt e:Nat} {m ko vo:Operand} (b9:op = .mapUpdate t m ko vo∨op = .insert t m ko vo) {ti:bk} (bO:E.T[t]? = some ti) (hk:ti.k = .map kt e) {kd:TK} (hT:pH E kt kd) {b:Nat} {es:List (DV × DV)} (hb:h[b]? = some (.map es)) (hm:aZ E.G s m (.map b)) {x y:DV} (hx:aZ E.G s ko (.d x)) (hy:aZ E.G s vo (.d y))
  (h1:cW E.T kd x) (h2:∀ p∈es,cW E.T kd p.1):bC E op s h (.d .undef) (h.set b (.map (bM x y es))):=fun o c ac e1 e2 h3 h4=>by
 subst e2;obtain ⟨kS,d,g1,g2,g3,-⟩:=cm (hE.types t ti bO);have hd:d = .map kt e:=by rw [hk] at g3; cases d <;> first | (cases g3; rfl) | cases g3
 subst hd;have er:=aT hb;obtain ⟨blk,cap,en,ck,q1,q2,q3,qe,q4⟩:=tx h3 hb (hm c ac h3 h4);have cy:=hx c ac h3 h4;have lV:=hy c ac h3 h4;generalize hu:ac.eval ko=u at cy;generalize hw:ac.eval vo=w at lV;cases cy with
 |d _ _ cy=>cases lV with
  |d _ _ lV =>
   have r1:=BJ hE hT h1 cy false;have r2:=BI hE hT h1 cy h2 q4;have hblk:blk<c.w.heap.size:=(h3.br b blk cap q2).1;have main:∃ (gH:Array MapEntry) (kT:Nat),(Instr.mapUpdate t (.map (some blk)) u w).run E.P c.w = .ok () { c.w with heap:=c.w.heap.setIfInBounds blk (.map gH kT) }∧lJ gH kT (bM x y es).length ∧
     ∀ (j:Nat) (k v:DV) (mm:MapEntry),(bM x y es)[j]? = some (k,v)→gH[j]? = some mm→VD c.bad c.w k mm.key∧VD c.bad c.w v mm.val:=by
    cases hf:ek x es with
    |none =>
     refine ⟨en.push { key:=u,val:=w,born:=ck },ck+1,?_,?_,?_⟩
     ·simp only [Instr.mapUpdate,Sem.run_bind,run_underlying g2,Result.andThen_ok,oA q3,r1,r2,jH,hf,Option.bind_none,vS _ q3]
     ·rw [vR hf,List.length_append];exact qe.push u w
     ·intro j k v mm hj dF;rw [vR hf] at hj;have hl:en.size=es.length:=by simpa using q4.1
      rcases Nat.lt_or_ge j es.length with ai | aC
      ·rw [List.getElem?_append_left ai] at hj;rw [Array.getElem?_push,if_neg (by omega)] at dF;exact q4.2 j k v mm hj (by simpa using dF)
      ·have iF:j=es.length:=by
        have:=aT hj;simp at this;omega
       subst iF;rw [List.getElem?_append_right (Nat.le_refl _)] at hj;simp at hj;obtain ⟨rfl,rfl⟩:=hj;rw [Array.getElem?_push,if_pos hl.symm] at dF;cases dF;exact ⟨cy,lV⟩
    |some i =>
     obtain ⟨p,p1,p2,p3⟩:=yx hf;have hl:en.size=es.length:=by simpa using q4.1
     have hi:i<en.size:=by rw [hl]; exact aT p1
     have jm:en[i]? = some en[i]:=by simp [hi]
     have M6:=(q4.2 i p.1 p.2 en[i] p1 (by simp [hi])).1;have vU:=FO p2;have e3:=ru h1 cy;have e4:=ru (h2 p (List.mem_of_getElem? p1)) M6;have BK:Instr.sameBits 10000 en[i].key u=true:=by
      rw [e3,e4,← vU];exact FP h1
     refine ⟨en.modify i fun e=>{ e with key:=u,val:=w },ck,?_,?_,?_⟩
     ·have BL:jH x es en.toList 0=some (i,en[i].val):=by
       simp [jH,hf,hi]
      have yz:(Instr.keyThatStays en[i].key u).run E.P c.w = .ok u c.w:=by
       simp only [Instr.keyThatStays,BK,if_true,Sem.run_pure]
      simp only [Instr.mapUpdate,Sem.run_bind,run_underlying g2,Result.andThen_ok,oA q3,r1,r2,BL,jm,Option.map_some,Option.getD_some,yz,vS _ q3]
     ·rw [vQ hf,List.length_set];exact qe.modify i u w
     ·intro j k v mm hj dF;rw [vQ hf] at hj;by_cases jI:j=i
      ·subst jI;rw [List.getElem?_set_self (by omega)] at hj;cases hj;rw [Array.getElem?_modify,if_pos rfl,jm] at dF;cases dF;exact ⟨cy,lV⟩
      ·rw [List.getElem?_set_ne (Ne.symm jI)] at hj;rw [Array.getElem?_modify,if_neg (Ne.symm jI)] at dF;exact q4.2 j k v mm hj (by simpa using dF)
   obtain ⟨gH,kT,cq,hlen,eT⟩:=main
   let c':Cx:={ c with heap:=c.heap.set b (.map (bM x y es)),w:={ c.w with heap:=c.w.heap.setIfInBounds blk (.map gH kT) } }
   have vV:c'.w.heap[blk]? = some (.map gH kT):=by simp [c',hblk]
   have kp:∀ b',b'≠blk→c'.w.heap[b']? = c.w.heap[b']? := fun b' b8=>by simp [c',Array.getElem?_setIfInBounds,Ne.symm b8]
   have oB:c'.heap[b]? = some (.map (bM x y es)):=by show (c.heap.set b _)[b]? = _; rw [List.getElem?_set_self er]
   have iH:∀ i,i≠b→c'.heap[i]? = c.heap[i]? := fun i hi=>by show (c.heap.set b _)[i]? = _; rw [List.getElem?_set_ne (Ne.symm hi)]
   have aX:Step c c':=⟨rfl,h3.bN,rfl,rfl,rfl,by simp [c'],fun b' _ bL=>kp b' (fun mH=>bL b cap (mH ▸ q2)),fun i b' n hi _=>⟨n,hi⟩,fun i bx hi=>by
    by_cases bu:i=b
    ·subst bu;rw [hb] at hi;cases hi;exact .inl ⟨_,oB,rfl⟩
    ·rw [← iH i bu] at hi;cases bx with
     |cells cs=>exact .inl ⟨cs,hi,rfl,rfl⟩
     |arr g sz l=>exact .inl ⟨g,l,hi,.inr ⟨rfl,rfl,rfl⟩⟩
     |map es=>exact .inl ⟨es,hi,rfl⟩
     |gone=>exact hi
     |hole=>exact ⟨_,hi⟩⟩
   have aM:aK E.G c':=by
    refine h3.next aX (fun i b' n hi=>?_) h3.inj (fun i bx hi=>?_)
    ·have:=h3.br i b' n hi;refine ⟨by simpa [c'] using this.1,?_⟩;show i<(c.heap.set b _).length;rw [List.length_set];exact this.2
    ·by_cases bu:i=b
     ·subst bu;rw [oB] at hi;cases hi;right;exact ⟨blk,cap,gH,kT,q2,vV,hlen,fun j k v mm hj dF=>⟨aX.vd (eT j k v mm hj dF).1,aX.vd (eT j k v mm hj dF).2⟩⟩
     ·rw [iH i bu] at hi;exact .inl ⟨hi,rfl,fun b' n hn=>kp b' (fun mH=>bu (h3.inj i b blk n cap (mH ▸ hn) q2))⟩
   refine ⟨c',undef,.inr ⟨?_,rfl⟩,rfl,aM,.d _ _ .undef,aX⟩;rcases b9 with rfl | rfl
   ·simp only [execOp,e1,q1,hu,hw,Sem.run_bind,cq,Result.andThen_ok,Sem.run_pure];rfl
   ·simp only [execOp,e1,q1,hu,hw,Sem.run_bind,cq,Result.andThen_ok,Sem.run_pure];rfl
theorem M7 (hE:E.OK) {t:Nat} {args:Array Operand} {ts:Array TypeId} {m:Operand} (iE:args.toList[0]? = some m) (gE:ts.toList[0]? = some t) {ti:bk} (bO:E.T[t]? = some ti) {kt e:Nat} (hk:ti.k = .map kt e) {b:Nat} {es:List (DV × DV)} (hb:h[b]? = some (.map es)) (hm:aZ E.G s m (.map b)) :
  bC E (.call { callee := .builtin .len,args:=args,argTypes:=ts }) s h (.d (.int .i64 es.length)) h := .quiet fun o c ac e1 e2 h3 h4=>by
 subst e2;obtain ⟨kS,d,g1,g2,g3,-⟩:=cm (hE.types t ti bO);have hd:d = .map kt e:=by rw [hk] at g3; cases d <;> first | (cases g3; rfl) | cases g3
 subst hd;obtain ⟨blk,cap,en,ck,q1,q2,q3,qe,q4⟩:=tx h3 hb (hm c ac h3 h4);refine ⟨.int .i64 es.length,?_,.d _ _ (.int _ _)⟩;have hl:en.size=es.length:=by simpa using q4.1
 have eQ:args[0]? = some m:=by simpa using iE
 have lM:ts[0]? = some t:=by simpa using gE
 have sY:(args.map ac.eval)[0]? = some (.map (some blk)):=by rw [Array.getElem?_map,eQ]; simp [q1]
 simp only [execOp,e1,resolve,invoke,builtin,Builtin.len_,lM,sY,Sem.run_bind,Sem.run_pure,Result.andThen_ok,run_underlying g2,oA q3,goInt,hl]
def tz (E:Env) (kt:Nat) (stop:Prop) (k:TK→Prop):Prop:=aO E.T kt stop fun i=>match i.k with
 | .int j=>k (.int j)
 | .string=>k .string
 | .bool=>k .bool
 | .struct fs=>match vJ kt E.Q with
  |true=>k (.struct fs)
  |false=>stop
 |_=>stop
theorem yA {kt:Nat} {stop:Prop} {k:TK→Prop} (H:tz E kt stop k):stop∨∃ kd,pH E kt kd∧k kd:=by
 unfold tz at H;rcases a8 H with H | ⟨i,hi,H⟩
 ·exact .inl H
 split at H
 ·rename_i q; exact .inr ⟨_,q ▸ .plain i hi (by rw [q]; trivial),H⟩
 ·rename_i q; exact .inr ⟨_,q ▸ .plain i hi (by rw [q]; trivial),H⟩
 ·rename_i q; exact .inr ⟨_,q ▸ .plain i hi (by rw [q]; trivial),H⟩
 ·rename_i fs q;split at H
  ·rename_i q2; exact .inr ⟨_,.struct i hi fs q (yv q2),H⟩
  ·exact .inl H
 ·exact .inl H
def tA (E:Env) (o:Op) (s:List AV) (h:List ae) (stop:Prop) (k:AV→List ae→Prop):Prop :=
 match o with
 | .makeMap _ none=>lI h (.map []) 0 fun h' n=>k (.map n) h'
 | .lookup t m x ok=>aO E.T t stop fun ti=>match ti.k with
  | .map kt e=>bS E.G s m stop fun
   | .map b=>aO h b stop fun
    | .map es=>bS E.G s x stop fun
     | .d y=>tz E kt stop fun kd=>vT E e kd y es fun v f=>match ok with
      |true=>k (.d (.aF [v,.bool f])) h
      |false=>k (.d v) h
     |_=>stop
    |_=>stop
   |_=>stop
  |_=>stop
 | .call { callee := .builtin .len,args:=args,argTypes:=ts }=>aO args.toList 0 stop fun m=>aO ts.toList 0 stop fun t=>aO E.T t stop fun ti=>match ti.k with
  | .map _ _=>bS E.G s m stop fun
   | .map b=>aO h b stop fun
    | .map es=>k (.d (.int .i64 es.length)) h
    |_=>stop
   |_=>stop
  |_=>stop
 | .mapUpdate t m x v=>aO E.T t stop fun ti=>match ti.k with
  | .map kt _=>bS E.G s m stop fun
   | .map b=>aO h b stop fun
    | .map es=>bS E.G s x stop fun
     | .d y=>bS E.G s v stop fun
      | .d z=>tz E kt stop fun kd=>need (cW E.T kd y∧∀ p∈es,cW E.T kd p.1) (fk h b (.map (bM y z es)) fun h'=>k (.d .undef) h')
      |_=>stop
     |_=>stop
    |_=>stop
   |_=>stop
  |_=>stop
 |_=>stop
theorem M8 (hE:E.OK) {o:Op} {stop:Prop} {k:AV→List ae→Prop} (H:tA E o s h stop k):stop∨∃ v h',k v h'∧bC E o s h v h':=by
 unfold tA at H;split at H
 ·rw [pv,Nat.zero_add] at H;exact .inr ⟨_,_,H,M0⟩
 ·rename_i t m x ok;rcases a8 H with H | ⟨ti,bO,H⟩
  ·exact .inl H
  split at H
  ·rename_i kt e hk;rcases bW H with H | ⟨a,ha,H⟩
   ·exact .inl H
   split at H
   ·rename_i b;rcases a8 H with H | ⟨bx,hb,H⟩
    ·exact .inl H
    split at H
    ·rename_i es;rcases bW H with H | ⟨y,hy,H⟩
     ·exact .inl H
     split at H
     ·rename_i y;rcases yA H with H | ⟨kd,hT,H⟩
      ·exact .inl H
      obtain ⟨z,zv,f1,f2,f3,f4,H⟩:=M3 H;have:=M4 (s:=s) hE bO hk hT hb ha hy f1 f2 f3 f4 ok;cases ok with
      |true=>exact .inr ⟨_,_,H,this⟩
      |false=>exact .inr ⟨_,_,H,this⟩
     ·exact .inl H
    ·exact .inl H
   ·exact .inl H
  ·exact .inl H
 ·rename_i args ts;rcases a8 H with H | ⟨m,hm,H⟩
  ·exact .inl H
  rcases a8 H with H | ⟨t,ht,H⟩
  ·exact .inl H
  rcases a8 H with H | ⟨ti,bO,H⟩
  ·exact .inl H
  split at H
  ·rename_i kt e hk;rcases bW H with H | ⟨a,ha,H⟩
   ·exact .inl H
   split at H
   ·rename_i b;rcases a8 H with H | ⟨bx,hb,H⟩
    ·exact .inl H
    split at H
    ·exact .inr ⟨_,_,H,M7 hE hm ht bO hk hb ha⟩
    ·exact .inl H
   ·exact .inl H
  ·exact .inl H
 ·rename_i t m x v;rcases a8 H with H | ⟨ti,bO,H⟩
  ·exact .inl H
  split at H
  ·rename_i kt e hk;rcases bW H with H | ⟨a,ha,H⟩
   ·exact .inl H
   split at H
   ·rename_i b;rcases a8 H with H | ⟨bx,hb,H⟩
    ·exact .inl H
    split at H
    ·rename_i es;rcases bW H with H | ⟨y,hy,H⟩
     ·exact .inl H
     split at H
     ·rename_i y;rcases bW H with H | ⟨z,hz,H⟩
      ·exact .inl H
      split at H
      ·rename_i z;rcases yA H with H | ⟨kd,hT,H⟩
       ·exact .inl H
       obtain ⟨⟨f1,f2⟩,H⟩:=kP H;rw [fQ] at H;exact .inr ⟨_,_,H,FU hE (.inl rfl) bO hk hT hb ha hy hz f1 f2⟩
      ·exact .inl H
     ·exact .inl H
    ·exact .inl H
   ·exact .inl H
  ·exact .inl H
 ·exact .inl H
def nz (E:Env) (o:Op) (s:List AV) (h:List ae) (stop:Prop) (k:AV→List ae→Prop):Prop:=ow E.T E.G o s h (BB E o s (tA E o s h stop k) fun v=>k v h) k
theorem BM (hE:E.OK) {o:Op} {stop:Prop} {k:AV→List ae→Prop} (H:nz E o s h stop k):stop∨∃ v h',k v h'∧bC E o s h v h':=by
 rcases MJ hE H with H | H
 ·rcases MS H with H | ⟨v,H,ho⟩
  ·exact M8 hE H
  ·exact .inr ⟨v,h,H,ho h⟩
 ·exact .inr H
end
end Go.ax
end
