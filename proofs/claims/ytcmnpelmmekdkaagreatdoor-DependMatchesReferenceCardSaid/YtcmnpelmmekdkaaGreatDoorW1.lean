/- Lemmas of mine. Conditions: as stated. -/
import Derived.Test.YtcmnpelmmekdkaaGreatDoorW0
import Derived.RangeFuncNested
import Derived.RangeFuncLeaves
import Derived.Laws.AppendOwn
import Derived.Laws.MakeOwn
import Derived.Laws.StructEq
import Derived.Laws.BytesString
import Derived.Lib.ConvBytes
import Derived.WideKeyRuns
import Derived.MapKept
set_option linter.unusedVariables false
set_option linter.unusedSimpArgs false
section
namespace Go.aA
open Go Go.RowKit
inductive aK where
 |code (c:Code)
 |inBlock (id:Nat)
 |inLoop (c:Code)
 |bF (ops:Array Oper) (l:List Oper)
 |qI (l:Nat)
 |ue
def aK.bQ:aK->Item
 | .code c => .code c
 | .inBlock id => .inBlock id
 | .inLoop c => .inLoop c
 | .bF ops l => .inRegion ops ((List.range ops.size).drop (ops.size-l.length))
 | .qI l => .inRangeFunc l
 | .ue => .beginRound
def aK.ok:aK->Prop
 | .bF ops l=>∃ n,n<=ops.size/\l=ops.toList.drop n
 |_=>True
structure iG where
 f:FuncId
 cG:Option Nat
 aL:List Nat
def marks(l:List Nat):List Deferred:=l.map fun d=>{ target := .collected d,args := #[] }
structure cu where
 ae:iG
 todo:List aK
 jr:List AV
def bf(x:iG):Frame:={ (default:Frame)with fn:=x.f,kind := .normal,roundOf:=x.cG }
def cu.bQ(f:cu)(t:Array Value):Frame:=(bf f.ae).atR ⟨t,marks f.ae.aL⟩ (f.todo.map aK.bQ)
def cu.ok(f:cu):Prop:=∀ i∈f.todo,i.ok
def fq:List cu->List (Array Value)->List Frame
 |f::fs,t::ts=>f.bQ t::fq fs ts
 |_,_=>[]
def CR(c:Cx):List cu->List (Array Value)->Prop
 |[],[]=>True
 |f::fs,t::ts=>VS c f.jr t/\f.ok/\CR c fs ts
 |_,_=>False
theorem qJ{c c':Cx}(h:∀ x v,VR c x v->VR c' x v):∀ {fs:List cu} {ts:List (Array Value)},CR c fs ts->CR c' fs ts
 |[],[],_=>trivial
 |_::_,_::_,h'=>⟨⟨h'.1.1,fun i x v hx hv=>h x v (h'.1.2 i x v hx hv)⟩,h'.2.1,qJ h h'.2.2⟩
theorem Step.cr{c c':Cx}(h:Step c c'):∀ {fs:List cu} {ts:List (Array Value)},CR c fs ts->CR c' fs ts
 |[],[],_=>trivial
 |_::_,_::_,h'=>⟨h.vs h'.1,h'.2.1,h.cr h'.2.2⟩
def yJ(c0 c:Cx)(i:Nat):af->Prop
 | .cells cs=>(∃ cs',c.heap[i]?=some (.cells cs')/\c.own i=c0.own i/\cs'.length=cs.length)\/c.heap[i]?=some .gone
 | .arr _ ts l=>(∃ g' l',c.heap[i]?=some (.arr g' ts l')/\(0<g'\/g'=0/\l'.length=l.length/\c.own i=c0.own i))\/c.heap[i]?=some .gone
 | .map _=>(∃ er,c.heap[i]?=some (.map er)/\c.own i=c0.own i)\/c.heap[i]?=some .gone
 | .gone=>c.heap[i]?=some .gone
structure Rel(c0 c:Cx):Prop where
 ak:c.ak=c0.ak
 os:c.w.os=c0.w.os
 tape:c.w.tape=c0.w.tape
 output:c.w.output=c0.w.output
 size:c0.w.heap.size<=c.w.heap.size
 keep:∀ b,b<c0.w.heap.size->(∀ i n,c0.own i≠some (b,n))->c.w.heap[b]?=c0.w.heap[b]?
 dw:∀ i b n,c.own i=some (b,n)->b<c0.w.heap.size->∃ m,c0.own i=some (b,m)
 boxes:∀ i bx,c0.heap[i]?=some bx->yJ c0 c i bx
def yK(h:List af):Prop:=∀ (i g:Nat) (ts:Nat × Nat) (l:List DV),h[i]?=some (.arr g ts l)->g=0
theorem Rel.refl(c:Cx)(hf:yK c.heap):Rel c c:=⟨rfl,rfl,rfl,rfl,Nat.le_refl _,fun _ _ _=>rfl,fun i b n h _=>⟨n,h⟩,fun i bx h=>by
  cases bx with
  |cells cs=>exact .inl ⟨cs,h,rfl,rfl⟩
  |arr g sz l=>exact .inl ⟨g,l,h,.inr ⟨hf i g sz l h,rfl,rfl⟩⟩
  |map es=>exact .inl ⟨es,h,rfl⟩
  |gone=>exact h⟩
theorem Rel.step{c0 c c':Cx}(h:Rel c0 c)(k:Step c c'):Rel c0 c' where
 ak:=k.ak.trans h.ak
 os:=k.os.trans h.os
 tape:=k.tape.trans h.tape
 output:=k.output.trans h.output
 size:=Nat.le_trans h.size k.size
 keep:=fun x hx hn=>by
  rw[k.keep x (Nat.lt_of_lt_of_le hx h.size) (fun i n hi=>by obtain⟨m,hj⟩:=h.dw i x n hi hx;exact hn i m hj)];exact h.keep x hx hn
 dw:=fun i x n hi hx=>by
  obtain⟨m,hj⟩:=k.dw i x n hi (Nat.lt_of_lt_of_le hx h.size);exact h.dw i x m hj hx
 boxes:=fun i bx hi=>by
  have h1:=h.boxes i bx hi;cases bx with
  |cells cs =>
   rcases h1 with⟨cs',h1,h2,h3⟩|h1
   ·rcases k.boxes i _ h1 with⟨D9,k1,k2,k3⟩|k1
    ·exact .inl ⟨D9,k1,k2.trans h2,k3.trans h3⟩
    ·exact .inr k1
   ·exact .inr (k.boxes i _ h1)
  |arr g sz l =>
   rcases h1 with⟨g',l',h1,h2⟩|h1
   ·rcases k.boxes i _ h1 with⟨Ea,Eb,k1,k2⟩|k1
    ·refine .inl ⟨Ea,Eb,k1,?_⟩;rcases h2 with h2|⟨h2,h3,h4⟩<;>rcases k2 with k2|⟨k2,k3,k4⟩
     ·left;omega
     ·left;omega
     ·left;omega
     ·exact .inr ⟨k2.trans h2,k3.trans h3,k4.trans h4⟩
    ·exact .inr k1
   ·exact .inr (k.boxes i _ h1)
  |map es =>
   rcases h1 with⟨er,h1,h2⟩|h1
   ·rcases k.boxes i _ h1 with⟨Ec,k1,k2⟩|k1
    ·exact .inl ⟨Ec,k1,k2.trans h2⟩
    ·exact .inr k1
   ·exact .inr (k.boxes i _ h1)
  |gone=>exact k.boxes i _ h1
structure eU(c0 c:Cx):Prop where
 lim:∀ b,c0.ak b->b<c0.w.heap.size
 l5:∀ i p,c0.own i=some p->i<c0.heap.length
 ak:∀ b,c0.ak b->c.ak b
 oA:∀ b,c.ak b->c0.ak b\/c0.w.heap.size<=b
 os:c.w.os=c0.w.os
 tape:c.w.tape=c0.w.tape
 output:c.w.output=c0.w.output
 size:c0.w.heap.size<=c.w.heap.size
 keep:∀ b,b<c0.w.heap.size->(∀ i n,c0.own i≠some (b,n))->c.w.heap[b]?=c0.w.heap[b]?
 dw:∀ i b n,c.own i=some (b,n)->b<c0.w.heap.size->∃ m,c0.own i=some (b,m)
 boxes:∀ i bx,c0.heap[i]?=some bx->yJ c0 c i bx
theorem Rel.x{c0 c:Cx}(h:Rel c0 c)(hb:∀ b,c0.ak b->b<c0.w.heap.size)(ho:∀ i b n,c0.own i=some (b,n)->b<c0.w.heap.size/\i<c0.heap.length):eU c0 c:=⟨hb,fun i p hp=>(ho i p.1 p.2 hp).2,fun b h'=>by rw[h.ak];exact h',fun b h'=>by rw[h.ak]at h';exact .inl h',h.os,h.tape,h.output,h.size,h.keep,h.dw,h.boxes⟩
theorem eU.step{c0 c c':Cx}(h:eU c0 c)(k:Step c c'):eU c0 c':=by
 have h1:Rel ({ c0 with ak:=c.ak }) c:=⟨rfl,h.os,h.tape,h.output,h.size,h.keep,h.dw,fun i bx hi=>by
  have:=h.boxes i bx hi
  cases bx<;>exact this⟩
 have h2:=h1.step k
 exact⟨h.lim,h.l5,fun b hb=>by rw[k.ak];exact h.ak b hb,fun b hb=>by rw[k.ak]at hb;exact h.oA b hb,h2.os,h2.tape,h2.output,h2.size,h2.keep,h2.dw,fun i bx hi=>by
  have:=h2.boxes i bx hi
  cases bx<;>exact this⟩
def Cx.oB(c:Cx)(ak:Nat->Prop):Cx:={ c with ak:=ak }
theorem eU.clean{c0 c:Cx}(h:eU c0 c):Rel c0 (c.oB c0.ak):=⟨rfl,h.os,h.tape,h.output,h.size,h.keep,h.dw,fun i bx hi=>by
 have:=h.boxes i bx hi
 cases bx<;>exact this⟩
theorem mQ{c c':Cx}{i:Nat}{bx:af}(h1:c.heap[i]?=some bx)(h2:c'.heap[i]?=c.heap[i]?)(h3:c'.own i=c.own i):tP c c' i bx:=by
 rw[h1]at h2;cases bx with
 |cells cs=>exact .inl ⟨cs,h2,h3,rfl⟩
 |arr g sz l=>exact .inl ⟨g,l,h2,.inr ⟨rfl,rfl,h3⟩⟩
 |map es=>exact .inl ⟨es,h2,h3⟩
 |gone=>exact h2
theorem jo.gen{c c':Cx}(l6:∀ x v,VR c x v->VR c' x v)(fV:∀ x v,VD c.bad c.w x v->VD c'.bad c'.w x v){i:Nat}{bx:af}(hb:jo c i bx)(ho:c'.own i=c.own i)(hw:∀ b n,c.own i=some (b,n)->c'.w.heap[b]?=c.w.heap[b]?):jo c' i bx:=by
 cases bx with
 |cells cs =>
  obtain⟨blk,cap,vs,ty,h1,h2,h3,h4⟩:=hb;exact⟨blk,cap,vs,ty,ho.trans h1,(hw blk cap h1).trans h2,h3,fun j x v hx hv=>l6 x v (h4 j x v hx hv)⟩
 |arr g ts l =>
  obtain⟨h0,h1,h2⟩:=hb;refine⟨h0,h1,?_⟩;rcases h2 with⟨h2,h3⟩|⟨blk,cap,vs,h2,h3,h4,h5,h6,h7⟩
  ·exact .inl ⟨ho.trans h2,h3⟩
  ·refine .inr ⟨blk,cap,vs,ho.trans h2,(hw blk cap h2).trans h3,h4,h5,h6,fun i j e x he hx=>?_⟩;obtain⟨v,h8,yq,h9⟩:=h7 i j e x he hx;exact⟨v,h8,yq,fV x v h9⟩
 |map es =>
  obtain⟨blk,cap,en,ck,h1,h2,h3,h4⟩:=hb;exact⟨blk,cap,en,ck,ho.trans h1,(hw blk cap h1).trans h2,h3,fun j k x m hx hm=>⟨fV _ _ (h4 j k x m hx hm).1,fV _ _ (h4 j k x m hx hm).2⟩⟩
 |gone=>exact ho.trans hb
theorem JT{c:Cx}{ak:Nat->Prop}(hb:∀ b,ak b->c.ak b)(b:Nat)(_:b<c.w.heap.size)(hn:¬ c.bad b):¬ (c.oB ak).bad b/\(c.oB ak).w.heap[b]?=c.w.heap[b]? :=
 ⟨fun h=>hn (h.elim (fun h => .inl (hb b h)) .inr),rfl⟩
theorem EA{c:Cx}{ak:Nat->Prop}(hb:∀ b,ak b->c.ak b){x:AV}{v:Value}(hv:VR c x v):VR (c.oB ak) x v:=sh (JT hb) (fun _ _ hi=>mQ hi rfl rfl) hv
theorem aD.oB{G:List (Nat × DV)}{c:Cx}{ak:Nat->Prop}(ho:aD G c)(hb:∀ b,ak b->c.ak b):aD G (c.oB ak) where
 bE:=fun b h=>ho.bE b (hb b h)
 bH:=ho.bH
 inj:=ho.inj
 sep:=fun i b n hi h=>ho.sep i b n hi (hb b h)
 box:=fun i bx hi=>(ho.box i bx hi).gen (fun _ _=>EA hb) (fun _ _ hv=>hv.mono (JT hb)) rfl (fun _ _ _=>rfl)
 fB:=fun g e hg=>EA hb (ho.fB g e hg)
structure Row where
 blk:Nat
 cap:Nat
 ts:Nat × Nat
 l:List DV
structure qK(lim:Nat)(c:Cx)(r:Row):Prop where
 ak:c.ak r.blk
 new:lim<=r.blk
 pos:0<r.ts.2
 len:∀ (i:Nat) (e:DV),r.l[i]?=some e->e.cells.length=r.ts.2
 mem:∃ vs:Array Value,c.w.heap[r.blk]?=some (.cells vs r.ts.1 (0,0))/\vs.size=r.cap*r.ts.2/\r.l.length<=r.cap/\r.cap<=maxLen /\
  ∀ (i j:Nat) (e x:DV),r.l[i]?=some e->e.cells[j]?=some x->∃ v,vs[i*r.ts.2+j]?=some v/\v.oneCell'=true/\VD c.bad c.w x v
structure Iter where
 bm:Nat
 r:Nat
 en:Array MapEntry
 ck:Nat
 since:Nat
 seen:List Nat
 es:List (DV × DV)
structure l7(lim:Nat)(c:Cx)(i:Iter):Prop where
 EB:c.ak i.bm
 yL:c.ak i.r
 JU:lim<=i.r
 map:c.w.heap[i.bm]?=some (.map i.en i.ck)
 iter:∃ c0,i.since<=c0/\(i.seen≠[]->c0=i.ck)/\c.w.heap[i.r]?=some (.mapIter (some i.bm) i.since ((i.seen.map fun j=>((i.en[j]?).map (·.born)).getD 0).toArray) c0)
 old:∀ x∈i.en.toList,x.born<i.since
 qL:py i.en i.ck i.es.length
 val:∀ (j:Nat) (k x:DV) (m:MapEntry),i.es[j]?=some (k,x)->i.en[j]?=some m->VD c.bad c.w k m.key/\VD c.bad c.w x m.val
 lt:∀ j∈i.seen,j<i.en.size
structure mR where
 l:Nat
 d:Nat
 st:LoopState
 pe:Option Code
 fn:FuncId
 tm:Array Value
 ps:Array Tmp
 assign:Code
 body:Code
 jr:List AV
def mR.fD(i:mR):Loop:={ state:=i.st,pending:=i.pe,fn:=i.fn,tmps:=i.tm,params:=i.ps,assign:=i.assign,body:=i.body,defers:=i.d }
structure oC(lim:Nat)(c:Cx)(i:mR):Prop where
 ak:c.ak i.l
 new:lim<=i.l
 mem:c.w.heap[i.l]?=some (.loop i.fD)
 jr:VS c i.jr i.tm
structure sr(lim:Nat)(c:Cx)(d:Nat):Prop where
 ak:c.ak d
 new:lim<=d
 mem:c.w.heap[d]?=some (.deferred (some []))
inductive bT where
 |row (r:Row)
 |iter (i:Iter)
 |loop (i:mR)
 |mark (d:Nat)
def bT.cZ:bT->List Nat
 | .row r=>[r.blk]
 | .iter i=>[i.bm,i.r]
 | .loop i=>[i.l]
 | .mark d=>[d]
def iY(lim:Nat)(c:Cx):bT->Prop
 | .row r=>qK lim c r
 | .iter i=>l7 lim c i
 | .loop i=>oC lim c i
 | .mark d=>sr lim c d
structure gQ(lim:Nat)(c:Cx)(rows:List bT):Prop where
 each:∀ r∈rows,iY lim c r
 nodup:(rows.flatMap bT.cZ).Nodup
theorem gQ.nil{lim:Nat}{c:Cx}:gQ lim c []:=⟨fun r hr=>by simp at hr,List.nodup_nil⟩
theorem qK.gen{lim:Nat}{c c':Cx}{r:Row}(h:qK lim c r)(hb:c'.ak r.blk)(hw:c'.w.heap[r.blk]?=c.w.heap[r.blk]?)(fV:∀ x v,VD c.bad c.w x v->VD c'.bad c'.w x v):qK lim c' r:=by
 obtain⟨h1,h2,h3,h4,vs,h5,h6,h7,h8,h9⟩:=h;exact⟨hb,h2,h3,h4,vs,hw.trans h5,h6,h7,h8,fun i j e x he hx=>by obtain⟨v,k1,k2,k3⟩:=h9 i j e x he hx;exact⟨v,k1,k2,fV x v k3⟩⟩
theorem l7.gen{lim:Nat}{c c':Cx}{i:Iter}(h:l7 lim c i)(hb:c'.ak i.bm)(hr:c'.ak i.r)(hw:c'.w.heap[i.bm]?=c.w.heap[i.bm]?)(uf:c'.w.heap[i.r]?=c.w.heap[i.r]?)(fV:∀ x v,VD c.bad c.w x v->VD c'.bad c'.w x v):l7 lim c' i:=by
 obtain⟨h1,h2,h3,h4,h5,h6,h7,h8,h9⟩:=h;exact⟨hb,hr,h3,hw.trans h4,(by obtain⟨c0,k1,k0,k2⟩:=h5;exact⟨c0,k1,k0,uf.trans k2⟩),h6,h7,fun j k x m h1 h2=>⟨fV _ _ (h8 j k x m h1 h2).1,fV _ _ (h8 j k x m h1 h2).2⟩,h9⟩
theorem iY.ak{lim:Nat}{c:Cx}:∀ {g:bT},iY lim c g->∀ b∈g.cZ,c.ak b
 | .row r,h,b,hb=>by simp[bT.cZ]at hb;subst hb;exact qK.ak h
 | .iter i,h,b,hb=>by simp[bT.cZ]at hb;rcases hb with rfl|rfl;exact l7.EB h;exact l7.yL h
 | .loop i,h,b,hb=>by simp[bT.cZ]at hb;subst hb;exact oC.ak h
 | .mark d,h,b,hb=>by simp[bT.cZ]at hb;subst hb;exact sr.ak h
theorem iY.gen{lim:Nat}{c c':Cx}{g:bT}(h:iY lim c g)(hb:∀ b∈g.cZ,c'.ak b/\c'.w.heap[b]?=c.w.heap[b]?)(fV:∀ x v,VD c.bad c.w x v->VD c'.bad c'.w x v)(l6:∀ x v,VR c x v->VR c' x v):iY lim c' g:=by
 cases g with
 |loop i =>
  obtain⟨h1,h2,h3,h4⟩:=h;have:=hb i.l (by simp[bT.cZ]);exact⟨this.1,h2,this.2.trans h3,h4.1,fun j x v hx hv=>l6 x v (h4.2 j x v hx hv)⟩
 |mark d =>
  obtain⟨h1,h2,h3⟩:=h;have:=hb d (by simp[bT.cZ]);exact⟨this.1,h2,this.2.trans h3⟩
 |row r=>exact qK.gen h (hb _ (by simp[bT.cZ])).1 (hb _ (by simp[bT.cZ])).2 fV
 |iter i=>exact l7.gen h (hb i.bm (by simp[bT.cZ])).1 (hb i.r (by simp[bT.cZ])).1 (hb i.bm (by simp[bT.cZ])).2 (hb i.r (by simp[bT.cZ])).2 fV
theorem gQ.step{G:List (Nat × DV)}{lim:Nat}{c c':Cx}{rows:List bT}(h:gQ lim c rows)(ho:aD G c)(st:Step c c'):gQ lim c' rows :=
 ⟨fun r hr=>(h.each r hr).gen (fun b hb=>by
  have h1:=(h.each r hr).ak b hb
  exact⟨by rw[st.ak];exact h1,st.keep b (ho.bE _ h1) (fun i n hi=>ho.sep i _ n hi h1)⟩) (fun _ _=>st.vd) (fun _ _=>st.vr),h.nodup⟩
def bT.flat:bT->Prop
 | .loop _=>False
 |_=>True
structure ef(lim:Nat)(c:Cx)(rows loops:List bT):Prop where
 all:gQ lim c (rows++loops)
 flat:∀ g∈rows,g.flat
theorem ef.nil{lim:Nat}{c:Cx}:ef lim c [] []:=⟨.nil,fun g h=>by simp at h⟩
theorem ef.step{G:List (Nat × DV)}{lim:Nat}{c c':Cx}{rows loops:List bT}(h:ef lim c rows loops)(ho:aD G c)(st:Step c c'):ef lim c' rows loops:=⟨h.all.step ho st,h.flat⟩
structure FX where
 f0:FuncId
 cG:Option Nat
 aL:List Nat
 cls:List cu
 loops:List bT
 inl:List FuncId
structure bZ where
 n:Nat
 Q:AV->List af->Prop
 rows:List bT
 fx:FX
@[irreducible] def AW (E : Env) (f0 : FuncId) (cur : cu) (cls : List cu) (h : List af) (R : bZ) : Prop :=
 ∀ (c0 c:Cx) (t:Array Value) (ts:List (Array Value)),c0.heap.length=R.n->cur.ok->c.heap=h->aD E.G c->eU c0 c->ef c0.w.heap.size c R.rows R.fx.loops->VS c cur.jr t->CR c cls ts->∀ cs,∃ (c':Cx) (fr:Frame) (r:AV) (v:Value),
  R.Q r c'.heap/\VR c' r v/\aD E.G c'/\eU c0 c'/\Steps E.P (lone (cur.bQ t) (fq cls ts++cs) c.w) (lone fr cs c'.w)/\fr.fn=f0/\fr.leaving E.P c'.w (.returned v)
def EC(E:Env)(cur:cu)(cls:List cu)(h:List af)(cur':cu)(cls':List cu)(h':List af):Prop :=
 ∀ (c:Cx) (t:Array Value) (ts:List (Array Value)),cur.ok->c.heap=h->aD E.G c->VS c cur.jr t->CR c cls ts->∃ (c':Cx) (t':Array Value) (dX:List (Array Value)),
  cur'.ok/\c'.heap=h'/\aD E.G c'/\VS c' cur'.jr t'/\CR c' cls' dX/\Step c c'/\∀ cs,Steps E.P (lone (cur.bQ t) (fq cls ts++cs) c.w) (lone (cur'.bQ t') (fq cls' dX++cs) c'.w)
theorem AW.jS{E:Env}{f0:FuncId}{cur cur':cu}{cls cls':List cu}{h h':List af}{R:bZ}(hl:EC E cur cls h cur' cls' h')(H:AW E f0 cur' cls' h' R):AW E f0 cur cls h R:=by
 unfold AW at H ⊢;intro c0 c t ts h0 h1 h2 h3 hr cb h4 h5 cs;obtain⟨c',t',dX,k1,k2,k3,k4,k5,k6,k7⟩:=hl c t ts h1 h2 h3 h4 h5;obtain⟨c2,fr,r,v,e1,e2,e3,e4,e5,e6⟩:=H c0 c' t' dX h0 k1 k2 k3 (hr.step k6) (cb.step h3 k6) k4 k5 cs;exact⟨c2,fr,r,v,e1,e2,e3,e4,(k7 cs).trans e5,e6⟩
section
variable {E:Env} {f0:FuncId} {ae:iG} {k:List aK} {s:List AV} {cls:List cu} {h:List af} {R:bZ}
theorem EC.todo{td ED:List aK}(aN:(∀ i∈td,i.ok)->∀ i∈ED,i.ok)(hs:∀ (a:Act) (cs:List Frame) (w:World),step E.P (lone ((bf ae).atR a (td.map aK.bQ)) cs w)=.next (lone ((bf ae).atR a (ED.map aK.bQ)) cs w)) :
  EC E ⟨ae,td,s⟩ cls h ⟨ae,ED,s⟩ cls h:=fun c t ts h1 h2 h3 h4 h5 =>
 ⟨c,t,ts,aN h1,h2,h3,h4,h5,Step.refl c h3.bE,fun _ => .one (hs _ _ _)⟩
theorem dY{i:aK}(h:∀ j∈i::k,j.ok):∀ j∈k,j.ok:=fun j hj=>h j (List.mem_cons_of_mem _ hj)
theorem wx{c:Code}:(aK.code c).ok:=trivial
theorem Sg{n:Nat}:(aK.inBlock n).ok:=trivial
theorem JV{c:Code}:(aK.inLoop c).ok:=trivial
theorem gR{i:aK}(h:i.ok)(hk:∀ j∈k,j.ok):∀ j∈i::k,j.ok:=fun j hj=>by
 rcases List.mem_cons.1 hj with rfl|hj
 ·exact h
 ·exact hk j hj
theorem AW.skip(H:AW E f0 ⟨ae,k,s⟩ cls h R):AW E f0 ⟨ae,.code .skip::k,s⟩ cls h R := .jS (.todo dY fun _ _ _=>stepR_skip) H
theorem AW.inBlock{id:Nat}(H:AW E f0 ⟨ae,k,s⟩ cls h R):AW E f0 ⟨ae,.inBlock id::k,s⟩ cls h R := .jS (.todo dY fun _ _ _=>stepR_inBlock) H
theorem AW.seq{a b:Code}(H:AW E f0 ⟨ae,.code a :: .code b::k,s⟩ cls h R):AW E f0 ⟨ae,.code (.seq a b)::k,s⟩ cls h R := .jS (.todo (fun h=>gR wx (gR wx (dY h))) fun _ _ _=>stepR_seq) H
theorem AW.block{id:Nat}{b:Code}(H:AW E f0 ⟨ae,.code b :: .inBlock id::k,s⟩ cls h R):AW E f0 ⟨ae,.code (.block id b)::k,s⟩ cls h R := .jS (.todo (fun h=>gR wx (gR Sg (dY h))) fun _ _ _=>stepR_block) H
theorem AW.loop{b:Code}(H:AW E f0 ⟨ae,.code b :: .inLoop b::k,s⟩ cls h R):AW E f0 ⟨ae,.code (.loop b)::k,s⟩ cls h R := .jS (.todo (fun h=>gR wx (gR JV (dY h))) fun _ _ _=>stepR_loop) H
theorem AW.inLoop{b:Code}(H:AW E f0 ⟨ae,.code b :: .inLoop b::k,s⟩ cls h R):AW E f0 ⟨ae,.inLoop b::k,s⟩ cls h R := .jS (.todo (fun h=>gR wx (gR JV (dY h))) fun _ _ _=>stepR_inLoop) H
theorem AW.region{id:Nat}{ops:Array Oper}(H:AW E f0 ⟨ae,.bF ops ops.toList::k,s⟩ cls h R):AW E f0 ⟨ae,.code (.region id ops false)::k,s⟩ cls h R :=
 .jS (.todo (fun h=>gR (i := .bF ops ops.toList) ⟨0,by simp,by simp⟩ (dY h)) fun a cs w=>by
  rw[List.map_cons,List.map_cons];simp only[aK.bQ];rw[stepR_region]
  simp) H
theorem AW.Sh{ops:Array Oper}(H:AW E f0 ⟨ae,k,s⟩ cls h R):AW E f0 ⟨ae,.bF ops []::k,s⟩ cls h R :=
 .jS (.todo dY fun a cs w=>by
  rw[List.map_cons];simp only[aK.bQ,List.length_nil,Nat.sub_zero]
  rw[List.drop_of_length_le (by simp),stepR_region_end]) H
def pD(id:Nat):List aK->Option (List aK)
 | .inBlock i::r=>match Nat.beq i id with
  |true=>some r
  |false=>pD id r
 |_::r=>pD id r
 |[]=>none
theorem ug{id:Nat}:∀ {l r:List aK},pD id l=some r->exitTo id (l.map aK.bQ)=some (r.map aK.bQ)
 | .inBlock i::l,r,hl=>by
  simp only[pD]at hl;simp only[List.map_cons,aK.bQ,exitTo];split at hl
  ·rename_i q;cases hl;rw[if_pos (by simpa using Nat.eq_of_beq_eq_true q)]
  ·rename_i q
   rw[if_neg (by intro hh;have : i=id := by simpa using hh
                 rw[this, Nat.beq_refl]at q;cases q)]
   exact ug hl
 | .code c::l,r,hl=>ug (l:=l) hl
 | .inLoop c::l,r,hl=>ug (l:=l) hl
 | .qI c::l,r,hl=>ug (l:=l) hl
 | .ue::l,r,hl=>ug (l:=l) hl
 | .bF ops q::l,r,hl=>ug (l:=l) hl
theorem uh{id:Nat}:∀ {l r:List aK},pD id l=some r->(∀ i∈l,i.ok)->∀ i∈r,i.ok
 | .inBlock i::l,r,hl,hk=>by
  simp only[pD]at hl;split at hl
  ·cases hl;exact dY hk
  ·exact uh hl (dY hk)
 | .code c::l,r,hl,hk=>uh (l:=l) hl (dY hk)
 | .inLoop c::l,r,hl,hk=>uh (l:=l) hl (dY hk)
 | .qI c::l,r,hl,hk=>uh (l:=l) hl (dY hk)
 | .ue::l,r,hl,hk=>uh (l:=l) hl (dY hk)
 | .bF ops q::l,r,hl,hk=>uh (l:=l) hl (dY hk)
theorem AW.exit{id:Nat}{r:List aK}(hr:pD id k=some r)(H:AW E f0 ⟨ae,r,s⟩ cls h R):AW E f0 ⟨ae,.code (.exit id)::k,s⟩ cls h R :=
 .jS (.todo (fun h=>uh hr (dY h)) fun _ _ _=>stepR_exit (ug hr)) H
theorem AW.cond{x:Operand}{a b:Code}{t:Bool}(hx:bh E.G s x (.d (.bool t)))(H:AW E f0 ⟨ae,.code (if t then a else b)::k,s⟩ cls h R):AW E f0 ⟨ae,.code (.cond x a b)::k,s⟩ cls h R :=
 .jS (cur':=⟨ae,.code (if t then a else b)::k,s⟩) (cls':=cls) (h':=h) (fun c t' ts h1 h2 h3 h4 h5=>⟨c,t',ts,gR wx (dY h1),h2,h3,h4,h5,Step.refl c h3.bE,fun _ => .one (stepR_cond (tV (hx c ⟨t',marks ae.aL⟩ h3 h4)))⟩) H
theorem mS{ops:Array Oper}{o:Oper}{l:List Oper}(hk:(aK.bF ops (o::l)).ok):∃ i,ops[i]?=some o/\(aK.bF ops (o::l)).bQ=.inRegion ops (i::(List.range ops.size).drop (ops.size-l.length))/\(aK.bF ops l).ok:=by
 obtain⟨n,h1,h2⟩:=hk;have h3:(ops.toList.drop n).length=l.length+1:=by rw[<- h2];rfl
 have h4:ops.size-n=l.length+1:=by simpa using h3
 have hn:n<ops.size:=by omega
 refine⟨n,?_,?_,n+1,by omega,?_⟩
 ·have:=congrArg (·[0]?) h2;simp at this
  simpa using this.symm
 ·simp only[aK.bQ,List.length_cons]
  congr 1
  rw[show ops.size-(l.length+1)=n by omega,show ops.size-l.length=n+1 by omega];rw[List.drop_eq_getElem_cons (by simpa using hn)];simp
 ·have:=congrArg List.tail h2
  simpa using this
theorem By{P:Program}{o:Oper}{ρ : Operand->Value}{ro:Option Nat}{w w':World}{n:Next}(h:(execOp ρ o).run P w=.ok n w')(hn:∀ d,n ≠ .defer d):(o.semAt ro ρ).run P w=.ok n w':=by
 rw[Oper.semAt_eq]
 ·exact h
 ·intro c hc;simp only[execOp,hc,Sem.run_bind]at h;cases hr:(resolve ρ c o.type).run P w with
  |ok d w1 =>
   rw[hr]at h;simp only[Result.andThen_ok,Sem.run_pure]at h;cases h;exact hn d rfl
  |halt a b=>rw[hr]at h;cases h
theorem ui{P:Program}{b:Frame}{a:Act}{k:List Item}{cs:List Frame}{w w':World}{ops:Array Oper}{i:Nat}{rest:List Nat}{o:Oper}{v:Value}(ho:ops[i]?=some o)(hw:Region.wanted o (yielded ops a.tmps)=true)(hd:Ek P o a w v w') :
  step P (lone (b.atR a (.inRegion ops (i::rest)::k)) cs w)=.next (lone (b.atR (a.put o.dst v) (.inRegion ops rest::k)) cs w'):=by
 have hg:=stepGR_op (P:=P) (b:=b) (k:=k) (cs:=cs) (w:=w) (rest:=rest) ho hw;have fM:∀ v,(b.atR a (.inRegion ops (i::rest)::k)).finish v=b.atR (a.put o.dst v) (.inRegion ops rest::k):=by
  intro v;rw[Frame.finish_atR,ho];rfl
 rcases hd with hr|⟨hr,rfl⟩
 ·exact step_lone_go (by rw[hg,<- fM];simp[stepG.apply,By hr])
 ·exact step_lone_go (by rw[hg,<- fM];simp[stepG.apply,By hr])
def bL(s:List AV)(d:Option Nat)(v:AV):List AV:=match d with
 |some d=>s.set d v
 |none=>s
theorem df{α:Sort _}(s:List AV)(d:Option Nat)(v:AV)(k:List AV->α):bK s d v k=k (bL s d v):=by
 cases d with
 |none=>rfl
 |some d=>simp only[bK,gL,bL]
theorem VS.bL{c:Cx}{a:Act}(hs:VS c s a.tmps)(d:Option Nat){x:AV}{v:Value}(hv:VR c x v):VS c (bL s d x) (a.put d v).tmps:=by
 cases d with
 |none=>exact hs
 |some d=>exact hs.put d hv
theorem put_defers(a:Act)(d:Option Nat)(v:Value):(a.put d v)=⟨(a.put d v).tmps,a.defers⟩:=by cases d<;>rfl
def iH(ops:Array Oper)(o:Oper)(s:List AV)(b:Bool):Prop:=∀ (c:Cx) (t:Array Value),VS c s t->Region.wanted o (yielded ops t)=b
theorem eC{ops:Array Oper}{o:Oper}(h:o.guard=none):iH ops o s true:=fun _ _ _=>by simp[Region.wanted,h]
theorem Bz{ops:Array Oper}{o oj:Oper}{j d:Nat}{g b:Bool}(h:o.guard=some (j,g))(hj:ops.toList[j]?=some oj)(hd:oj.dst=some d)(hs:s[d]?=some (.d (.bool b))):iH ops o s (b==g):=fun c t hv=>by
 have ev:d<t.size:=by
  rw[<- hv.1];rcases Nat.lt_or_ge d s.length with h|h
  ·exact h
  ·rw[List.getElem?_eq_none h]at hs;cases hs
 have ht:t[d]?=some (.bool b):=by
  rw[Array.getElem?_eq_getElem ev,tV (hv.2 d _ _ hs (Array.getElem?_eq_getElem ev))]
 have dI:ops[j]?=some oj:=by simpa using hj
 simp only[Region.wanted,h,yielded,dI,hd,Option.bind_some,ht];cases b<;>cases g<;>rfl
theorem yM{ops:Array Oper}{o oj:Oper}{j d:Nat}{g:Bool}(h:o.guard=some (j,g))(hj:ops.toList[j]?=some oj)(hd:oj.dst=some d)(hs:s[d]?=some (.d .undef)):iH ops o s false:=fun c t hv=>by
 have ev:d<t.size:=by
  rw[<- hv.1];rcases Nat.lt_or_ge d s.length with h|h
  ·exact h
  ·rw[List.getElem?_eq_none h]at hs;cases hs
 have ht:t[d]?=some Go.undef:=by
  have:=hv.2 d _ _ hs (Array.getElem?_eq_getElem ev);rw[Array.getElem?_eq_getElem ev];generalize t[d]=u at this;cases this with
  |d _ _ hx=>cases hx;rfl
 have dI:ops[j]?=some oj:=by simpa using hj
 simp only[Region.wanted,h,yielded,dI,hd,Option.bind_some,ht];rfl
theorem AW.op{ops:Array Oper}{o:Oper}{l:List Oper}{v:AV}{h':List af}(hw:iH ops o s true)(ho:aQ E o.op s h v h')(H:AW E f0 ⟨ae,.bF ops l::k,bL s o.dst v⟩ cls h' R):AW E f0 ⟨ae,.bF ops (o::l)::k,s⟩ cls h R :=
 .jS (fun c t ts h1 h2 h3 h4 h5=>by
  obtain⟨i,hi,hc,aN⟩:=mS (h1 _ (List.mem_cons_self ..));obtain⟨c',u,k1,k2,k3,k4,k5⟩:=ho o c ⟨t,marks ae.aL⟩ rfl h2 h3 h4;refine⟨c',((⟨t,marks ae.aL⟩:Act).put o.dst u).tmps,ts,gR aN (dY h1),k2,k3,VS.bL (a:=⟨t,marks ae.aL⟩) (k5.vs h4) o.dst k4,k5.cr h5,k5,fun cs => .one ?_⟩;simp only[cu.bQ,List.map_cons,hc];rw[ui hi (hw c t h4) k1,put_defers]
  rfl) H
theorem AW.JW{ops:Array Oper}{o:Oper}{l:List Oper}(hw:iH ops o s false)(H:AW E f0 ⟨ae,.bF ops l::k,bL s o.dst (.d .undef)⟩ cls h R):AW E f0 ⟨ae,.bF ops (o::l)::k,s⟩ cls h R :=
 .jS (fun c t ts h1 h2 h3 h4 h5=>by
  obtain⟨i,hi,hc,aN⟩:=mS (h1 _ (List.mem_cons_self ..));refine⟨c,((⟨t,marks ae.aL⟩:Act).put o.dst Go.undef).tmps,ts,gR aN (dY h1),h2,h3,VS.bL (a:=⟨t,marks ae.aL⟩) h4 o.dst (.d _ _ .undef),h5,Step.refl c h3.bE,fun cs => .one ?_⟩;simp only[cu.bQ,List.map_cons,hc];rw[stepR_op_skip (by simp[hi];exact hw c t h4)];simp only[hi,Option.bind_some];rw[put_defers]
  rfl) H
end
end Go.aA
end
section
namespace Go.aA
open Go Go.RowKit
def jT(bad:Nat->Prop)(w:World)(l:List DV)(vs:List Value):Prop:=l.length=vs.length/\∀ (j:Nat) (x:DV) (v:Value),l[j]?=some x->vs[j]?=some v->VD bad w x v
def uj(G:List (Nat × DV))(ak:Nat->Prop)(w:World):Prop:=∀ g e,(g,e)∈G->VR ⟨fun _=>none,[],ak,w⟩ (.b9 e 0) (.pointer (some ⟨g,0,none⟩))
def qM (P : Program) (f : FuncId) : Prop := ∃ fn, P.funcs[f]? = some fn /\ fn.body.isNone = false /\ (fn.name == "runtime.NumGoroutine") = false
@[irreducible] def au (E : Env) (f : FuncId) (args : List DV) (R : DV -> Prop) : Prop :=
 qM E.P f/\∀ (ak:Nat->Prop) (w:World) (vs:List Value),(∀ b,ak b->b<w.heap.size)->uj E.G ak w->jT ak w args vs ->
  Calls E.P f vs.toArray w fun e w'=>∃ v r,e=.returned v/\R r/\VD ak w' r v/\Proofs.YtcmnpelmmekdkaaGreatDoor.Ext w w'
theorem wy{ak:Nat->Prop}{w:World}{h:List af}{b:Nat}:(⟨fun _=>none,h,ak,w⟩:Cx).bad b↔ak b :=
 ⟨fun hb=>hb.elim id (fun⟨_,_,h⟩=>(by cases h)),.inl⟩
theorem wz{ak:Nat->Prop}{w:World}{h:List af}{x:DV}{v:Value}(hv:VD ak w x v):VD (⟨fun _=>none,h,ak,w⟩:Cx).bad w x v :=
 hv.mono fun _ _ hn=>⟨fun hb=>hn (wy.1 hb),rfl⟩
theorem au.mono{E:Env}{f:FuncId}{args:List DV}{R R':DV->Prop}(H:au E f args R)(hr:∀ r,R r->R' r):au E f args R':=by
 unfold au at H ⊢;exact⟨H.1,fun ak w vs h1 h2 h3=>(H.2 ak w vs h1 h2 h3).mono fun e w' ⟨v,r,k1,k2,k3,k4⟩=>⟨v,r,k1,hr r k2,k3,k4⟩⟩
def nE(args:List AV)(n:Nat):List AV:=args++List.replicate (n-args.length) (.d .undef)
theorem EE{c:Cx}{args:List AV}{vs:List Value}(n:Nat)(hv:VL c args vs):VS c (nE args n) (vs.toArray++Array.replicate (n-vs.toArray.size) undef):=by
 have hl:=hv.1;refine⟨by simp[nE,hl],fun i x v hx hu=>?_⟩;simp only[nE]at hx;rcases Nat.lt_or_ge i args.length with hi|hi
 ·rw[List.getElem?_append_left hi]at hx;rw[Array.getElem?_append_left (by simp;omega)]at hu;exact hv.2 i x v hx (by simpa using hu)
 ·rw[List.getElem?_append_right hi,List.getElem?_replicate]at hx;rw[Array.getElem?_append_right (by simp;omega)]at hu;split at hx
  ·cases hx;simp[Array.getElem?_replicate]at hu;obtain⟨-,rfl⟩:=hu;exact .d _ _ .undef
  ·cases hx
section
variable {E:Env} {f0:FuncId} {ae:iG} {k:List aK} {s:List AV} {cls:List cu} {h:List af} {R:bZ}
theorem Rel.ext{c0 c:Cx}(h:Rel c0 c)(hn:∀ i,c0.own i=none):Proofs.YtcmnpelmmekdkaaGreatDoor.Ext c0.w c.w:=⟨h.os,h.tape,h.output,h.size,fun b hb=>h.keep b hb (fun i n hi=>by rw[hn i]at hi;cases hi)⟩
@[irreducible] def aB (E : Env) (f : FuncId) (h : List af) (args : List AV) (Q : AV -> List af -> Prop) : Prop :=
 qM E.P f/\yK h/\∀ (c:Cx) (vs:List Value),c.heap=h->aD E.G c->VL c args vs ->
  Calls E.P f vs.toArray c.w fun e w'=>∃ (c':Cx) (r:AV) (v:Value),e=.returned v/\c'.w=w'/\Q r c'.heap/\VR c' r v/\aD E.G c'/\Rel c c'
theorem aB.mono{E:Env}{f:FuncId}{h:List af}{args:List AV}{Q Q':AV->List af->Prop}(H:aB E f h args Q)(hq:∀ r h,Q r h->Q' r h):aB E f h args Q':=by
 unfold aB at H ⊢;exact⟨H.1,H.2.1,fun c vs h1 h2 h3=>(H.2.2 c vs h1 h2 h3).mono fun e w' ⟨c',r,v,k1,k2,k3,k4⟩=>⟨c',r,v,k1,k2,hq _ _ k3,k4⟩⟩
theorem aB.JX {f : FuncId} {fn : Func} {body : Code} {args : List AV} {Q : AV -> List af -> Prop} (hf : E.P.funcs[f]? = some fn) (hb : fn.body = some body) (hn : (fn.name == "runtime.NumGoroutine") = false) (nF : yK h)
  (H:AW E f ⟨⟨f,none,[]⟩,[.code body],nE args fn.ntmps⟩ [] h ⟨h.length,Q,[],⟨f,none,[],[],[],[]⟩⟩):aB E f h args Q:=by
 unfold AW at H;unfold aB;refine⟨⟨fn,hf,by rw[hb];rfl,hn⟩,nF,fun c vs h1 h2 h3=>?_⟩;intro cs;obtain⟨c',fr,r,v,e1,e2,e3,e4,e5,e6,e7⟩:=H c c _ [] (by rw[h1]) (fun i hi=>by simp at hi;subst hi;trivial) h1 h2 ((Rel.refl c (by rw[h1];exact nF)).x h2.bE h2.bH) .nil (EE fn.ntmps h3) trivial cs;refine⟨.returned v,c'.w,fr,⟨c'.oB c.ak,r,v,rfl,rfl,e1,EA e4.ak e2,e3.oB e4.ak,e4.clean⟩,?_,e6,e7⟩;have Si:Frame.enter E.P f vs.toArray .normal=(⟨⟨f,none,[]⟩,[.code body],nE args fn.ntmps⟩:cu).bQ (vs.toArray++Array.replicate (fn.ntmps-vs.toArray.size) undef):=by
  simp[Frame.enter,cu.bQ,Frame.atR,hf,hb,bf,aK.bQ,marks]
 show Steps E.P _ _;rw[Si];exact e5
theorem yN{P:Program}{o:Oper}{a:Act}{w:World}{fx:Operand}{args:Array Operand}{ts:Array TypeId}{f:FuncId}{v1 v2:Array Value}(h1:o.op=.call { callee := .value fx,args:=args,argTypes:=ts })(hf:a.eval fx=.func (.func f) v1 v2)(hb:qM P f) :
  (execOp a.eval o).run P w=.ok (.enter f (v1++args.map a.eval++v2)) w:=by
 obtain⟨fn,g1,g2,g3⟩:=hb;simp only[execOp,h1,resolve,hf,Deferred.ofValue,invoke,callFunc,Sem.run_bind,Sem.run_pure,Result.andThen_ok,program,Sem.run,g1,g3,g2,Bool.false_eq_true,if_false]
theorem EF{P:Program}{b:Frame}{a:Act}{k:List Item}{cs:List Frame}{w:World}{ops:Array Oper}{i:Nat}{rest:List Nat}{o:Oper}{f:FuncId}{args:Array Value}(ho:ops[i]?=some o)(hw:Region.wanted o (yielded ops a.tmps)=true)
  (hr:(execOp a.eval o).run P w=.ok (.enter f args) w) :
  step P (lone (b.atR a (.inRegion ops (i::rest)::k)) cs w)=.next (lone (Frame.enter P f args .normal) (b.atR a (.inRegion ops (i::rest)::k)::cs) w):=by
 have hg:=stepGR_op (P:=P) (b:=b) (k:=k) (cs:=cs) (w:=w) (rest:=rest) ho hw;have uk:=By (ro:=b.roundOf) hr (by simp);exact step_lone_go (by rw[hg];simp[stepG.apply,uk,Frame.atR])
theorem l8{c:Cx}{f:Fn}{a1 a2:List AV}{v:Value}(hv:VR c (.fn f a1 a2) v):∃ v1 v2:List Value,v=.func f v1.toArray v2.toArray/\VL c a1 v1/\VL c a2 v2:=by
 cases hv with
 |fn _ _ _ v1 v2 h1 h2 h3 h4=>exact⟨v1.toList,v2.toList,by simp,⟨by simpa using h1,fun j x v hx hu=>h3 j x v hx (by simpa using hu)⟩,⟨by simpa using h2,fun j x v hx hu=>h4 j x v hx (by simpa using hu)⟩⟩
theorem VL.append{c:Cx}{a1 a2:List AV}{v1 v2:List Value}(h1:VL c a1 v1)(h2:VL c a2 v2):VL c (a1++a2) (v1++v2):=by
 refine⟨by simp[h1.1,h2.1],fun j x v hx hv=>?_⟩;rcases Nat.lt_or_ge j a1.length with hj|hj
 ·rw[List.getElem?_append_left hj]at hx;rw[List.getElem?_append_left (by rw[<- h1.1];exact hj)]at hv;exact h1.2 j x v hx hv
 ·rw[List.getElem?_append_right hj]at hx;rw[List.getElem?_append_right (by rw[<- h1.1];exact hj),<- h1.1]at hv;exact h2.2 _ x v hx hv
theorem AW.call{ops:Array Oper}{o:Oper}{l:List Oper}{fx:Operand}{args:Array Operand}{ts:Array TypeId}{f:FuncId}{a1 a2 av:List AV}{ds:List DV}{R1:DV->Prop}(hw:iH ops o s true)(ho:o.op=.call { callee := .value fx,args:=args,argTypes:=ts })
  (hf:bh E.G s fx (.fn (.func f) a1 a2)) (ha:iy E.G s args.toList av) (hd:a1++av++a2=ds.map .d) (hc:au E f ds R1)
  (H:∀ r,R1 r->AW E f0 ⟨ae,.bF ops l::k,bL s o.dst (.d r)⟩ cls h R):AW E f0 ⟨ae,.bF ops (o::l)::k,s⟩ cls h R:=by
 unfold AW at H ⊢;unfold au at hc;intro c0 c t ts h0 h1 h2 h3 hr cb h4 h5 cs;obtain⟨i,hi,dS,aN⟩:=mS (h1 _ (List.mem_cons_self ..));obtain⟨v1,v2,e1,e2,e3⟩:=l8 (hf c ⟨t,marks ae.aL⟩ h3 h4);have e4:=ha c ⟨t,marks ae.aL⟩ h3 h4;have e5:=(e2.append e4).append e3;rw[hd]at e5;have eN:∀ b,c.bad b->b<c.w.heap.size:=fun b hb=>hb.elim (h3.bE b) fun⟨j,n,hj⟩=>(h3.bH j b n hj).1;have yO:uj E.G c.bad c.w:=fun g e hg=>by
  have hp:∀ p,VR c (.b9 e 0) p->VR ⟨fun _=>none,[],c.bad,c.w⟩ (.b9 e 0) p:=fun p hp=>by
   cases hp with
   |b9 _ _ blk o' fv k1 k2 k3 k4=>exact .b9 _ _ blk o' fv (fun hb=>k1 (wy.1 hb)) k2 k3 (fun j x hx=>wz (k4 j x hx))
  exact hp _ (h3.fB g e hg)
 obtain⟨e,w',fr,⟨v,r,rfl,hR,hv,hx⟩,EG,yP,EH⟩:=hc.2 c.bad c.w _ eN yO ⟨by simpa using e5.1,e5.pA⟩ ((bf ae).atR ⟨t,marks ae.aL⟩ (.inRegion ops (i::(List.range ops.size).drop (ops.size-l.length))::k.map aK.bQ)::(fq cls ts++cs));obtain⟨k1,k2⟩:=h3.grow hx;have um:VS (c.dG w') (bL s o.dst (.d r)) ((⟨t,marks ae.aL⟩:Act).put o.dst v).tmps:=VS.bL (a:=⟨t,marks ae.aL⟩) (k2.vs h4) o.dst (.d _ _ hv);obtain⟨c2,uo,r2,u2,q1,q2,q3,uq,q4,q5,q6⟩:=H r hR c0 (c.dG w') _ ts h0 (gR aN (dY h1)) h2 k1 (hr.step k2) (cb.step h3 k2) um (k2.cr h5) cs;refine⟨c2,uo,r2,u2,q1,q2,q3,uq,?_,q5,q6⟩;have cV:=yN (P:=E.P) (w:=c.w) (a:=⟨t,marks ae.aL⟩) ho e1 hc.1;have jU:(v1.toArray++args.map (⟨t,marks ae.aL⟩:Act).eval++v2.toArray)=(v1++args.toList.map (⟨t,marks ae.aL⟩:Act).eval++v2).toArray:=by
  apply Array.ext';simp
 rw[jU]at cV;have s1:=EF (P:=E.P) (b:=bf ae) (k:=k.map aK.bQ) (cs:=fq cls ts++cs) (rest:=(List.range ops.size).drop (ops.size-l.length)) hi (hw c t h4) cV;have s2:=step_leave_returned (c:=(bf ae).atR ⟨t,marks ae.aL⟩ (.inRegion ops (i::(List.range ops.size).drop (ops.size-l.length))::k.map aK.bQ)) (cs:=fq cls ts++cs) EH;rw[Frame.finish_atR,hi]at s2;have EI:(⟨ae,.bF ops (o::l)::k,s⟩:cu).bQ t=(bf ae).atR ⟨t,marks ae.aL⟩ (.inRegion ops (i::(List.range ops.size).drop (ops.size-l.length))::k.map aK.bQ):=by
  simp only[cu.bQ,List.map_cons,dS]
 rw[EI];refine .head s1 (Steps.trans EG (.head s2 ?_));have bc:(bf ae).atR ((⟨t,marks ae.aL⟩:Act).put ((some o).bind (·.dst)) v) (.inRegion ops ((List.range ops.size).drop (ops.size-l.length))::k.map aK.bQ)=(⟨ae,.bF ops l::k,bL s o.dst (.d r)⟩:cu).bQ ((⟨t,marks ae.aL⟩:Act).put o.dst v).tmps:=by
  simp only[cu.bQ,List.map_cons,aK.bQ,Option.bind_some];rw[put_defers]
 rw[bc];exact q4
end
end Go.aA
end
section
namespace Go.aA
open Go Go.RowKit
section
variable {E:Env} {f0 ae:FuncId} {k:List aK} {s:List AV} {cls:List cu} {h:List af} {R:bZ}
def wA(G:List (Nat × DV))(h:List af)(x:AV)(r:DV):Prop:=∀ (c:Cx) (v:Value),aD G c->c.heap=h->VR c x v->VD c.ak c.w r v
theorem JY{c:Cx}{x:DV}{v:Value}(hv:VD c.bad c.w x v):VD c.ak c.w x v:=hv.mono fun _ _ hn=>⟨fun hb=>hn (.inl hb),rfl⟩
theorem Sj{G:List (Nat × DV)}(x:DV):wA G h (.d x) x:=fun c v _ _ hv=>by cases hv with|d _ _ hv=>exact JY hv
theorem Sk{G:List (Nat × DV)}{b g:Nat}{ts:Nat × Nat}{l:List DV}(hb:h[b]?=some (.arr g ts l)):wA G h (.own b g) (.sl l):=fun c v ho hh hv=>by
 subst hh;obtain⟨q0,q1,q2⟩:=ho.box b _ hb;cases hv with
 |own _ _ _ l' blk cap k1 k2 =>
  rw[hb]at k1;cases k1;rcases q2 with⟨q2,-⟩|⟨la,jN,vs,q2,q3,q4,q5,q6,q7⟩
  ·rw[k2]at q2;cases q2
  ·rw[k2]at q2;cases q2;have cb:=mM q3;refine .sl l blk 0 cap ts.2 (fun i j=>vs.toList.getD (i*ts.2+j) undef) (fun _=>ho.sep b blk cap k2) q0 q5 q1 (fun i j e x he hx=>?_) (fun i j e x he hx=>?_) (fun i j e x he hx=>?_)
   ·obtain⟨v,g1,-,g2⟩:=q7 i j e x he hx;rw[cb (i*ts.2+j) v (by simpa using g1)];simp[List.getD,g1]
   ·obtain⟨v,g1,-,g2⟩:=q7 i j e x he hx;simp only[List.getD,Array.getElem?_toList,g1,Option.getD_some];exact JY g2
   ·obtain⟨v,g1,g2,-⟩:=q7 i j e x he hx;simp only[List.getD,Array.getElem?_toList,g1,Option.getD_some];exact g2
 |iW _ _ _ k1 k2=>rw[hb]at k1;cases k1;exact .slnil
 |kx _ _ g' _ _ _ k1 k2 _=>rw[hb]at k1;cases k1;omega
 |jM _ _ _ k1 _=>rw[hb]at k1;cases k1
 |mI _ _ _ _ _ _ k1 _ _=>rw[hb]at k1;cases k1
def BA{α:Sort _}(h:List af)(x:AV)(stop:α)(k:DV->α):α :=
 match x with
 | .d x=>k x
 | .own b g=>aZ h b stop fun
  | .arr g' _ l=>match Nat.beq g g' with
   |true=>k (.sl l)
   |false=>stop
  |_=>stop
 |_=>stop
theorem J1{G:List (Nat × DV)}{x:AV}{stop:Prop}{k:DV->Prop}(H:BA h x stop k):stop\/∃ r,wA G h x r/\k r:=by
 unfold BA at H;split at H
 ·exact .inr ⟨_,Sj _,H⟩
 ·rcases bl H with h|⟨bx,hb,H⟩
  ·exact .inl h
  split at H
  ·split at H
   ·rename_i q;have:=Nat.eq_of_beq_eq_true q;subst this;exact .inr ⟨_,Sk hb,H⟩
   ·exact .inl H
  ·exact .inl H
 ·exact .inl H
def yQ{α:Sort _}(d:AV->α->(DV->α)->α):List AV->(stop:α)->(List DV->α)->α
 |[],_,k=>k []
 |x::l,stop,k=>d x stop fun r=>yQ d l stop fun l'=>k (r::l')
def Sl(G:List (Nat × DV))(h:List af)(l:List AV)(r:List DV):Prop:=∀ (c:Cx) (vs:List Value),aD G c->c.heap=h->VL c l vs->jT c.ak c.w r vs
theorem EJ{G:List (Nat × DV)}{d:AV->Prop->(DV->Prop)->Prop}(hd:∀ {x:AV} {stop:Prop} {k:DV->Prop},d x stop k->stop\/∃ r,wA G h x r/\k r){stop:Prop}:∀ {l:List AV} {k:List DV->Prop},yQ d l stop k->stop\/∃ r,Sl G h l r/\k r
 |[],k,H => .inr ⟨[],fun c vs _ _ hv=>⟨by simpa using hv.1,fun j x v hx=>by simp at hx⟩,H⟩
 |x::l,k,H=>by
  simp only[yQ]at H;rcases hd H with h|⟨r,hr,H⟩
  ·exact .inl h
  rcases EJ hd H with h|⟨rs,J2,H⟩
  ·exact .inl h
  refine .inr ⟨r::rs,fun c vs h1 h2 hv=>?_,H⟩;cases vs with
  |nil=>have:=hv.1;simp at this
  |cons v vs =>
   obtain⟨g1,g2⟩:=hv.head;have g3:=J2 c vs h1 h2 g2;refine⟨by simp[g3.1],fun j y u hy hu=>?_⟩;cases j with
   |zero=>simp at hy hu;subst hy;subst hu;exact hr c v h1 h2 g1
   |succ j=>exact g3.2 j y u (by simpa using hy) (by simpa using hu)
def BB{α:Sort _}(h:List af)(x:AV)(stop:α)(k:DV->α):α :=
 match x with
 | .agg l=>yQ (BA h) l stop fun r=>k (.agg r)
 |x=>BA h x stop k
theorem J3{G:List (Nat × DV)}{x:AV}{stop:Prop}{k:DV->Prop}(H:BB h x stop k):stop\/∃ r,wA G h x r/\k r:=by
 unfold BB at H;split at H
 ·rcases EJ (G:=G) (h:=h) J1 H with h|⟨r,hr,H⟩
  ·exact .inl h
  refine .inr ⟨_,fun c v h1 h2 hv=>?_,H⟩;obtain⟨vs,rfl,fC⟩:=sj hv;have:=hr c vs h1 h2 fC;exact .agg _ _ (by simpa using this.1) fun j x v hx hu=>this.2 j x v hx (by simpa using hu)
 ·exact J1 H
def wB{α:Sort _}(T:List bD)(s:List AV)(h:List af):List ResultVar->(stop:α)->(List AV->α)->α
 |[],_,k=>k []
 | .tmp t::l,stop,k=>aZ s t stop fun v=>wB T s h l stop fun l'=>k (v::l')
 | .cell a t::l,stop,k=>aZ T t stop fun i=>aZ s a stop fun
  | .ptr b off=>aZ h b stop fun
   | .cells c=>k8 i c off stop fun v=>wB T s h l stop fun l'=>k (v::l')
   |_=>stop
  |_=>stop
def ur(t:Array Value):ResultVar->Sem Value
 | .tmp t'=>pure (t.getD t' undef)
 | .cell a t'=>do loadVar t' (<- asAddr (t.getD a undef))
theorem BC(hE:E.OK){stop:Prop}:∀ {l:List ResultVar} {k:List AV->Prop},wB E.T s h l stop k->stop\/∃ r,k r/\∀ (c:Cx) (t:Array Value),c.heap=h->aD E.G c->VS c s t->∃ vs:List Value,VL c r vs/\(l.mapM (ur t)).run E.P c.w=.ok vs c.w
 |[],k,H => .inr ⟨[],H,fun c t _ _ hs=>⟨[],.nil,by simp⟩⟩
 | .tmp n::l,k,H=>by
  simp only[wB]at H;rcases bl H with h|⟨x,hx,H⟩
  ·exact .inl h
  rcases BC hE H with h|⟨r,hk,hr⟩
  ·exact .inl h
  refine .inr ⟨x::r,hk,fun c t hc ho hs=>?_⟩;obtain⟨vs,h1,h2⟩:=hr c t hc ho hs;have hl:n<t.size:=by
   rw[<- hs.1];rcases Nat.lt_or_ge n s.length with h|h
   ·exact h
   ·rw[List.getElem?_eq_none h]at hx;cases hx
  refine⟨t[n]::vs,.cons (hs.2 n x _ hx (by simp[hl])) h1,?_⟩;rw[List.mapM_cons];simp only[ur,Sem.run_bind,Sem.run_pure,Result.andThen_ok,h2];simp[hl]
 | .cell a ty::l,k,H=>by
  simp only[wB]at H;rcases bl H with h|⟨i,hi,H⟩
  ·exact .inl h
  rcases bl H with h|⟨x,hx,H⟩
  ·exact .inl h
  split at H
  ·rename_i b off;rcases bl H with h1|⟨bx,hb,H⟩
   ·exact .inl h1
   split at H
   ·rename_i cs;rcases Bt H with h1|⟨v,H,hp⟩
    ·exact .inl h1
    rcases BC hE H with h|⟨r,hk,hr⟩
    ·exact .inl h
    refine .inr ⟨v::r,hk,fun c t hc ho hs=>?_⟩;obtain⟨vs,h1,h2⟩:=hr c t hc ho hs;subst hc;have hl:a<t.size:=by
     rw[<- hs.1];rcases Nat.lt_or_ge a s.length with h|h
     ·exact h
     ·rw[List.getElem?_eq_none h]at hx;cases hx
    obtain⟨blk,cap,us,ty',g1,g2,g3⟩:=ho.cells hb;obtain⟨u,hu,qE⟩:=hp E.P ty c blk 0 us.toList (hE.types ty i hi) g3 (mM g2);have sk:=hs.2 a _ t[a] hx (by simp[hl]);have Sm:t[a]=.pointer (some ⟨blk,0+off,none⟩):=by
     generalize t[a]=p at sk;cases sk with
     |ptr _ _ cs' la jN cT cU=>rw[g1]at cU;cases cU;rw[Nat.zero_add]
     |jn _ _ _ cT _=>rw[hb]at cT;cases cT
    have qN:(loadVar ty ⟨blk,0+off,none⟩).run E.P c.w=.ok u c.w:=hu;refine⟨u::vs,.cons qE h1,?_⟩;rw[List.mapM_cons];have hg:t.getD a undef=.pointer (some ⟨blk,0+off,none⟩):=by simp[hl,Sm]
    simp only[ur,hg,asAddr,Sem.run_bind,Sem.run_pure,Result.andThen_ok,qN,h2]
   ·exact .inl H
  ·exact .inl H
def packed:List Value->Value
 |[v]=>v
 |vs => .tuple vs.toArray
theorem EK{P:Program}{fn:Func}{t:Array Value}{w:World}{vs:List Value}(h:(fn.results.toList.mapM (ur t)).run P w=.ok vs w) :
  (results fn t).run P w=.ok (packed vs) w:=by
 have e1:results fn t=(do let vs <- fn.results.mapM (ur t);pure (if h:vs.size=1 then vs[0]else .tuple vs)):=by
  rfl
 have e2:(fn.results.mapM (ur t):Sem (Array Value))=List.toArray <$> (fn.results.toList.mapM (ur t)):=by
  rw[Array.mapM_eq_mapM_toList]
 simp only[e1,e2,Sem.run_bind,map_eq_pure_bind,h,Result.andThen_ok,Sem.run_pure];cases vs with
 |nil=>rfl
 |cons v vs=>cases vs with
  |nil=>rfl
  |cons u vs=>simp[packed]
def nG{α:Sort _}(T:List bD)(s:List AV)(h:List af)(rs:List ResultVar)(stop:α)(k:AV->List af->α):α :=
 wB T s h rs stop fun
  |[x]=>k x h
  |l=>k (.aJ l) h
theorem AW.J4(hE:E.OK){td:List aK}(oD:∀ (a:Act) (cs:List Frame) (w:World),step E.P (lone ((bf ⟨ae,none,[]⟩).atR a (td.map aK.bQ)) cs w)=.next (lone { (bf ⟨ae,none,[]⟩).atR a (td.map aK.bQ)with mode := .returning } cs w))
  {fn:Func} (hf:E.P.funcs[ae]?=some fn) (H:nG E.T s h fn.results.toList False R.Q):AW E ae ⟨⟨ae,none,[]⟩,td,s⟩ [] h R:=by
 unfold AW;intro c0 c t ts h0 h1 h2 h3 hr cb h4 h5 cs;unfold nG at H;rcases BC hE H with h'|⟨l,H,hl⟩
 ·cases h'
 obtain⟨vs,g1,g2⟩:=hl c t h2 h3 h4;have fin:∀ r v,packed vs=v->R.Q r h->VR c r v->∃ (c':Cx) (fr:Frame) (r:AV) (v:Value),
   R.Q r c'.heap/\VR c' r v/\aD E.G c'/\eU c0 c'/\Steps E.P (lone ((⟨⟨ae,none,[]⟩,td,s⟩:cu).bQ t) (fq [] ts++cs) c.w) (lone fr cs c'.w)/\fr.fn=ae/\fr.leaving E.P c'.w (.returned v):=fun r v e1 e2 e3=>by
  refine⟨c,_,r,v,by rw[h2];exact e2,e3,h3,hr,.one (oD ⟨t,[]⟩ cs c.w),rfl,rfl,rfl,rfl,fn,hf,?_⟩;rw[<- e1];exact EK g2
 split at H
 ·rename_i x;cases vs with
  |nil=>have:=g1.1;simp at this
  |cons v vs=>cases vs with
   |cons u vs=>have:=g1.1;simp at this
   |nil=>exact fin x v rfl H g1.head.1
 ·rename_i aH;refine fin (.aJ l) (.tuple vs.toArray) ?_ H (.aJ _ _ (by simpa using g1.1) fun j x v hx hu=>g1.2 j x v hx (by simpa using hu));cases vs with
  |nil=>rfl
  |cons v vs=>cases vs with
   |nil =>
    have:=g1.1;cases l with
    |nil=>simp at this
    |cons x l=>cases l with
     |nil=>exact absurd rfl (aH x)
     |cons y l=>simp at this
   |cons u vs=>rfl
def yR(R:DV->Prop)(x:AV)(h:List af):Prop :=
 match x with
 | .aJ l=>yQ (BB h) l False fun r=>R (.aJ r)
 |x=>BB h x False R
theorem Sn{G:List (Nat × DV)}{R:DV->Prop}{x:AV}(H:yR R x h):∃ r,wA G h x r/\R r:=by
 unfold yR at H;split at H
 ·rcases EJ (G:=G) (h:=h) J3 H with h'|⟨r,hr,H⟩
  ·cases h'
  refine⟨_,fun c v h1 h2 hv=>?_,H⟩;cases hv with
  |aJ _ vs hl bW =>
   have:=hr c vs.toList h1 h2 ⟨by simpa using hl,fun j x v hx hv=>bW j x v hx (by simpa using hv)⟩;exact .aJ _ _ (by simpa using this.1) fun j x v hx hu=>this.2 j x v hx (by simpa using hu)
 ·rcases J3 (G:=G) H with h'|h'
  ·cases h'
  ·exact h'
theorem au.Sq{f:FuncId}{args:List DV}{R:DV->Prop}(H:aB E f [] (args.map .d) (yR R)):au E f args R:=by
 unfold aB at H;unfold au;refine⟨H.1,fun ak w vs h1 h2 h3=>?_⟩
 let c:Cx:=⟨fun _=>none,[],ak,w⟩
 have hv:VL c (args.map .d) vs := .tW h3.1 fun j x v hx hu=>wz (h3.2 j x v hx hu);have ho:aD E.G c:=⟨h1,fun i b n hi=>(by cases hi),fun i j b n m hi=>(by cases hi),fun i b n hi=>(by cases hi),fun i bx hi=>(by simp[c]at hi),h2⟩;refine(H.2.2 c vs rfl ho hv).mono fun e w' ⟨c',r,v,k1,k2,k3,k4,k5,k6⟩=>?_;obtain⟨d,hd,hR⟩:=Sn (G:=E.G) k3;subst k2;have:=hd c' v k5 rfl k4;rw[k6.ak]at this;exact⟨v,d,k1,hR,this,k6.ext fun _=>rfl⟩
theorem AW.ret(hE:E.OK){fn:Func}(hf:E.P.funcs[ae]?=some fn)(H:nG E.T s h fn.results.toList False R.Q):AW E ae ⟨⟨ae,none,[]⟩,.code .ret::k,s⟩ [] h R := .J4 hE (fun _ _ _=>stepR_ret rfl) hf H
theorem AW.Sr(hE:E.OK){fn:Func}(hf:E.P.funcs[ae]?=some fn)(H:nG E.T s h fn.results.toList False R.Q):AW E ae ⟨⟨ae,none,[]⟩,[],s⟩ [] h R := .J4 hE (fun _ _ _=>stepR_end rfl) hf H
end
end Go.aA
end
section
namespace Go.aA
open Go Go.RowKit
@[irreducible] def need (C K : Prop) : Prop := C /\ K
theorem bA{C K:Prop}(h:C)(k:K):need C K:=by unfold need;exact⟨h,k⟩
theorem nH{C K:Prop}(h:need C K):C/\K:=by unfold need at h;exact h
def nI(b:UInt8):DV := .int .u8 b.toNat
def two{β:Type}(l:List β)(stop:Prop)(k:β->β->Prop):Prop :=
 match l with
 |[a,b]=>k a b
 |_=>stop
theorem J5{β:Type}{l:List β}{stop:Prop}{k:β->β->Prop}(H:two l stop k):stop\/∃ a b,l=[a,b]/\k a b:=by
 unfold two at H;split at H
 ·exact .inr ⟨_,_,rfl,H⟩
 ·exact .inl H
def BD(e:Nat)(ei:bD)(h:List af)(a:AV)(m:List DV)(stop:Prop)(k:AV->List af->Prop):Prop :=
 match a with
 | .d .a7=>need (m.length<=2147483648/\∀ e∈m,e.cells.length=ei.size) (lY h (.arr 1 (e,ei.size) m) 0 fun h' n=>k (.own n 1) h')
 | .own b g=>aZ h b stop fun
  | .arr g' ts l=>match Nat.beq g g',Nat.beq ts.1 e,Nat.beq ts.2 ei.size with
   |true,true,true=>need (l.length+m.length<=2147483648/\∀ e∈m,e.cells.length=ei.size) (fL h b (.arr (g+1) ts (l++m)) fun h'=>k (.own b (g+1)) h')
   |_,_,_=>stop
  |_=>stop
 |_=>stop
def nJ(T:List bD)(G:List (Nat × DV))(o:Op)(s:List AV)(h:List af)(stop:Prop)(k:AV->List af->Prop):Prop :=
 match o with
 | .call { callee := .builtin .append,args:=args,argTypes:=ts }=>two args.toList stop fun x y=>two ts.toList stop fun t0 t1=>aZ T t0 stop fun i0=>aZ T t1 stop fun i1 =>
  match i0.k with
  | .slice e=>aZ T e stop fun ei=>match Nat.beq ei.zero.length ei.size,Nat.blt 0 ei.size,Nat.ble ei.bytes 65536 with
   |true,true,true=>cL G s x stop fun a=>cL G s y stop fun b =>
    match i1.k,b with
    | .slice _,.d (.sl m)=>BD e ei h a m stop k
    | .string,.d (.str z)=>match ei.k with
     | .int .u8=>BD e ei h a (z.map nI) stop k
     |_=>stop
    |_,_=>stop
   |_,_,_=>stop
  |_=>stop
 | .makeSlice t n c=>aZ T t stop fun i=>match i.k with
  | .slice e=>aZ T e stop fun ei=>match Nat.beq ei.zero.length ei.size,Nat.blt 0 ei.size,Nat.ble ei.bytes 65536,ei.zero.all DV.fm with
   |true,true,true,true=>cL G s n stop fun
    | .d (.int _ a)=>cL G s c stop fun
     | .d (.int _ b) =>
      match ei.zero with
      |[z]=>need (0<=a/\a<=b/\b<=2147483648) (lY h (.arr 0 (e,ei.size) (List.replicate a.toNat z)) 0 fun h' n=>k (.own n 0) h')
      |zl=>need (0<=a/\a<=b/\b<=2147483648) (lY h (.arr 0 (e,ei.size) (List.replicate a.toNat (.agg zl))) 0 fun h' n=>k (.own n 0) h')
     |_=>stop
    |_=>stop
   |_,_,_,_=>stop
  |_=>stop
 |_=>stop
theorem aX{β:Type}{l:List β}{n:Nat}{e:β}(h:l[n]?=some e):n<l.length:=by
 rcases Nat.lt_or_ge n l.length with h'|h'
 ·exact h'
 ·rw[List.getElem?_eq_none h']at h;cases h
section
variable {E:Env} {s:List AV} {h:List af} {c:Cx} {G:List (Nat × DV)} {P:Program}
structure Src(P:Program)(size:Nat)(w:World)(x:Value)(n:Nat)(news:List Value):Prop where
 len:∀ w,(Builtin.lenOf x).run P w=.ok n w
 cells:∀ d:Nat,(Builtin.firstCells size n x).run P { w with drawn:=d }=.ok news.toArray { w with drawn:=d }
 one:∀ v∈news,v.oneCell'=true
 size:news.length=n*size
theorem Ss{t0 t1 e:TypeId}{i:TypeInfo}{d1:TypeDesc}(h0:P.underlying t0=some (.slice e))(h1:P.underlying t1=some d1)(iZ:∀ k,d1 ≠ .int k)(hi:P.info? e=some i){w:World}{g n m cap:Nat}{cur:Array Value}{x:Value}{news:List Value}
  (hg:w.heap[g]?=some (.cells cur e (0,0))) (hs:Src P i.size w x m news) (kA:n+m<=cap) (eJ:n*i.size+news.length<=cur.size) (ty:TypeId) :
  (Builtin.append_ #[t0,t1] ty #[.slice (some ⟨g,0,none⟩) n cap,x]).run P w=.ok (.slice (some ⟨g,0,none⟩) (n+m) cap) (w.setCells g (n*i.size) news):=by
 have aV:=run_storeCells_cells (P:=P) g (n*i.size) news 0 w (fun j hj=>by
   simp only[World.cell?,hg]
   simp;omega) (fun j hj=>by simp[World.frozen?,hg]) hs.one
 simp only[Nat.add_zero]at aV;have hc:=hs.cells w.drawn;simp[Builtin.append_,run_underlying h0,run_underlying h1,Go.sizeOf,typeInfo,hi,hs.len,kA,hc,k9,aV]
theorem St{t0 t1 e:TypeId}{i:TypeInfo}{d1:TypeDesc}(h0:P.underlying t0=some (.slice e))(h1:P.underlying t1=some d1)(iZ:∀ k,d1 ≠ .int k)(hi:P.info? e=some i){w:World}{n cap:Nat}{b:Option Addr}{x:Value}
  (hs:Src P i.size w x 0 []) (kA:n<=cap) (ty:TypeId):(Builtin.append_ #[t0,t1] ty #[.slice b n cap,x]).run P w=.ok (.slice b n cap) w:=by
 have hc:=hs.cells w.drawn;cases b<;>simp[Builtin.append_,run_underlying h0,run_underlying h1,Go.sizeOf,typeInfo,hi,hs.len,kA,hc,storeCells]
theorem J6{t0 t1 e:TypeId}{i:TypeInfo}{z:Value}{d1:TypeDesc}(h0:P.underlying t0=some (.slice e))(h1:P.underlying t1=some d1)(iZ:∀ k,d1 ≠ .int k)(hi:P.info? e=some i)(hz:i.zero=some z){w:World}{n m cap:Nat}{b:Option Addr}{x:Value}{iM news:List Value}
  (hold:∀ d:Nat,(Builtin.firstCells i.size n (.slice b n cap)).run P { w with drawn:=d }=.ok iM.toArray { w with drawn:=d }) (hs:Src P i.size w x m news) (hg:cap<n+m) (Su:n+m<=2147483648) (ja:i.bytes<=65536) (ty:TypeId) :
  (Builtin.append_ #[t0,t1] ty #[.slice b n cap,x]).run P w=.ok (.slice (some ⟨w.heap.size,0,none⟩) (n+m) (grownCap w (n+m) cap e)) (w.drew.alloc (.cells (iM.toArray++news.toArray++Builtin.zeroCells z.cells (grownCap w (n+m) cap e-(n+m))) e)):=by
 have hn:¬ (n+m<=cap):=by omega
 have Sv:¬ (9223372036854775807<((n:Int)+(m:Int))):=by omega
 have eJ:(n+m)*i.bytes<=140737488355328:=by
  calc (n+m)*i.bytes<=2147483648*65536:=Nat.mul_le_mul Su ja
   _=140737488355328:=by decide
 have Sw:¬ (281474976710656<Builtin.nextslicecap (n+m) cap*i.bytes):=by
  have:=growslice_fits (old:=cap) (need:=n+m) (bytes:=i.bytes) (by omega) eJ;omega
 have hc:=hs.cells w.drew.drawn;have ho:=hold w.drew.drawn;have ss:(Builtin.firstCells i.size m x).run P w.drew=.ok news.toArray w.drew:=hc;have cU:(Builtin.firstCells i.size n (.slice b n cap)).run P w.drew=.ok iM.toArray w.drew:=ho;simp[Builtin.append_,run_underlying h0,run_underlying h1,Go.sizeOf,typeInfo,zeroValue,hi,hz,hs.len,hn,Sv,Sw,Question.forced,ss,cU,newRow,grownCap]
 congr 2
 apply Array.ext';simp[List.append_assoc]
theorem BE{c:Cx}{m:List DV}{x:Value}{sz:Nat}(bS:0<sz)(hm:∀ e∈m,e.cells.length=sz)(hv:VD c.bad c.w (.sl m) x):∃ news:List Value,Src P sz c.w x m.length news/\(∀ (j:Nat) (y:DV) (v:Value),(flat m)[j]?=some y->news[j]?=some v->VD c.bad c.w y v):=by
 have dM:gP sz m:=fun i e he=>hm e (List.mem_of_getElem? he);cases hv with
 |slnil=>exact⟨[],⟨fun _=>rfl,fun _=>rfl,fun v hv=>by simp at hv,by simp⟩,fun j y v hy=>by simp[flat]at hy⟩
 |kZ a=>exact⟨[],⟨fun _=>rfl,fun _=>by simp[Builtin.firstCells,loadCells,loadCellsFrom],fun v hv=>by simp at hv,by simp⟩,fun j y v hy=>by simp[flat]at hy⟩
 |sl _ blk off cap dB f hb BF jm hlen dP bW cj =>
  by_cases aH:m=[]
  ·subst aH;exact⟨[],⟨fun _=>rfl,fun _=>by simp[Builtin.firstCells,loadCells,loadCellsFrom],fun v hv=>by simp at hv,by simp⟩,fun j y v hy=>by simp[flat]at hy⟩
  obtain⟨e0,r,hr⟩:=List.exists_cons_of_ne_nil aH;have ky:dB=sz:=(hlen 0 e0 (by rw[hr];rfl)).symm.trans (hm e0 (by rw[hr];simp));subst ky;have at_:∀ (idx:Nat),idx<m.length*dB->∃ (i j:Nat) (e y:DV),idx=i*dB+j/\j<dB/\m[i]?=some e/\e.cells[j]?=some y/\idx / dB=i/\idx % dB=j:=fun idx su=>by
   have hd:idx / dB<m.length:=Nat.div_lt_of_lt_mul (by rw[Nat.mul_comm];exact su);have wC:idx % dB<dB:=Nat.mod_lt _ bS;have hl:idx % dB<m[idx / dB].cells.length:=by rw[hlen _ _ (List.getElem?_eq_getElem hd)];exact wC
   exact⟨idx / dB,idx % dB,m[idx / dB],m[idx / dB].cells[idx % dB],by rw[Nat.mul_comm];exact(Nat.div_add_mod idx dB).symm,wC,List.getElem?_eq_getElem hd,List.getElem?_eq_getElem hl,rfl,rfl⟩
  have eV:∀ (j:Nat) (v:Value),((List.range (m.length*dB)).map fun idx=>f (idx / dB) (idx % dB))[j]?=some v->j<m.length*dB/\v=f (j / dB) (j % dB):=fun j v hv=>by
   have hj:j<m.length*dB:=by have:=aX hv;simpa using this
   simp[hj]at hv;exact⟨hj,hv.symm⟩
  refine⟨(List.range (m.length*dB)).map fun idx=>f (idx / dB) (idx % dB),⟨fun _=>rfl,fun d=>?_,fun v hv=>?_,by simp⟩,fun j y v hy hv=>?_⟩
  ·have:=run_loadCells_list (P:=P) { c.w with drawn:=d } ⟨blk,off,none⟩ ((List.range (m.length*dB)).map fun idx=>f (idx / dB) (idx % dB)) (fun j v hv=>by
    obtain⟨hj,rfl⟩:=eV j v hv;obtain⟨i,jj,e,y,e1,e2,e3,e4,e5,e6⟩:=at_ j hj;rw[k9,e5,e6,e1]
    exact dP i jj e y e3 e4)
   simpa [Builtin.firstCells]using this
  ·obtain⟨j,Sx⟩:=List.getElem?_of_mem hv;obtain⟨hj,rfl⟩:=eV j v Sx;obtain⟨i,jj,e,y,e1,e2,e3,e4,e5,e6⟩:=at_ j hj;rw[e5,e6];exact cj i jj e y e3 e4
  ·obtain⟨hj,rfl⟩:=eV j v hv;obtain⟨i,jj,e,y',e1,e2,e3,e4,e5,e6⟩:=at_ j hj;have:=flat_get dM e3 e2;rw[<- e1,hy,e4]at this;cases this;rw[e5,e6];exact bW i jj e y e3 e4
theorem J7{c:Cx}{z:List UInt8}:Src P 1 c.w (.string ⟨z.toArray⟩) (z.map nI).length (z.map fun b=>Value.int .u8 b.toNat)/\(∀ (j:Nat) (y:DV) (v:Value),(flat (z.map nI))[j]?=some y->(z.map fun b=>Value.int .u8 b.toNat)[j]?=some v->VD c.bad c.w y v):=by
 have Sy:flat (z.map nI)=z.map nI:=by
  induction z with
  |nil=>rfl
  |cons b z ih=>simp only[List.map_cons,flat,List.flatMap_cons]at ih ⊢;rw[ih];rfl
 refine⟨⟨fun _=>by simp[Builtin.lenOf,ByteArray.size],fun d=>?_,fun v hv=>?_,by simp⟩,fun j y v hy hv=>?_⟩
 ·simp[Builtin.firstCells]
 ·obtain⟨b,-,rfl⟩:=List.mem_map.1 hv;rfl
 ·rw[Sy]at hy;rw[List.getElem?_map]at hy hv;cases hz:z[j]? with
  |none=>rw[hz]at hy;cases hy
  |some b=>rw[hz]at hy hv;cases hy;cases hv;exact .int _ _
def iN(c:Cx)(l:List DV)(vs:List Value):Prop:=∀ (idx:Nat) (y:DV),(flat l)[idx]?=some y->∃ v,vs[idx]?=some v/\v.oneCell'=true/\VD c.bad c.w y v
theorem iN.ij{c:Cx}{l:List DV}{vs:Array Value}{sz:Nat}(dM:gP sz l)(h:iN c l vs.toList):∀ (i j:Nat) (e x:DV),l[i]?=some e->e.cells[j]?=some x->∃ v,vs[i*sz+j]?=some v/\v.oneCell'=true/\VD c.bad c.w x v:=fun i j e x he hx=>by
 have hj:j<sz:=by rw[<- dM i e he];exact aX hx
 obtain⟨v,h1,h2⟩:=h (i*sz+j) x (by rw[flat_get dM he hj];exact hx);exact⟨v,by simpa using h1,h2⟩
theorem iN.J8{c:Cx}{l:List DV}{vs:Array Value}{sz:Nat}(bS:0<sz)(dM:gP sz l)(h:∀ (i j:Nat) (e x:DV),l[i]?=some e->e.cells[j]?=some x->∃ v,vs[i*sz+j]?=some v/\v.oneCell'=true/\VD c.bad c.w x v):iN c l vs.toList:=fun idx y hy=>by
 have ai:=aX hy;rw[lg dM]at ai;have hd:idx / sz<l.length:=Nat.div_lt_of_lt_mul (by rw[Nat.mul_comm];exact ai);have wC:idx % sz<sz:=Nat.mod_lt _ bS;have h1:=flat_get dM (List.getElem?_eq_getElem hd) wC;have e1:idx / sz*sz+idx % sz=idx:=by rw[Nat.mul_comm];exact Nat.div_add_mod idx sz
 rw[e1,hy]at h1;obtain⟨v,h2,h3⟩:=h (idx / sz) (idx % sz) _ y (List.getElem?_eq_getElem hd) h1.symm;rw[e1]at h2;exact⟨v,by simpa using h2,h3⟩
theorem iN.append{c:Cx}{l m:List DV}{vs news:List Value}{tail:List Value}{sz:Nat}(dM:gP sz l)(hl:iN c l vs)(gM:l.length*sz<=vs.length)(cj:∀ v∈news,v.oneCell'=true)(hlen:news.length=(flat m).length)(hn:∀ (j:Nat) (y:DV) (v:Value),(flat m)[j]?=some y->news[j]?=some v->VD c.bad c.w y v) :
  iN c (l++m) (vs.take (l.length*sz)++news++tail):=fun idx y hy=>by
 rw[Bv]at hy;have gq:=lg dM;have Sz:(vs.take (l.length*sz)).length=l.length*sz:=by simp;omega
 rcases Nat.lt_or_ge idx (l.length*sz)with h|h
 ·rw[List.getElem?_append_left (by omega)]at hy;obtain⟨v,h1,h2⟩:=hl idx y hy;refine⟨v,?_,h2⟩;rw[List.append_assoc,List.getElem?_append_left (by omega),List.getElem?_take,if_pos h];exact h1
 ·rw[List.getElem?_append_right (by omega),gq]at hy;have ai:=aX hy;have su:idx-l.length*sz<news.length:=by omega
  refine⟨news[idx-l.length*sz],?_,cj _ (List.getElem_mem su),hn _ y _ hy (by simp[su])⟩;rw[List.append_assoc,List.getElem?_append_right (by omega),Sz,List.getElem?_append_left su];simp[su]
theorem iN.step{c c':Cx}(hs:Step c c'){l:List DV}{vs:List Value}(h:iN c l vs):iN c' l vs:=fun idx y hy=>by
 obtain⟨v,h1,h2,h3⟩:=h idx y hy;exact⟨v,h1,h2,hs.vd h3⟩
theorem EL{sz:Nat}{l m:List DV}(hl:gP sz l)(hm:∀ e∈m,e.cells.length=sz):gP sz (l++m):=fun i e he=>by
 rcases Nat.lt_or_ge i l.length with h|h
 ·rw[List.getElem?_append_left h]at he;exact hl i e he
 ·rw[List.getElem?_append_right h]at he;exact hm e (List.mem_of_getElem? he)
def Cx.gr(c:Cx)(b g:Nat)(ts:Nat × Nat)(l:List DV)(own:Option (Nat × Nat))(w:World):Cx:={ c with own:=fun i=>if i=b then own else c.own i,heap:=c.heap.set b (.arr g ts l),w:=w }
theorem aD.gr{G:List (Nat × DV)}(ho:aD G c){b g:Nat}{ts:Nat × Nat}{l l':List DV}(hb:c.heap[b]?=some (.arr g ts l)){w:World}(own:Option (Nat × Nat))(SA:w.os=c.w.os)(SB:w.tape=c.w.tape)(SC:w.output=c.w.output)(gT:c.w.heap.size<=w.heap.size)
  (oE:∀ k,k<c.w.heap.size->(∀ n,c.own b≠some (k,n))->w.heap[k]?=c.w.heap[k]?) (bI:∀ k n,own=some (k,n)->k<w.heap.size/\(k<c.w.heap.size->∃ m,c.own b=some (k,m))) :
  let c':=c.gr b (g+1) ts l' own w
  Step c c'/\((gP ts.2 l'/\((own=none/\l'=[])\/∃ (blk cap:Nat) (vs:Array Value),own=some (blk,cap)/\w.heap[blk]?=some (.cells vs ts.1 (0,0))/\vs.size=cap*ts.2/\l'.length<=cap/\cap<=maxLen/\iN c' l' vs.toList))->aD G c'):=by
 intro c';have eu:=aX hb
 have aV:Step c c':={
  ak:=rfl
  bE:=ho.bE
  os:=SA
  tape:=SB
  output:=SC
  size:=gT
  keep:=fun x hx hn=>oE x hx (fun n=>hn b n)
  dw:=fun i x n hi hx=>by
   simp only[c',Cx.gr]at hi;split at hi
   ·rename_i bP;subst bP;exact(bI x n hi).2 hx
   ·exact⟨n,hi⟩
  boxes:=fun i bx hi=>by
   by_cases bP:i=b
   ·subst bP;rw[hb]at hi;cases hi;exact .inl ⟨g+1,l',by show(c.heap.set i _)[i]?=_;rw[List.getElem?_set_self eu],.inl (Nat.lt_succ_self _)⟩
   ·have h':c'.heap[i]?=some bx:=by show(c.heap.set b _)[i]?=_;rw[List.getElem?_set_ne (Ne.symm bP)];exact hi
    have qF:c'.own i=c.own i:=by simp only[c',Cx.gr];rw[if_neg bP]
    cases bx with
    |cells cs=>exact .inl ⟨cs,h',qF,rfl⟩
    |arr g sz l=>exact .inl ⟨g,l,h',.inr ⟨rfl,rfl,qF⟩⟩
    |map es=>exact .inl ⟨es,h',qF⟩
    |gone=>exact h' }
 refine⟨aV,fun dT=>ho.next aV ?_ ?_ ?_⟩
 ·intro i x n hi;have hl:c'.heap.length=c.heap.length:=by simp[c',Cx.gr]
  rw[hl];simp only[c',Cx.gr]at hi;split at hi
  ·rename_i bP;subst bP;exact⟨(bI x n hi).1,eu⟩
  ·have:=ho.bH i x n hi;exact⟨Nat.lt_of_lt_of_le this.1 gT,this.2⟩
 ·intro i j x n m hi hj;simp only[c',Cx.gr]at hi hj;split at hi<;>split at hj
  ·omega
  ·rename_i h1 h2;have:=(ho.bH j x m hj).1;obtain⟨q,hq⟩:=(bI x n hi).2 this;exact absurd (ho.inj j b x m q hj hq) h2
  ·rename_i h1 h2;have:=(ho.bH i x n hi).1;obtain⟨q,hq⟩:=(bI x m hj).2 this;exact absurd (ho.inj i b x n q hi hq) h1
  ·exact ho.inj i j x n m hi hj
 ·intro i bx hi;by_cases bP:i=b
  ·subst bP;have cS:(c.heap.set i (.arr (g+1) ts l'))[i]?=some bx:=hi;rw[List.getElem?_set_self eu]at cS;cases cS;right;have dZ:c'.own i=own:=by simp[c',Cx.gr]
   obtain⟨q0,-,-⟩:=ho.box i _ hb;obtain⟨dM,SD⟩:=dT;refine⟨q0,dM,?_⟩;rcases SD with⟨h1,h2⟩|⟨blk,cap,vs,h1,h2,h3,h4,h5,h6⟩
   ·exact .inl ⟨dZ.trans h1,h2⟩
   ·exact .inr ⟨blk,cap,vs,dZ.trans h1,h2,h3,h4,h5,h6.ij dM⟩
  ·left;have cS:(c.heap.set b (.arr (g+1) ts l'))[i]?=some bx:=hi;rw[List.getElem?_set_ne (Ne.symm bP)]at cS;refine⟨cS,by simp only[c',Cx.gr];rw[if_neg bP],fun x n hn=>oE x (ho.bH i x n hn).1 (fun m hm=>bP (ho.inj i b x n m hn hm))⟩
theorem nK{b g:Nat}{ts:Nat × Nat}{l:List DV}(hb:c.heap[b]?=some (.arr g ts l)){v:Value}(hv:VR c (.own b g) v):(∃ blk cap,c.own b=some (blk,cap)/\v=.slice (some ⟨blk,0,none⟩) l.length cap)\/(l=[]/\v=.slice none 0 0/\c.own b=none):=by
 cases hv with
 |own _ _ _ l' blk cap k1 k2=>rw[hb]at k1;cases k1;exact .inl ⟨blk,cap,k2,rfl⟩
 |iW _ _ _ k1 k2=>rw[hb]at k1;cases k1;exact .inr ⟨rfl,rfl,k2⟩
 |kx _ _ g' _ _ _ k1 k2 _=>rw[hb]at k1;cases k1;omega
 |jM _ _ _ k1 _=>rw[hb]at k1;cases k1
 |mI _ _ _ _ _ _ k1 _ _=>rw[hb]at k1;cases k1
theorem J9{β:Type}{vs news:List β}{o:Nat}(h:o+news.length<=vs.length):dD vs o news=vs.take o++news++vs.drop (o+news.length):=by
 have h1:vs=vs.take o++(vs.drop o).take news.length++vs.drop (o+news.length):=by
  rw[List.append_assoc,<- List.drop_drop,List.take_append_drop,List.take_append_drop]
 have h2:(vs.take o).length=o:=by simp;omega
 have:=Ey news (vs.take o) ((vs.drop o).take news.length) (vs.drop (o+news.length)) (by simp;omega);rw[<- h1,h2]at this;exact this
theorem oF{n:Nat}(h:n<=2147483648):n<=maxLen:=by unfold maxLen;omega
theorem J'(aN:aD G c){t0 t1:TypeId}{i:TypeInfo}{z:Value}{d1:TypeDesc}{ts:Nat × Nat}(h0:P.underlying t0=some (.slice ts.1))(h1:P.underlying t1=some d1)(iZ:∀ k,d1 ≠ .int k)(hi:P.info? ts.1=some i)(hz:i.zero=some z)(gN:z.cells.size=i.size)(gT:i.size=ts.2)(ja:i.bytes<=65536)
  {b g:Nat} {l m:List DV} (hb:c.heap[b]?=some (.arr g ts l)) {v x:Value} (hv:VR c (.own b g) v) {news:List Value} (hs:Src P i.size c.w x m.length news) (hn:∀ (j:Nat) (y:DV) (v:Value),(flat m)[j]?=some y->news[j]?=some v->VD c.bad c.w y v) (hm:∀ e∈m,e.cells.length=ts.2) (lh:l.length+m.length<=2147483648) (ty:TypeId) :
  ∃ (c':Cx) (v':Value),(Builtin.append_ #[t0,t1] ty #[v,x]).run P c.w=.ok v' c'.w/\c'.heap=c.heap.set b (.arr (g+1) ts (l++m))/\aD G c'/\VR c' (.own b (g+1)) v'/\Step c c':=by
 obtain⟨q0,q1,q2⟩:=aN.box b _ hb;have eu:=aX hb;have Ka:gP ts.2 (l++m):=EL q1 hm;have qO:(flat m).length=m.length*ts.2:=lg (fun i e he=>hm e (List.mem_of_getElem? he));have nL:news.length=(flat m).length:=by rw[hs.size,qO,gT]
 have kB:∀ own w,(c.gr b (g+1) ts (l++m) own w).heap[b]?=some (.arr (g+1) ts (l++m)):=fun own w=>by show(c.heap.set b _)[b]?=_;rw[List.getElem?_set_self eu]
 have wD:∀ own w,(c.gr b (g+1) ts (l++m) own w).own b=own:=fun own w=>by simp[Cx.gr]
 have grown:∀ (iM:List Value) (cap:Nat) (bs:Option Addr),(∀ (idx:Nat) (y:DV),(flat l)[idx]?=some y->∃ v,iM[idx]?=some v/\v.oneCell'=true/\VD c.bad c.w y v)->iM.length=l.length*ts.2->(∀ d:Nat,(Builtin.firstCells i.size l.length (.slice bs l.length cap)).run P { c.w with drawn:=d }=.ok iM.toArray { c.w with drawn:=d })->cap<l.length+m.length->v=.slice bs l.length cap ->
   ∃ (c':Cx) (v':Value),(Builtin.append_ #[t0,t1] ty #[v,x]).run P c.w=.ok v' c'.w/\c'.heap=c.heap.set b (.arr (g+1) ts (l++m))/\aD G c'/\VR c' (.own b (g+1)) v'/\Step c c':=by
  intro iM cap bs hold wE EM jm SE;subst SE;have hr:=J6 h0 h1 iZ hi hz EM hs jm lh ja ty;have aG:=grownCap_ge c.w (l.length+m.length) cap ts.1;have hle:=grownCap_le_maxLen c.w (l.length+m.length) cap ts.1 (oF lh);generalize grownCap c.w (l.length+m.length) cap ts.1=nc at hr aG hle
  let cells:Array Value:=iM.toArray++news.toArray++Builtin.zeroCells z.cells (nc-(l.length+m.length))
  have hw:(c.w.drew.alloc (.cells cells ts.1)).heap[c.w.heap.size]?=some (.cells cells ts.1 (0,0)):=heap_alloc_new c.w.drew _;obtain⟨k1,k2⟩:=aN.gr (l':=l++m) hb (w:=c.w.drew.alloc (.cells cells ts.1)) (some (c.w.heap.size,nc)) rfl rfl rfl (by simp) (fun k hk _=>Below.heap_alloc c.w.drew _ k hk) (fun k n e=>by cases e;exact⟨by simp,fun h=>by omega⟩);refine⟨_,_,hr,rfl,k2 ⟨Ka,.inr ⟨c.w.heap.size,nc,cells,rfl,hw,?_,by simpa using aG,hle,?_⟩⟩,?_,k1⟩
  ·simp only[cells,Array.size_append,List.size_toArray,size_zeroCells,gN,wE,nL,qO,gT,<- Nat.add_mul]
   congr 1
   omega
  ·have:=iN.append (c:=c) (l:=l) (m:=m) (vs:=iM) (news:=news) (tail:=(Builtin.zeroCells z.cells (nc-(l.length+m.length))).toList) q1 hold (by omega) hs.one nL hn;rw[List.take_of_length_le (by omega)]at this;have:=this.step k1
   simpa [cells]using this
  ·have:=VR.own (c:=c.gr b (g+1) ts (l++m) (some (c.w.heap.size,nc)) (c.w.drew.alloc (.cells cells ts.1))) b (g+1) ts (l++m) c.w.heap.size nc (kB _ _) (wD _ _);rw[List.length_append]at this;exact this
 rcases nK hb hv with⟨blk,cap,r1,rfl⟩|⟨rfl,rfl,r1⟩
 ·rcases q2 with⟨q2,-⟩|⟨la,jN,vs,q2,q3,q4,q5,q6,q7⟩
  ·rw[r1]at q2;cases q2
  rw[r1]at q2;cases q2;have gq:=iN.J8 q0 q1 q7;have gM:l.length*ts.2<=vs.size:=by rw[q4];exact Nat.mul_le_mul_right _ q5
  by_cases kA:l.length+m.length<=cap
  ·have eJ:l.length*i.size+news.length<=vs.size:=by
    rw[nL,qO,gT,q4,<- Nat.add_mul];exact Nat.mul_le_mul_right _ kA
   have hr:=Ss h0 h1 iZ hi q3 hs kA eJ ty;obtain⟨e1,e2,e3,e4⟩:=yx blk news (l.length*i.size) c.w;obtain⟨k1,k2⟩:=aN.gr (l':=l++m) hb (w:=c.w.setCells blk (l.length*i.size) news) (some (blk,cap)) e1 e2 e3 (Nat.le_of_eq e4.symm) (fun k _ hk=>tX blk news _ c.w k (fun e=>hk cap (by rw[e];exact r1))) (fun k n e=>by cases e;exact⟨by rw[e4];exact(aN.bH b blk cap r1).1,fun _=>⟨cap,r1⟩⟩);refine⟨_,_,hr,rfl,k2 ⟨Ka,.inr ⟨blk,cap,(dD vs.toList (l.length*i.size) news).toArray,rfl,yy blk ts.1 (0,0) news _ c.w vs q3,by simp[wj,q4],by simpa using kA,q6,?_⟩⟩,?_,k1⟩
   ·have:=iN.append (c:=c) (l:=l) (m:=m) (vs:=vs.toList) (news:=news) (tail:=vs.toList.drop (l.length*ts.2+news.length)) q1 gq (by simpa using gM) hs.one nL hn;have:=this.step k1;show iN _ (l++m) (dD vs.toList (l.length*i.size) news);rw[J9 (by simp;exact eJ)];rw[<- gT]at this;exact this
   ·have:=VR.own (c:=c.gr b (g+1) ts (l++m) (some (blk,cap)) (c.w.setCells blk (l.length*i.size) news)) b (g+1) ts (l++m) blk cap (kB _ _) (wD _ _);rw[List.length_append]at this;exact this
  ·have cb:=mM q3;refine grown (vs.toList.take (l.length*ts.2)) cap (some ⟨blk,0,none⟩) (fun idx y hy=>?_) (by simp;omega) (fun d=>?_) (by omega) rfl
   ·obtain⟨u,g1,g2⟩:=gq idx y hy;have ai:=aX hy;rw[lg q1]at ai;exact⟨u,by rw[List.getElem?_take,if_pos ai];exact g1,g2⟩
   ·have:=run_loadCells_list (P:=P) { c.w with drawn:=d } ⟨blk,0,none⟩ (vs.toList.take (l.length*ts.2)) (fun j u hu=>by
     rw[List.getElem?_take]at hu;split at hu
     ·rw[k9];exact cb j u hu
     ·cases hu)
    have hlen:(vs.toList.take (l.length*ts.2)).length=l.length*i.size:=by simp;rw[gT];omega
    rw[hlen]at this;exact this
 ·by_cases uu:m.length=0
  ·obtain rfl:m=[]:=List.eq_nil_of_length_eq_zero uu;have qP:news=[]:=List.eq_nil_of_length_eq_zero (by rw[hs.size];simp);subst qP;have hr:=St (b:=none) (n:=0) (cap:=0) h0 h1 iZ hi hs (Nat.le_refl _) ty;obtain⟨k1,k2⟩:=aN.gr (l':=[]++[]) hb (w:=c.w) none rfl rfl rfl (Nat.le_refl _) (fun k _ _=>rfl) (fun k n e=>by cases e);exact⟨c.gr b (g+1) ts ([]++[]) none c.w,.slice none 0 0,hr,rfl,k2 ⟨fun i e he=>by simp at he,.inl ⟨rfl,rfl⟩⟩,.iW b (g+1) ts (kB _ _) (wD _ _),k1⟩
  ·exact grown [] 0 none (fun idx y hy=>by simp[flat]at hy) (by simp) (fun d=>by simp[Builtin.firstCells]) (by simp;omega) rfl
theorem aD.jV(aN:aD G c)(ts:Nat × Nat)(mT:0<ts.2):let c':Cx:={ c with heap:=c.heap++[.arr 0 ts []] }
  aD G c'/\Step c c'/\c'.heap[c.heap.length]?=some (.arr 0 ts [])/\VR c' (.own c.heap.length 0) (.slice none 0 0):=by
 intro c';have dE:c.own c.heap.length=none:=by
  cases ho:c.own c.heap.length with
  |none=>rfl
  |some p=>have:=(aN.bH _ p.1 p.2 ho).2;omega
 have aV:Step c c':=⟨rfl,aN.bE,rfl,rfl,rfl,Nat.le_refl _,fun _ _ _=>rfl,fun i b n hi _=>⟨n,hi⟩,fun i bx hi=>by
  have h':c'.heap[i]?=some bx:=by show(c.heap++_)[i]?=_;rw[List.getElem?_append_left (aX hi)];exact hi
  cases bx with
  |cells cs=>exact .inl ⟨cs,h',rfl,rfl⟩
  |arr g sz l=>exact .inl ⟨g,l,h',.inr ⟨rfl,rfl,rfl⟩⟩
  |map es=>exact .inl ⟨es,h',rfl⟩
  |gone=>exact h'⟩
 have mU:c'.heap[c.heap.length]?=some (.arr 0 ts []):=by show(c.heap++_)[_]?=_;simp
 refine⟨aN.next aV (fun i b n hi=>⟨(aN.bH i b n hi).1,by have:=(aN.bH i b n hi).2;show i<(c.heap++_).length;simp;omega⟩) aN.inj (fun i bx hi=>?_),aV,mU,.iW _ _ ts mU dE⟩;by_cases iX:i=c.heap.length
 ·subst iX;rw[mU]at hi;cases hi;exact .inr ⟨mT,fun i e he=>by simp at he,.inl ⟨dE,rfl⟩⟩
 ·have ai:i<c.heap.length:=by
   have:=aX hi;have h2:c'.heap.length=c.heap.length+1:=by show(c.heap++_).length=_;simp
   omega
  have cS:(c.heap++[.arr 0 ts []])[i]?=some bx:=hi;rw[List.getElem?_append_left ai]at cS;exact .inl ⟨cS,rfl,fun _ _ _=>rfl⟩
theorem EN{o:Oper}{ac:Act}{w w':World}{args:Array Operand}{ts:Array TypeId}{x y:Operand}{t0 t1:Nat}{v v0 v1:Value}(h1:o.op=.call { callee := .builtin .append,args:=args,argTypes:=ts })(hx:args.toList=[x,y])(ht:ts.toList=[t0,t1])(e0:ac.eval x=v0)(e1:ac.eval y=v1)
  (hr:(Builtin.append_ #[t0,t1] o.type #[v0,v1]).run P w=.ok v w'):(execOp ac.eval o).run P w=.ok (.value v) w':=by
 have ha:args.map ac.eval = #[v0,v1]:=by
  apply Array.ext';rw[Array.toList_map,hx];simp[e0,e1]
 have mT:ts = #[t0,t1]:=by apply Array.ext';rw[ht]
 simp only[execOp,h1,resolve,ha,mT,Sem.run_bind,Sem.run_pure,Result.andThen_ok,invoke,builtin,hr]
theorem EO(hE:E.OK){args:Array Operand}{kC:Array TypeId}{x y:Operand}{t0 t1 e:Nat}{i0 i1 ei:bD}(hx:args.toList=[x,y])(pE:kC.toList=[t0,t1])(fU:E.T[t0]?=some i0)(jb:E.T[t1]?=some i1)(dh:i0.k=.slice e)(dU:∀ k,i1.k ≠ .int k)(cd:E.T[e]?=some ei)
  (hz:ei.zero.length=ei.size) (cB:0<ei.size) (ja:ei.bytes<=65536) {bv:AV} (hy:bh E.G s y bv) {m:List DV} (hm:∀ e∈m,e.cells.length=ei.size)
  (BG:∀ (c:Cx) (v:Value),VR c bv v->∃ news:List Value,Src E.P ei.size c.w v m.length news/\(∀ (j:Nat) (y:DV) (v:Value),(flat m)[j]?=some y->news[j]?=some v->VD c.bad c.w y v))
  {a:AV} (ha:bh E.G s x a) {r:AV} {h':List af}
  (EP:(∃ b g ts l,a=.own b g/\h[b]?=some (.arr g ts l)/\ts.1=e/\ts.2=ei.size/\l.length+m.length<=2147483648/\r=.own b (g+1)/\h'=h.set b (.arr (g+1) ts (l++m)))\/(a=.d .a7/\m.length<=2147483648/\r=.own h.length 1/\h'=h++[.arr 1 (e,ei.size) m])) :
  aQ E (.call { callee := .builtin .append,args:=args,argTypes:=kC }) s h r h':=fun o c ac h1 h2 h3 h4=>by
 subst h2;obtain⟨yA,d0,g1,g2,g3,-⟩:=cO (hE.types _ _ fU);obtain rfl:=lZ (dh.symm.trans g3);obtain⟨Kb,d1,k1,k2,k3,-⟩:=cO (hE.types _ _ jb);obtain⟨ti,z,q1,q2,q3,q4⟩:=zeroOf (hE.types _ _ cd) hz cB;obtain⟨yH,d',p1,p2,p3,p4,p5,-⟩:=cO (hE.types _ _ cd);rw[q1]at p1;cases p1;have iZ:∀ k,d1 ≠ .int k:=fun k e=>dU k (by rw[k3,e];rfl);have gN:z.cells.size=ti.size:=by
  obtain⟨vs,e1,e2⟩:=q4 c;rw[e1];have:=e2.1;simp at this;simp[<- this,hz,q3]
 rcases EP with⟨b,g,ts,l,rfl,hb,rfl,oG,lh,rfl,rfl⟩|⟨rfl,lh,rfl,rfl⟩
 ·obtain⟨news,hs,hn⟩:=BG c _ (hy c ac h3 h4);rw[q3]at hs;obtain⟨c',v',r1,r2,r3,r4,r5⟩:=J' h3 g2 k2 iZ q1 q2 gN (by rw[<- q3];exact oG.symm) (by rw[<- p5];exact ja) hb (ha c ac h3 h4) hs hn (fun e he=>by rw[oG];exact hm e he) lh o.type;exact⟨c',v',.inl (EN h1 hx pE rfl rfl r1),r2,r3,r4,r5⟩
 ·obtain⟨w1,w2,w3,w4⟩:=h3.jV (e,ei.size) cB;have nM:=w2.vr (hy c ac h3 h4);obtain⟨news,hs,hn⟩:=BG _ _ nM;rw[q3]at hs;have di:ac.eval x=.slice none 0 0:=by
   have:=ha c ac h3 h4;generalize ac.eval x=u at this;cases this with
   |d _ _ hd=>cases hd;rfl
  obtain⟨c',v',r1,r2,r3,r4,r5⟩:=J' (ts:=(e,ei.size)) w1 g2 k2 iZ q1 q2 gN q3.symm (by rw[<- p5];exact ja) w3 w4 hs hn hm (by simpa using lh) o.type;refine⟨c',v',.inl (EN h1 hx pE di rfl r1),?_,r3,r4,w2.trans r5⟩;rw[r2];simp
theorem Kc(hE:E.OK){t e:Nat}{n cc:Operand}{i ei:bD}(hi:E.T[t]?=some i)(hk:i.k=.slice e)(cd:E.T[e]?=some ei)(hz:ei.zero.length=ei.size)(cB:0<ei.size)(ja:ei.bytes<=65536)(mP:∀ y∈ei.zero,y.fm=true){j j':IntKind}{a b:Int}(hn:bh E.G s n (.d (.int j a)))(hc:bh E.G s cc (.d (.int j' b)))
  (ha:0<=a) (yS:a<=b) (hb:b<=2147483648) {zd:DV} (Kd:zd.cells=ei.zero):aQ E (.makeSlice t n cc) s h (.own h.length 0) (h++[.arr 0 (e,ei.size) (List.replicate a.toNat zd)]):=fun o c ac h1 h2 h3 h4=>by
 subst h2;obtain⟨yA,d0,g1,g2,g3,-⟩:=cO (hE.types _ _ hi);obtain rfl:=lZ (hk.symm.trans g3);obtain⟨ti,z,q1,q2,q3,q4⟩:=zeroOf (hE.types _ _ cd) hz cB;obtain⟨yH,d',p1,p2,p3,p4,p5,-⟩:=cO (hE.types _ _ cd);rw[q1]at p1;cases p1;obtain⟨zs,gN,fT⟩:=q4 c;have l4:zs.length=ei.size:=by rw[<- fT.1];simpa using hz
 have SF:(ti.bytes:Int)*b<=281474976710656:=by
  have h5:(ti.bytes:Int)<=65536:=by rw[<- p5];omega
  calc (ti.bytes:Int)*b<=65536*2147483648:=Int.mul_le_mul h5 hb (by omega) (by omega)
   _<=281474976710656:=by decide
 have hr:=run_make (P:=E.P) c.w t e ti z g2 q1 q2 j j' a b ha yS SF (by omega);have e1:=gj (hn c ac h3 h4);have e2:=gj (hc c ac h3 h4);obtain⟨k1,k2⟩:=h3.add (.arr 0 (e,ei.size) (List.replicate a.toNat zd)) b.toNat (.cells (madeCells z.cells (b.toNat*ti.size)) e);have dM:gP ei.size (List.replicate a.toNat zd):=fun i e he=>by
  rw[List.getElem?_replicate]at he;split at he
  ·cases he;rw[Kd,hz]
  ·cases he
 have bI:(c.add (.arr 0 (e,ei.size) (List.replicate a.toNat zd)) b.toNat (.cells (madeCells z.cells (b.toNat*ti.size)) e)).own c.heap.length=some (c.w.heap.size,b.toNat):=by simp[Cx.add]
 have kB:(c.add (.arr 0 (e,ei.size) (List.replicate a.toNat zd)) b.toNat (.cells (madeCells z.cells (b.toNat*ti.size)) e)).heap[c.heap.length]?=some (.arr 0 (e,ei.size) (List.replicate a.toNat zd)):=by simp[Cx.add]
 refine⟨_,.slice (some ⟨c.w.heap.size,0,none⟩) a.toNat b.toNat,.inl ?_,rfl,k2 ⟨cB,dM,.inr ⟨c.w.heap.size,b.toNat,madeCells z.cells (b.toNat*ti.size),bI,heap_alloc_new _ _,by rw[size_madeCells,q3],by simp;omega,oF (by omega),?_⟩⟩,?_,k1⟩
 ·simp only[execOp,h1,e1,e2,Sem.run_bind,hr,Result.andThen_ok,Sem.run_pure];rfl
 ·intro i' j2 e' x he hx;have lj:j2<ei.size:=by rw[<- dM i' e' he];exact aX hx
  rw[List.getElem?_replicate]at he;split at he
  ·rename_i ai;cases he;rw[Kd]at hx;have su:i'*ei.size+j2<b.toNat*ti.size:=by
    rw[<- q3];have:(i'+1)*ei.size<=b.toNat*ei.size:=Nat.mul_le_mul_right _ (by omega);rw[Nat.add_mul,Nat.one_mul]at this;omega
   have wC:(i'*ei.size+j2) % ei.size=j2:=by rw[Nat.mul_comm,Nat.mul_add_mod,Nat.mod_eq_of_lt lj]
   have bW:(madeCells z.cells (b.toNat*ti.size))[i'*ei.size+j2]?=some (zs[j2]'(by omega)):=by
    simp[madeCells,su,gN,l4,wC,lj]
   have fV:=fT.pA j2 x (zs[j2]'(by omega)) hx (by simp[l4,lj]);exact⟨_,bW,yw fV (mP x (List.mem_of_getElem? hx)),k1.vd fV⟩
  ·cases he
 ·have:=VR.own (c:=c.add (.arr 0 (e,ei.size) (List.replicate a.toNat zd)) b.toNat (.cells (madeCells z.cells (b.toNat*ti.size)) e)) c.heap.length 0 (e,ei.size) _ c.w.heap.size b.toNat kB bI;rw[List.length_replicate]at this;exact this
theorem SG(hE:E.OK){o:Op}{stop:Prop}{k:AV->List af->Prop}(H:nJ E.T E.G o s h stop k):stop\/∃ v h',k v h'/\aQ E o s h v h':=by
 unfold nJ at H;split at H
 ·rename_i args kC;rcases J5 H with h|⟨x,y,hx,H⟩
  ·exact .inl h
  rcases J5 H with h|⟨t0,t1,ht,H⟩
  ·exact .inl h
  rcases bl H with h|⟨i0,fU,H⟩
  ·exact .inl h
  rcases bl H with h|⟨i1,jb,H⟩
  ·exact .inl h
  split at H
  ·rename_i e dh;rcases bl H with h|⟨ei,cd,H⟩
   ·exact .inl h
   split at H
   ·rename_i q1 q2 q3;rcases cM H with h|⟨a,ha,H⟩
    ·exact .inl h
    rcases cM H with h|⟨b,hb,H⟩
    ·exact .inl h
    have fin:∀ (m:List DV),(∀ k,i1.k ≠ .int k)->((∀ e∈m,e.cells.length=ei.size)->∀ (c:Cx) (v:Value),VR c b v->∃ news:List Value,Src E.P ei.size c.w v m.length news/\(∀ (j:Nat) (y:DV) (v:Value),(flat m)[j]?=some y->news[j]?=some v->VD c.bad c.w y v)) ->
      BD e ei h a m stop k->stop\/∃ v h',k v h'/\aQ E (.call { callee := .builtin .append,args:=args,argTypes:=kC }) s h v h':=by
     intro m dU BG H;have gen:=fun{r h'} (hm:∀ e∈m,e.cells.length=ei.size) EP=>EO (h:=h) (r:=r) (h':=h') hE hx ht fU jb dh dU cd (Nat.eq_of_beq_eq_true q1) (iz q2) (Nat.le_of_ble_eq_true q3) hb hm (BG hm) ha EP;unfold BD at H;split at H
     ·obtain⟨⟨h1,h2⟩,H⟩:=nH H;rw[nD,Nat.zero_add]at H;exact .inr ⟨_,_,H,gen h2 (.inr ⟨rfl,h1,rfl,rfl⟩)⟩
     ·rcases bl H with h|⟨bx,iw,H⟩
      ·exact .inl h
      split at H
      ·split at H
       ·rename_i p1 p2 p3;have p1:=Nat.eq_of_beq_eq_true p1;subst p1;obtain⟨⟨h1,h2⟩,H⟩:=nH H;rw[gL]at H;exact .inr ⟨_,_,H,gen h2 (.inl ⟨_,_,_,_,rfl,iw,Nat.eq_of_beq_eq_true p2,Nat.eq_of_beq_eq_true p3,h1,rfl,rfl⟩)⟩
       ·exact .inl H
      ·exact .inl H
     ·exact .inl H
    split at H
    ·rename_i e' m dU;exact fin m (fun k hk=>by rw[dU]at hk;cases hk) (fun hm c v hv=>by cases hv with|d _ _ hv=>exact BE (iz q2) hm hv) H
    ·rename_i z dU;split at H
     ·refine fin (z.map nI) (fun k hk=>by rw[dU]at hk;cases hk) (fun hm c v hv=>?_) H;have iv:=pz hv;subst iv;by_cases hz:z=[]
      ·subst hz;exact⟨[],⟨fun _=>by simp[Builtin.lenOf,ByteArray.size],fun d=>by simp[Builtin.firstCells],fun v hv=>by simp at hv,by simp⟩,fun j y v hy=>by simp[flat]at hy⟩
      ·obtain⟨b0,r,hr⟩:=List.exists_cons_of_ne_nil hz;have h1:1=ei.size:=hm (nI b0) (by rw[hr];simp);rw[<- h1];exact⟨_,J7.1,(J7 (P:=E.P)).2⟩
     ·exact .inl H
    ·exact .inl H
   ·exact .inl H
  ·exact .inl H
 ·rcases bl H with h|⟨i,hi,H⟩
  ·exact .inl h
  split at H
  ·rename_i e hk;rcases bl H with h|⟨ei,cd,H⟩
   ·exact .inl h
   split at H
   ·rename_i q1 q2 q3 q4;rcases cM H with h|⟨a,ha,H⟩
    ·exact .inl h
    split at H
    ·rcases cM H with h|⟨b,hb,H⟩
     ·exact .inl h
     split at H
     ·split at H
      ·rename_i z jP;obtain⟨⟨h1,h2,h3⟩,H⟩:=nH H;rw[nD,Nat.zero_add]at H;have gN:z.fm=true:=by rw[jP]at q4;simpa using q4
       exact .inr ⟨_,_,H,Kc hE hi hk cd (Nat.eq_of_beq_eq_true q1) (iz q2) (Nat.le_of_ble_eq_true q3) (fun y hy=>List.all_eq_true.1 q4 y hy) ha hb h1 h2 h3 (zd:=z) (by rw[jP];cases z<;>first|rfl|cases gN)⟩
      ·obtain⟨⟨h1,h2,h3⟩,H⟩:=nH H;rw[nD,Nat.zero_add]at H;exact .inr ⟨_,_,H,Kc hE hi hk cd (Nat.eq_of_beq_eq_true q1) (iz q2) (Nat.le_of_ble_eq_true q3) (fun y hy=>List.all_eq_true.1 q4 y hy) ha hb h1 h2 h3 rfl⟩
     ·exact .inl H
    ·exact .inl H
   ·exact .inl H
  ·exact .inl H
 ·exact .inl H
end
end Go.aA
end
section
namespace Go.aA
open Go Go.RowKit
@[irreducible] def sx (l : List DV) (sz : Nat) (n : Int) (K : DV -> Prop) : Prop := ∃ e, 0 <= n /\ l[n.toNat]? = some e /\ e.cells.length = sz /\ K e
theorem fu{l:List DV}{sz:Nat}{n:Int}{K:DV->Prop}(e:DV)(h0:0<=n)(he:l[n.toNat]?=some e)(hs:e.cells.length=sz)(k:K e):sx l sz n K:=by unfold sx;exact⟨e,h0,he,hs,k⟩
theorem ER{l:List DV}{sz:Nat}{n:Int}{K:DV->Prop}(h:sx l sz n K):∃ e,0<=n/\l[n.toNat]?=some e/\e.cells.length=sz/\K e:=by unfold sx at h;exact h
@[irreducible] def yT (s : List UInt8) (n : Int) (K : UInt8 -> Prop) : Prop := ∃ b, 0 <= n /\ s[n.toNat]? = some b /\ K b
theorem uv{s:List UInt8}{n:Int}{K:UInt8->Prop}(b:UInt8)(h0:0<=n)(hb:s[n.toNat]?=some b)(k:K b):yT s n K:=by unfold yT;exact⟨b,h0,hb,k⟩
theorem SH{s:List UInt8}{n:Int}{K:UInt8->Prop}(h:yT s n K):∃ b,0<=n/\s[n.toNat]?=some b/\K b:=by unfold yT at h;exact h
@[irreducible] def yU (c : List DV) (len sz : Nat) (n : Int) (K : DV -> Prop) : Prop := ∃ e, 0 <= n /\ n < len /\ 0 < sz /\ (c.drop (n.toNat * sz)).take sz = e.cells /\ e.cells.length = sz /\ K e
theorem SI{c:List DV}{len sz:Nat}{n:Int}{K:DV->Prop}(e:DV)(h0:0<=n)(h1:n<len)(hz:0<sz)(he:(c.drop (n.toNat*sz)).take sz=e.cells)(hs:e.cells.length=sz)(k:K e):yU c len sz n K:=by unfold yU;exact⟨e,h0,h1,hz,he,hs,k⟩
theorem SJ{c:List DV}{len sz:Nat}{n:Int}{K:DV->Prop}(h:yU c len sz n K):∃ e,0<=n/\n<len/\0<sz/\(c.drop (n.toNat*sz)).take sz=e.cells/\e.cells.length=sz/\K e:=by unfold yU at h;exact h
def BH(G:List (Nat × DV))(s:List AV)(x:Option Operand)(stop:Prop)(k:Option Int->Prop):Prop :=
 match x with
 |none=>k none
 |some x=>cL G s x stop fun
  | .d (.int _ n)=>k (some n)
  |_=>stop
def BI(e:DV)(off:Nat)(ds:List DV)(stop:Prop)(k:DV->Prop):Prop :=
 match e with
 | .agg c=>match Nat.ble (off+ds.length) c.length with
  |true=>we c off ds fun c'=>k (.agg c')
  |false=>stop
 |_=>match off,ds with
  |0,[d]=>match d.fm with
   |true=>k d
   |false=>stop
  |_,_=>stop
def ES(e:DV)(off:Nat)(vs:List AV)(stop:Prop)(k:DV->Prop):Prop:=mL vs stop fun ds=>BI e off ds stop k
def l9(T:List bD)(G:List (Nat × DV))(o:Op)(s:List AV)(h:List af)(stop:Prop)(k:AV->List af->Prop):Prop :=
 match o with
 | .indexAddr t x i=>aZ T t stop fun ti=>cL G s x stop fun a=>cL G s i stop fun
  | .d (.int _ n)=>match ti.k with
   | .slice e=>aZ T e stop fun ei=>match a with
    | .d (.sl l)=>match Nat.blt 0 ei.size with
     |true=>sx l ei.size n fun e=>k (.b9 e 0) h
     |false=>stop
    | .own b g=>aZ h b stop fun
     | .arr g' ts l=>match Nat.beq g g',Nat.beq ts.2 ei.size with
      |true,true=>need (0<=n/\n<l.length) (k (.cD b g n.toNat 0) h)
      |_,_=>stop
     |_=>stop
    |_=>stop
   | .array len e=>aZ T e stop fun ei=>match a with
    | .b9 (.agg c) 0=>yU c len ei.size n fun e'=>k (.b9 e' 0) h
    |_=>stop
   |_=>stop
  |_=>stop
 | .index t x i=>aZ T t stop fun ti=>cL G s x stop fun a=>cL G s i stop fun
  | .d (.int _ n)=>match ti.k,a with
   | .string,.d (.str l)=>yT l n fun b=>k (.d (.int .u8 b.toNat)) h
   |_,_=>stop
  |_=>stop
 | .slice t x lo hi none=>aZ T t stop fun ti=>cL G s x stop fun a=>BH G s lo stop fun l=>BH G s hi stop fun u=>match ti.k,a with
  | .string,.d (.str z)=>need (0<=l.getD 0/\l.getD 0<=u.getD z.length/\u.getD z.length<=z.length) (k (.d (.str ((z.take (u.getD z.length).toNat).drop (l.getD 0).toNat))) h)
  | .slice e,.d (.sl z)=>aZ T e stop fun ei=>need (0<=l.getD 0/\l.getD 0<=u.getD z.length/\u.getD z.length<=z.length/\∀ e∈z,e.cells.length=ei.size) (k (.d (.sl ((z.take (u.getD z.length).toNat).drop (l.getD 0).toNat))) h)
  |_,_=>stop
 | .load t x=>aZ T t stop fun ti=>cL G s x stop fun
  | .cD b g i off=>aZ h b stop fun
   | .arr g' ts l=>match Nat.beq g g' with
    |true=>sx l ts.2 i fun e=>match e with
     | .agg c=>ov .d c fun c'=>k8 ti c' off stop fun v=>k v h
     |e=>k8 ti [.d e] off stop fun v=>k v h
    |false=>stop
   |_=>stop
  |_=>stop
 | .store t x y=>aZ T t stop fun ti=>cL G s y stop fun v=>cL G s x stop fun
  | .cD b g i off=>aZ h b stop fun
   | .arr g' ts l=>match Nat.beq g g' with
    |true=>wh v stop fun vs=>match Nat.beq vs.length ti.size,vs.all AV.fm with
     |true,true=>sx l ts.2 i fun e=>ES e off vs stop fun e'=>fL h b (.arr g ts (l.set i e')) fun h'=>k (.d .undef) h'
     |_,_=>stop
    |false=>stop
   |_=>stop
  |_=>stop
 |o=>nJ T G o s h stop k
section
variable {E:Env} {s:List AV} {h:List af} {c:Cx}
theorem BJ{P:Program}{t e:Nat}{i ei:bD}(ht:eI P t=some i)(SK:eI P e=some ei)(hk:i.k=.slice e){j:IntKind}{n:Int}{b o len cap:Nat}{w:World}(h0:0<=n)(h1:n<len) :
  (Instr.indexAt t (.slice (some ⟨b,o,none⟩) len cap) (.int j n)).run P w=.ok (.pointer (some ⟨b,o+n.toNat*ei.size,none⟩)) w:=by
 obtain⟨ti,d,g1,g2,g3,-⟩:=cO ht;obtain rfl:=lZ (hk.symm.trans g3);simp only[Instr.indexAt,asIntOf,Sem.run_bind,Sem.run_pure,Result.andThen_ok,run_underlying g2,h0,h1,and_self,if_true,run_sizeOf SK,k9]
theorem wF{P:Program}{o:Oper}{ac:Act}{w:World}{t:Nat}{x i:Operand}{v:Value}(h1:o.op=.indexAddr t x i)(hr:(Instr.indexAt t (ac.eval x) (ac.eval i)).run P w=.ok v w):(execOp ac.eval o).run P w=.ok (.value v) w:=by
 simp only[execOp,h1,Sem.run_bind,hr,Result.andThen_ok,Sem.run_pure]
theorem SL{l:List DV}{v:Value}(hv:VR c (.d (.sl l)) v){n sz:Nat}{e:DV}(he:l[n]?=some e)(hs:e.cells.length=sz)(cB:0<sz):∃ blk off cap,v=.slice (some ⟨blk,off,none⟩) l.length cap/\VR c (.b9 e 0) (.pointer (some ⟨blk,off+n*sz,none⟩)):=by
 cases hv with
 |d _ _ hd=>cases hd with
  |slnil=>simp at he
  |kZ=>simp at he
  |sl _ blk off cap dB f hb bS jm hlen dP bW cj =>
   obtain rfl:dB=sz:=(hlen n e he).symm.trans hs;refine⟨blk,off,cap,rfl,?_⟩;have aH:l≠[]:=fun h0=>by subst h0;simp at he
   have:=VR.b9 (c:=c) e 0 blk (off+n*dB) (fun j=>f n j) (hb aH) (fun h0=>by rw[h0]at hs;simp at hs;omega) (fun j x hx=>by rw[Nat.add_assoc];exact dP n j e x he hx) (fun j x hx=>bW n j e x he hx);exact this
theorem SM(hE:E.OK){t e:Nat}{x i:Operand}{ti ei:bD}(cm:E.T[t]?=some ti)(cd:E.T[e]?=some ei)(hk:ti.k=.slice e){l:List DV}{j:IntKind}{n:Int}(hx:bh E.G s x (.d (.sl l)))(hi:bh E.G s i (.d (.int j n)))(cB:0<ei.size){y:DV}(h0:0<=n)(hy:l[n.toNat]?=some y)(hs:y.cells.length=ei.size) :
  aQ E (.indexAddr t x i) s h (.b9 y 0) h := .quiet fun o c ac h1 _ h3 h4=>by
 obtain⟨blk,off,cap,e1,e2⟩:=SL (hx c ac h3 h4) hy hs cB;refine⟨_,wF h1 ?_,e2⟩;rw[e1,gj (hi c ac h3 h4)];have:=aX hy;exact BJ (hE.types t ti cm) (hE.types e ei cd) hk h0 (by omega)
theorem Ke{b g i off:Nat}{ts:Nat × Nat}{l:List DV}(hb:c.heap[b]?=some (.arr g ts l)){v:Value}(hv:VR c (.cD b g i off) v):∃ blk cap,c.own b=some (blk,cap)/\v=.pointer (some ⟨blk,i*ts.2+off,none⟩)/\i<l.length:=by
 cases hv with
 |cD _ _ _ _ _ l' blk cap k1 k2 k3=>rw[hb]at k1;cases k1;exact⟨blk,cap,k2,rfl,k3⟩
 |lW _ _ g' _ _ _ _ _ k1 k2 _=>rw[hb]at k1;cases k1;omega
 |lX _ _ _ _ _ k1 _=>rw[hb]at k1;cases k1
theorem SN(hE:E.OK){t e:Nat}{x i:Operand}{ti ei:bD}(cm:E.T[t]?=some ti)(cd:E.T[e]?=some ei)(hk:ti.k=.slice e){b g:Nat}{ts:Nat × Nat}{l:List DV}(hb:h[b]?=some (.arr g ts l))(mT:ts.2=ei.size){j:IntKind}{n:Int}(hx:bh E.G s x (.own b g))(hi:bh E.G s i (.d (.int j n)))(h0:0<=n)(h1:n<l.length) :
  aQ E (.indexAddr t x i) s h (.cD b g n.toNat 0) h := .quiet fun o c ac e1 e2 h3 h4=>by
 subst e2;rcases nK hb (hx c ac h3 h4)with⟨blk,cap,q1,q2⟩|⟨rfl,-,-⟩
 ·refine⟨_,wF e1 (v := .pointer (some ⟨blk,0+n.toNat*ei.size,none⟩)) ?_,?_⟩
  ·rw[q2,gj (hi c ac h3 h4)];exact BJ (hE.types t ti cm) (hE.types e ei cd) hk h0 h1
  ·have:=VR.cD (c:=c) b g n.toNat 0 ts l blk cap hb q1 (by omega);rw[mT]at this
   simpa using this
 ·simp at h1;omega
theorem SO(hE:E.OK){t e len:Nat}{x i:Operand}{ti ei:bD}(cm:E.T[t]?=some ti)(cd:E.T[e]?=some ei)(hk:ti.k=.array len e){cs:List DV}{j:IntKind}{n:Int}(hx:bh E.G s x (.b9 (.agg cs) 0))(hi:bh E.G s i (.d (.int j n))){y:DV}(h0:0<=n)(h1:n<len)(cB:0<ei.size)(hy:(cs.drop (n.toNat*ei.size)).take ei.size=y.cells)(hs:y.cells.length=ei.size) :
  aQ E (.indexAddr t x i) s h (.b9 y 0) h := .quiet fun o c ac e1 _ h3 h4=>by
 obtain⟨nN,d,g1,g2,g3,-⟩:=cO (hE.types t ti cm);obtain rfl:=yz (hk.symm.trans g3);have key:∀ p,VR c (.b9 (.agg cs) 0) p->∃ blk o',p=.pointer (some ⟨blk,o',none⟩)/\VR c (.b9 y 0) (.pointer (some ⟨blk,o'+n.toNat*ei.size,none⟩)):=fun p hp=>by
  cases hp with
  |b9 _ _ blk o' f k1 k2 k3 k4 =>
   have eV:∀ (jj:Nat) (z:DV),y.cells[jj]?=some z->cs[n.toNat*ei.size+jj]?=some z:=fun jj z hz=>by
    rw[<- hy,List.getElem?_take]at hz;split at hz
    ·simpa using hz
    ·cases hz
   exact⟨blk,o'+0,rfl,VR.b9 y 0 blk (o'+0+n.toNat*ei.size) (fun jj=>f (n.toNat*ei.size+jj)) k1 (fun hh=>by rw[hh]at hs;simp at hs;omega) (fun jj z hz=>by rw[Nat.add_zero,Nat.add_assoc];exact k3 _ z (eV jj z hz)) (fun jj z hz=>k4 _ z (eV jj z hz))⟩
 obtain⟨blk,o',q1,q2⟩:=key _ (hx c ac h3 h4);refine⟨_,wF e1 ?_,q2⟩;rw[q1,gj (hi c ac h3 h4)];simp only[Instr.indexAt,asIntOf,Sem.run_bind,Sem.run_pure,Result.andThen_ok,run_underlying g2,Instr.sureAddr,h0,h1,and_self,if_true,run_sizeOf (hE.types e ei cd),k9]
theorem SP(hE:E.OK){t:Nat}{x i:Operand}{ti:bD}(cm:E.T[t]?=some ti)(hk:ti.k=.string){l:List UInt8}{j:IntKind}{n:Int}(hx:bh E.G s x (.d (.str l)))(hi:bh E.G s i (.d (.int j n))){b:UInt8}(h0:0<=n)(hb:l[n.toNat]?=some b) :
  aQ E (.index t x i) s h (.d (.int .u8 b.toNat)) h := .quiet fun o c ac e1 _ h3 h4=>by
 obtain⟨nN,d,g1,g2,g3,-⟩:=cO (hE.types t ti cm);obtain rfl:=sq (hk.symm.trans g3);have ai:=aX hb;have eV:(ByteArray.mk l.toArray)[n.toNat]?=some b:=by
  have hs:n.toNat<(ByteArray.mk l.toArray).size:=by simpa [ByteArray.size]using ai
  rw[getElem?_pos (ByteArray.mk l.toArray) n.toNat hs];have:=List.getElem?_eq_getElem ai;rw[hb]at this
  simpa [ByteArray.getElem_eq_getElem_data]using this.symm
 refine⟨.int .u8 b.toNat,?_,.d _ _ (.int _ _)⟩;simp only[execOp,e1,pz (hx c ac h3 h4),gj (hi c ac h3 h4),Instr.index,asIntOf,Sem.run_bind,Sem.run_pure,Result.andThen_ok,run_underlying g2,h0,if_true,eV]
def yV(G:List (Nat × DV))(s:List AV)(x:Option Operand)(n:Option Int):Prop:=∀ (c:Cx) (a:Act),aD G c->VS c s a.tmps->match n with
 |none=>x.map a.eval=none
 |some n=>∃ j,x.map a.eval=some (.int j n)
theorem Kg{x:Option Operand}{stop:Prop}{k:Option Int->Prop}(H:BH E.G s x stop k):stop\/∃ n,yV E.G s x n/\k n:=by
 unfold BH at H;split at H
 ·exact .inr ⟨none,fun _ _ _ _=>rfl,H⟩
 ·rcases cM H with h|⟨v,hv,H⟩
  ·exact .inl h
  split at H
  ·rename_i j n;refine .inr ⟨some n,fun c a h1 h2=>?_,H⟩;show ∃ j,_=some (Value.int j n);exact⟨j,by simp[gj (hv c a h1 h2)]⟩
  ·exact .inl H
theorem ET{P:Program}{w:World}{isSlice:Bool}{len cap:Nat}{lo hi:Option Value}{l u:Option Int}(hl:match l with|none=>lo=none|some n=>∃ j,lo=some (.int j n))(hu:match u with|none=>hi=none|some n=>∃ j,hi=some (.int j n))
  (h0:0<=l.getD 0) (h1:l.getD 0<=u.getD len) (h2:u.getD len<=len) (hc:len<=cap) :
  (Instr.sliceBounds isSlice len cap lo hi none).run P w=.ok ((l.getD 0).toNat,(u.getD len).toNat,cap) w:=by
 cases l with
 |none =>
  simp only at hl;subst hl;cases u with
  |none =>
   simp only at hu;subst hu;simp only[Instr.sliceBounds,Sem.run_bind,Sem.run_pure,Result.andThen_ok,Option.getD_none,Int.toNat_natCast,Int.toNat_zero]
  |some n =>
   obtain⟨j,rfl⟩:=hu;simp only[Option.getD_some,Option.getD_none]at h1 h2;simp only[Instr.sliceBounds,Sem.run_bind,Sem.run_pure,Result.andThen_ok,Option.getD_none,Option.getD_some,Int.toNat_zero,run_sliceBound w j n cap _ h1 (by omega)]
 |some m =>
  obtain⟨i,rfl⟩:=hl;cases u with
  |none =>
   simp only at hu;subst hu;simp only[Option.getD_some,Option.getD_none]at h0 h1;simp only[Instr.sliceBounds,Sem.run_bind,Sem.run_pure,Result.andThen_ok,Option.getD_none,Option.getD_some,Int.toNat_natCast,run_sliceBound w i m len _ h0 h1]
  |some n =>
   obtain⟨j,rfl⟩:=hu;simp only[Option.getD_some]at h0 h1 h2;simp only[Instr.sliceBounds,Sem.run_bind,Sem.run_pure,Result.andThen_ok,Option.getD_some,run_sliceBound w j n cap _ (by omega) (by omega),run_sliceBound w i m n.toNat _ h0 (by omega)]
theorem SQ(l:List UInt8)(a b:Nat):(ByteArray.mk l.toArray).extract a b=ByteArray.mk ((l.take b).drop a).toArray:=by
 apply ByteArray.ext;simp[List.extract_eq_take_drop,List.drop_take]
theorem SR(hE:E.OK){t:Nat}{x:Operand}{lo hi:Option Operand}{ti:bD}(cm:E.T[t]?=some ti)(hk:ti.k=.string){z:List UInt8}{l u:Option Int}(hx:bh E.G s x (.d (.str z)))(hl:yV E.G s lo l)(hu:yV E.G s hi u)
  (h0:0<=l.getD 0) (h1:l.getD 0<=u.getD z.length) (h2:u.getD z.length<=z.length):aQ E (.slice t x lo hi none) s h (.d (.str ((z.take (u.getD z.length).toNat).drop (l.getD 0).toNat))) h := .quiet fun o c ac e1 _ h3 h4=>by
 obtain⟨nN,d,g1,g2,g3,-⟩:=cO (hE.types t ti cm);obtain rfl:=sq (hk.symm.trans g3);have bS:(ByteArray.mk z.toArray).size=z.length:=by simp[ByteArray.size]
 have hb:=ET (P:=E.P) (w:=c.w) (isSlice:=false) (len:=z.length) (cap:=z.length) (hl c ac h3 h4) (hu c ac h3 h4) h0 h1 h2 (Nat.le_refl _);refine⟨_,?_,.d _ _ (.str _)⟩;simp only[execOp,e1,pz (hx c ac h3 h4),Instr.sliceAt,Instr.slice,Sem.run_bind,Sem.run_pure,Result.andThen_ok,run_underlying g2,Option.map_none,Option.isSome_none,Bool.false_eq_true,if_false,bS,hb,SQ]
theorem SS{bad:Nat->Prop}{w:World}{z:List DV}{v:Value}(hv:VD bad w (.sl z) v){lo hi sz:Nat}(h1:lo<=hi)(h2:hi<=z.length)(bS:∀ e∈z,e.cells.length=sz):∃ a cap,v=.slice a z.length cap/\z.length<=cap/\VD bad w (.sl ((z.take hi).drop lo)) (.slice (if cap=lo then a else a.map (·.add (lo*sz))) (hi-lo) (cap-lo)):=by
 have hlen:((z.take hi).drop lo).length=hi-lo:=by simp;omega
 cases hv with
 |slnil =>
  simp at h2;subst h2;simp at h1;subst h1;exact⟨none,0,rfl,Nat.le_refl _,by simpa using VD.slnil⟩
 |kZ a =>
  simp at h2;subst h2;simp at h1;subst h1;exact⟨some a,0,rfl,Nat.le_refl _,by simpa using VD.kZ a⟩
 |sl _ blk off cap dB f hb BF jm lk dP bW cj =>
  refine⟨some ⟨blk,off,none⟩,cap,rfl,jm,?_⟩;by_cases hc:cap=lo
  ·have:hi=lo:=by omega
   subst this;have e:(z.take hi).drop hi=[]:=by simp
   rw[e,if_pos hc,Nat.sub_self];exact .sl [] blk off (cap-hi) dB f (fun h=>absurd rfl h) BF (Nat.zero_le _) (fun i e he=>by simp at he) (fun i j e x he=>by simp at he) (fun i j e x he=>by simp at he) (fun i j e x he=>by simp at he)
  ·rw[if_neg hc,<- hlen];simp only[Option.map_some,k9];have eV:∀ (i:Nat) (e:DV),((z.take hi).drop lo)[i]?=some e->z[lo+i]?=some e:=fun i e he=>by
    simp only[List.getElem?_drop,List.getElem?_take]at he;split at he
    ·exact he
    ·cases he
   by_cases aH:(z.take hi).drop lo=[]
   ·rw[aH];exact .sl [] blk _ (cap-lo) dB f (fun h=>absurd rfl h) BF (Nat.zero_le _) (fun i e he=>by simp at he) (fun i j e x he=>by simp at he) (fun i j e x he=>by simp at he) (fun i j e x he=>by simp at he)
   ·obtain⟨e0,r,hr⟩:=List.exists_cons_of_ne_nil aH;have EU:=eV 0 e0 (by rw[hr];rfl);have ky:dB=sz:=(lk _ _ EU).symm.trans (bS e0 (List.mem_of_getElem? EU));subst ky;refine .sl _ blk (off+lo*dB) (cap-lo) dB (fun i j=>f (lo+i) j) (fun _=>hb (fun h=>by subst h;simp at EU)) BF (by rw[hlen];omega) (fun i e he=>lk _ _ (eV i e he)) (fun i j e x he hx=>?_) (fun i j e x he hx=>bW _ _ _ _ (eV i e he) hx) (fun i j e x he hx=>cj _ _ _ _ (eV i e he) hx);have:=dP _ _ _ _ (eV i e he) hx;rw[Nat.add_mul]at this;rw[show off+lo*dB+(i*dB+j)=off+(lo*dB+i*dB+j) by omega];exact this
theorem SU(hE:E.OK){t e:Nat}{x:Operand}{lo hi:Option Operand}{ti ei:bD}(cm:E.T[t]?=some ti)(cd:E.T[e]?=some ei)(hk:ti.k=.slice e){z:List DV}{l u:Option Int}(hx:bh E.G s x (.d (.sl z)))(hl:yV E.G s lo l)(hu:yV E.G s hi u)
  (h0:0<=l.getD 0) (h1:l.getD 0<=u.getD z.length) (h2:u.getD z.length<=z.length) (bS:∀ e∈z,e.cells.length=ei.size):aQ E (.slice t x lo hi none) s h (.d (.sl ((z.take (u.getD z.length).toNat).drop (l.getD 0).toNat))) h := .quiet fun o c ac e1 _ h3 h4=>by
 obtain⟨nN,d,g1,g2,g3,-⟩:=cO (hE.types t ti cm);obtain rfl:=lZ (hk.symm.trans g3);have hv:=hx c ac h3 h4;generalize SV:ac.eval x=v at hv;cases hv with
 |d _ _ hv =>
  obtain⟨a,cap,rfl,jm,hd⟩:=SS hv (lo:=(l.getD 0).toNat) (hi:=(u.getD z.length).toNat) (by omega) (by omega) bS;have hb:=ET (P:=E.P) (w:=c.w) (isSlice:=true) (len:=z.length) (cap:=cap) (hl c ac h3 h4) (hu c ac h3 h4) h0 h1 h2 jm;refine⟨_,?_,.d _ _ hd⟩;simp only[execOp,e1,SV,Instr.sliceAt,Instr.slice,Sem.run_bind,Sem.run_pure,Result.andThen_ok,run_underlying g2,Option.map_none,hb,run_sizeOf (hE.types e ei cd)]
theorem aD.elem{G:List (Nat × DV)}(ho:aD G c){b g:Nat}{ts:Nat × Nat}{l:List DV}(hb:c.heap[b]?=some (.arr g ts l)){blk cap:Nat}(bI:c.own b=some (blk,cap)){i:Nat}{e:DV}(he:l[i]?=some e) :
  ∃ (vs:Array Value) (us:List Value),c.w.heap[blk]?=some (.cells vs ts.1 (0,0))/\us.length=ts.2/\Bs c.w blk (i*ts.2) us/\VL c (e.cells.map .d) us/\i*ts.2+ts.2<=vs.size:=by
 obtain⟨q0,q1,q2⟩:=ho.box b _ hb;rcases q2 with⟨q2,-⟩|⟨la,jN,vs,q2,q3,q4,q5,q6,q7⟩
 ·rw[bI]at q2;cases q2
 ·rw[bI]at q2;cases q2;have hlen:=q1 i e he;have hi:=aX he;have eJ:i*ts.2+ts.2<=vs.size:=by
   rw[q4]
   calc i*ts.2+ts.2=(i+1)*ts.2:=by rw[Nat.add_mul,Nat.one_mul]
    _<=cap*ts.2:=Nat.mul_le_mul_right _ (by omega)
  refine⟨vs,(vs.toList.drop (i*ts.2)).take ts.2,q3,by simp;omega,fun j v hv=>?_,.tW (by simp[hlen];omega) (fun j x v hx hv=>?_),eJ⟩
  ·rw[List.getElem?_take]at hv;split at hv
   ·rw[List.getElem?_drop]at hv;have:=mM q3 (i*ts.2+j) v hv
    simpa using this
   ·cases hv
  ·obtain⟨u,k1,-,k2⟩:=q7 i j e x he hx;rw[List.getElem?_take]at hv;split at hv
   ·rw[List.getElem?_drop]at hv;have:vs[i*ts.2+j]?=some v:=by simpa using hv
    rw[k1]at this;cases this;exact k2
   ·cases hv
theorem Kh(hE:E.OK){t:Nat}{x:Operand}{ti:bD}(cm:E.T[t]?=some ti){b g i off:Nat}{ts:Nat × Nat}{l:List DV}(hb:h[b]?=some (.arr g ts l))(hx:bh E.G s x (.cD b g i off)){e:DV}(he:l[i]?=some e){stop:Prop}{k:AV->Prop}{cs:List AV}(ln:cs=e.cells.map .d)(H:k8 ti cs off stop k) :
  stop\/∃ v,k v/\aQ E (.load t x) s h v h:=by
 rcases Bt H with h1|⟨v,hk,hp⟩
 ·exact .inl h1
 refine .inr ⟨v,hk,.quiet fun o c ac h1 h2 h3 h4=>?_⟩;subst h2;obtain⟨blk,cap,q1,q2,q3⟩:=Ke hb (hx c ac h3 h4);obtain⟨vs,us,r1,r2,r3,r4,r5⟩:=h3.elem hb q1 he;obtain⟨u,hu,qE⟩:=hp E.P t c blk (i*ts.2) us (hE.types t ti cm) (by rw[ln];exact r4) r3;refine⟨u,?_,qE⟩;simp only[execOp,h1,q2,Sem.run_bind,hu,Result.andThen_ok,Sem.run_pure]
theorem aD.SX{G:List (Nat × DV)}(ho:aD G c){b g blk cap:Nat}{ts:Nat × Nat}{l:List DV}{vs:Array Value}(hb:c.heap[b]?=some (.arr g ts l))(bI:c.own b=some (blk,cap))(hblk:c.w.heap[blk]?=some (.cells vs ts.1 (0,0)))
  {i off:Nat} {e e':DV} (he:l[i]?=some e) (hs:e'.cells.length=ts.2) {us:List Value} (eJ:off+us.length<=ts.2) (cj:∀ u∈us,u.oneCell'=true)
  (hv:∀ (j:Nat) (x:DV),e'.cells[j]?=some x->(off<=j/\∃ v,us[j-off]?=some v/\VD c.bad c.w x v)\/((j<off\/off+us.length<=j)/\e.cells[j]?=some x)) :
  let c':Cx:={ c with heap:=c.heap.set b (.arr g ts (l.set i e')),w:=c.w.setCells blk (i*ts.2+off) us }
  aD G c'/\Step c c':=by
 intro c';obtain⟨e1,e2,e3,e4⟩:=yx blk us (i*ts.2+off) c.w;have eu:b<c.heap.length:=(ho.bH b blk cap bI).2
 have aV:Step c c':={
  ak:=rfl
  bE:=ho.bE
  os:=e1
  tape:=e2
  output:=e3
  size:=Nat.le_of_eq e4.symm
  keep:=fun x _ hn=>tX blk us _ c.w x (fun e=>hn b cap (by rw[e];exact bI))
  dw:=fun i x n hi _=>⟨n,hi⟩
  boxes:=fun k bx hk=>by
   by_cases qQ:k=b
   ·subst qQ;rw[hb]at hk;cases hk;exact .inl ⟨g,l.set i e',by show(c.heap.set k _)[k]?=_;rw[List.getElem?_set_self eu],.inr ⟨rfl,by simp,rfl⟩⟩
   ·have h':c'.heap[k]?=some bx:=by show(c.heap.set b _)[k]?=_;rw[List.getElem?_set_ne (Ne.symm qQ)];exact hk
    cases bx with
    |cells cs=>exact .inl ⟨cs,h',rfl,rfl⟩
    |arr g sz l=>exact .inl ⟨g,l,h',.inr ⟨rfl,rfl,rfl⟩⟩
    |map es=>exact .inl ⟨es,h',rfl⟩
    |gone=>exact h' }
 refine⟨ho.next aV (fun k x n hk=>⟨by show x<(c.w.setCells blk _ us).heap.size;rw[e4];exact(ho.bH k x n hk).1,by show k<(c.heap.set b _).length;rw[List.length_set];exact(ho.bH k x n hk).2⟩) ho.inj (fun k bx hk=>?_),aV⟩;by_cases qQ:k=b
 ·subst qQ;have gu:(c.heap.set k (.arr g ts (l.set i e')))[k]?=some bx:=hk;rw[List.getElem?_set_self eu]at gu;cases gu;right;obtain⟨q0,q1,q2⟩:=ho.box k _ hb;rcases q2 with⟨q2,-⟩|⟨la,jN,cR,q2,q3,q4,q5,q6,q7⟩
  ·rw[bI]at q2;cases q2
  ·rw[bI]at q2;cases q2;rw[hblk]at q3;cases q3;have iX:=aX he;have yW:gP ts.2 (l.set i e'):=gP.set q1 i hs;refine⟨q0,yW,.inr ⟨blk,cap,(dD vs.toList (i*ts.2+off) us).toArray,bI,yy blk ts.1 (0,0) us _ c.w vs hblk,by simp[wj,q4],by simpa using q5,q6,fun i' j e2 x h2 hx=>?_⟩⟩;have hj:j<ts.2:=by rw[<- yW i' e2 h2];exact aX hx
   have eV:∀ (p:Nat),(dD vs.toList (i*ts.2+off) us)[p]?=if i*ts.2+off<=p/\p<i*ts.2+off+us.length/\p<vs.size then us[p-(i*ts.2+off)]? else vs[p]? := by
    intro p;have gen:∀ (us:List Value) (o:Nat) (q:List Value),(dD q o us)[p]?=if o<=p/\p<o+us.length/\p<q.length then us[p-o]? else q[p]? := by
     intro us
     induction us with
     |nil=>intro o q;rw[if_neg (by simp;omega)];rfl
     |cons u us ih =>
      intro o q;rw[dD,ih];by_cases hp:o=p
      ·subst hp;rw[if_neg (by omega)];by_cases hq:o<q.length
       ·rw[if_pos (by simp;omega),List.getElem?_set_self hq];simp
       ·rw[if_neg (by omega),List.getElem?_eq_none (by simp;omega),List.getElem?_eq_none (by omega)]
      ·by_cases hc:o+1<=p/\p<o+1+us.length/\p<q.length
       ·rw[if_pos (by simpa using hc),if_pos (by simp;omega)];rw[show p-o=(p-(o+1))+1 by omega];simp
       ·rw[if_neg (by simpa using hc),if_neg (by simp;omega),List.getElem?_set_ne hp]
    have:=gen us (i*ts.2+off) vs.toList
    simpa using this
   have ac7:i*ts.2+ts.2<=vs.size:=by
    rw[q4]
    calc i*ts.2+ts.2=(i+1)*ts.2:=by rw[Nat.add_mul,Nat.one_mul]
     _<=cap*ts.2:=Nat.mul_le_mul_right _ (by omega)
   show ∃ v,(dD vs.toList (i*ts.2+off) us).toArray[i'*ts.2+j]?=some v/\_;rw[List.getElem?_toArray,eV];by_cases EV:i'=i
   ·subst EV;rw[List.getElem?_set_self iX]at h2;cases h2;rcases hv j x hx with⟨k1,v,k2,k3⟩|⟨k1,k2⟩
    ·have:=aX k2;rw[if_pos (by omega)];exact⟨v,by rw[show i'*ts.2+j-(i'*ts.2+off)=j-off by omega];exact k2,cj v (List.mem_of_getElem? k2),aV.vd k3⟩
    ·rw[if_neg (by omega)];obtain⟨v,r1,r2,r3⟩:=q7 i' j e x he k2;exact⟨v,r1,r2,aV.vd r3⟩
   ·rw[List.getElem?_set_ne (Ne.symm EV)]at h2;obtain⟨v,r1,r2,r3⟩:=q7 i' j e2 x h2 hx;rw[if_neg ?_]
    ·exact⟨v,r1,r2,aV.vd r3⟩
    ·rintro⟨k1,k2,-⟩;rcases Nat.lt_or_gt_of_ne EV with ai|qR
     ·have:(i'+1)*ts.2<=i*ts.2:=Nat.mul_le_mul_right _ ai;rw[Nat.add_mul,Nat.one_mul]at this;omega
     ·have:(i+1)*ts.2<=i'*ts.2:=Nat.mul_le_mul_right _ qR;rw[Nat.add_mul,Nat.one_mul]at this;omega
 ·left;have gu:(c.heap.set b (.arr g ts (l.set i e')))[k]?=some bx:=hk;rw[List.getElem?_set_ne (Ne.symm qQ)]at gu;exact⟨gu,rfl,fun x n hn=>tX blk us _ c.w x (fun e=>qQ (ho.inj k b blk n cap (by rw[<- e];exact hn) bI))⟩
theorem SY{β:Type}(us:List β)(o:Nat)(q:List β)(p:Nat):(dD q o us)[p]?=if o<=p/\p<o+us.length/\p<q.length then us[p-o]? else q[p]? := by
 induction us generalizing o q with
 |nil=>rw[if_neg (by simp;omega)];rfl
 |cons u us ih =>
  rw[dD,ih];by_cases hp:o=p
  ·subst hp;rw[if_neg (by omega)];by_cases hq:o<q.length
   ·rw[if_pos (by simp;omega),List.getElem?_set_self hq];simp
   ·rw[if_neg (by omega),List.getElem?_eq_none (by simp;omega),List.getElem?_eq_none (by omega)]
  ·by_cases hc:o+1<=p/\p<o+1+us.length/\p<q.length
   ·rw[if_pos (by simpa using hc),if_pos (by simp;omega)];rw[show p-o=(p-(o+1))+1 by omega];simp
   ·rw[if_neg (by simpa using hc),if_neg (by simp;omega),List.getElem?_set_ne hp]
theorem Ki{e:DV}(h:e.fm=true):e.cells=[e]:=by cases e<;>first|rfl|cases h
def EW(e:DV)(off:Nat)(ds:List DV)(e':DV):Prop:=e'.cells.length=e.cells.length/\off+ds.length<=e.cells.length /\
 ∀ (j:Nat) (x:DV),e'.cells[j]?=some x->(off<=j/\ds[j-off]?=some x)\/((j<off\/off+ds.length<=j)/\e.cells[j]?=some x)
theorem SZ{e:DV}{off:Nat}{ds:List DV}{stop:Prop}{k:DV->Prop}(H:BI e off ds stop k):stop\/∃ e',k e'/\EW e off ds e':=by
 unfold BI at H;split at H
 ·rename_i cs;split at H
  ·rename_i q;rw[Ee]at H;have hq:=Nat.le_of_ble_eq_true q;refine .inr ⟨.agg (dD cs off ds),H,by simp[DV.cells,wj],hq,fun j x hx=>?_⟩;simp only[DV.cells]at hx;rw[SY]at hx;split at hx
   ·rename_i hc;exact .inl ⟨hc.1,hx⟩
   ·rename_i hc;refine .inr ⟨?_,hx⟩;have hj:=aX hx;omega
  ·exact .inl H
 ·rename_i tY;split at H
  ·rename_i d;split at H
   ·rename_i hd;have jR:e.cells=[e]:=by cases e<;>first|rfl|exact absurd rfl (tY _)
    refine .inr ⟨d,H,by rw[jR,Ki hd];rfl,by rw[jR];simp,fun j x hx => .inl ⟨Nat.zero_le _,by rw[Ki hd]at hx;simpa using hx⟩⟩
   ·exact .inl H
  ·exact .inl H
theorem S0{e:DV}{off:Nat}{vs:List AV}{stop:Prop}{k:DV->Prop}(H:ES e off vs stop k):stop\/∃ (ds:List DV) (e':DV),vs=ds.map .d/\k e'/\EW e off ds e':=by
 unfold ES at H;rcases tR vs stop (fun ds=>BI e off ds stop k)with⟨ds,h1,h2⟩|h2
 ·rw[h2]at H;rcases SZ H with h|⟨e',h3,h4⟩
  ·exact .inl h
  ·exact .inr ⟨ds,e',h1,h3,h4⟩
 ·rw[h2]at H;exact .inl H
theorem S1(hE:E.OK){t:Nat}{x y:Operand}{ti:bD}(cm:E.T[t]?=some ti){b g i off:Nat}{ts:Nat × Nat}{l:List DV}(hb:h[b]?=some (.arr g ts l))(hx:bh E.G s x (.cD b g i off)){v:AV}(hy:bh E.G s y v){ds:List DV}(hv:En v (ds.map .d))(bS:ds.length=ti.size)(S2:(ds.map AV.d).all AV.fm=true)
  {e e':DV} (he:l[i]?=some e) (kz:e.cells.length=ts.2) (hp:EW e off ds e'):aQ E (.store t x y) s h (.d .undef) (h.set b (.arr g ts (l.set i e'))):=fun o c ac h1 h2 h3 h4=>by
 subst h2;obtain⟨blk,cap,q1,q2,q3⟩:=Ke hb (hx c ac h3 h4);obtain⟨vs,us0,r1,r2,r3,r4,r5⟩:=h3.elem hb q1 he;obtain⟨us,pB,jO⟩:=hv c _ (hy c ac h3 h4);have hlen:us.length=ds.length:=by rw[<- jO.1];simp
 obtain⟨p1,p2,p3⟩:=hp;have cj:∀ u∈us,u.oneCell'=true:=fun u hu=>by
  obtain⟨j,hj,rfl⟩:=List.getElem_of_mem hu;have mN:j<(ds.map AV.d).length:=by rw[jO.1];exact hj
  exact Em (jO.2 j _ us[j] (List.getElem?_eq_getElem mN) (by simp[hj])) (List.all_eq_true.1 S2 _ (List.getElem_mem mN))
 have cV:=JF (P:=E.P) (w:=c.w) (b:=blk) (o:=i*ts.2+off) (hE.types t ti cm) pB (by omega) r1 (by omega) cj
 obtain⟨w1,w2⟩:=h3.SX (i:=i) (off:=off) (e':=e') (us:=us) hb q1 r1 he (by omega) (by omega) cj (fun j x hx=>by
  rcases p3 j x hx with⟨k1,k2⟩|⟨k1,k2⟩
  ·have ai:=aX k2;exact .inl ⟨k1,us[j-off]'(by omega),by simp[show j-off<us.length by omega],jO.pA (j-off) x _ k2 (by simp[show j-off<us.length by omega])⟩
  ·exact .inr ⟨by omega,k2⟩)
 refine⟨_,Go.undef,.inr ⟨?_,rfl⟩,rfl,w1,.d _ _ .undef,w2⟩;simp only[execOp,h1,q2,Sem.run_bind,cV,Result.andThen_ok,Sem.run_pure]
theorem S3(hE:E.OK){o:Op}{stop:Prop}{k:AV->List af->Prop}(H:l9 E.T E.G o s h stop k):stop\/∃ v h',k v h'/\aQ E o s h v h':=by
 unfold l9 at H;split at H
 ·
  rcases bl H with h|⟨ti,cm,H⟩
  ·exact .inl h
  rcases cM H with h|⟨a,ha,H⟩
  ·exact .inl h
  rcases cM H with h|⟨b,hb,H⟩
  ·exact .inl h
  split at H
  ·split at H
   ·rename_i e hk;rcases bl H with h|⟨ei,cd,H⟩
    ·exact .inl h
    split at H
    ·split at H
     ·rename_i q;obtain⟨y,h0,h1,h2,H⟩:=ER H;exact .inr ⟨_,_,H,SM hE cm cd hk ha hb (iz q) h0 h1 h2⟩
     ·exact .inl H
    ·rcases bl H with h|⟨bx,iw,H⟩
     ·exact .inl h
     split at H
     ·split at H
      ·rename_i q1 q2;have:=Nat.eq_of_beq_eq_true q1;subst this;obtain⟨⟨h0,h1⟩,H⟩:=nH H;exact .inr ⟨_,_,H,SN hE cm cd hk iw (Nat.eq_of_beq_eq_true q2) ha hb h0 h1⟩
      ·exact .inl H
     ·exact .inl H
    ·exact .inl H
   ·rename_i len e hk;rcases bl H with h|⟨ei,cd,H⟩
    ·exact .inl h
    split at H
    ·obtain⟨y,h0,h1,h2,h3,h4,H⟩:=SJ H;exact .inr ⟨_,_,H,SO hE cm cd hk ha hb h0 h1 h2 h3 h4⟩
    ·exact .inl H
   ·exact .inl H
  ·exact .inl H
 ·
  rcases bl H with h|⟨ti,cm,H⟩
  ·exact .inl h
  rcases cM H with h|⟨a,ha,H⟩
  ·exact .inl h
  rcases cM H with h|⟨b,hb,H⟩
  ·exact .inl h
  split at H
  ·split at H
   ·have hk:ti.k=.string:=by assumption
    obtain⟨y,h0,h1,H⟩:=SH H;exact .inr ⟨_,_,H,SP hE cm hk ha hb h0 h1⟩
   ·exact .inl H
  ·exact .inl H
 ·
  rcases bl H with h|⟨ti,cm,H⟩
  ·exact .inl h
  rcases cM H with h|⟨a,ha,H⟩
  ·exact .inl h
  rcases Kg H with h|⟨l,hl,H⟩
  ·exact .inl h
  rcases Kg H with h|⟨u,hu,H⟩
  ·exact .inl h
  split at H
  ·have hk:ti.k=.string:=by assumption
   obtain⟨⟨h0,h1,h2⟩,H⟩:=nH H;exact .inr ⟨_,_,H,SR hE cm hk ha hl hu h0 h1 h2⟩
  ·rcases bl H with h|⟨ei,cd,H⟩
   ·exact .inl h
   obtain⟨⟨h0,h1,h2,h3⟩,H⟩:=nH H;exact .inr ⟨_,_,H,SU hE cm cd (by assumption) ha hl hu h0 h1 h2 h3⟩
  ·exact .inl H
 ·
  rcases bl H with h|⟨ti,cm,H⟩
  ·exact .inl h
  rcases cM H with h|⟨a,ha,H⟩
  ·exact .inl h
  split at H
  ·rcases bl H with h|⟨bx,iw,H⟩
   ·exact .inl h
   split at H
   ·split at H
    ·rename_i q;have:=Nat.eq_of_beq_eq_true q;subst this;obtain⟨e,h0,h1,h2,H⟩:=ER H;rw[Int.toNat_natCast]at h1;split at H
     ·rw[qD]at H;rcases Kh hE cm iw ha h1 rfl H with h|⟨v,H,hv⟩
      ·exact .inl h
      ·exact .inr ⟨_,_,H,hv⟩
     ·rename_i tY;rcases Kh hE cm iw ha h1 (by cases e<;>first|rfl|exact absurd rfl (tY _)) H with h|⟨v,H,hv⟩
      ·exact .inl h
      ·exact .inr ⟨_,_,H,hv⟩
    ·exact .inl H
   ·exact .inl H
  ·exact .inl H
 ·
  rcases bl H with h|⟨ti,cm,H⟩
  ·exact .inl h
  rcases cM H with h|⟨v,hv,H⟩
  ·exact .inl h
  rcases cM H with h|⟨a,ha,H⟩
  ·exact .inl h
  split at H
  ·rcases bl H with h|⟨bx,iw,H⟩
   ·exact .inl h
   split at H
   ·split at H
    ·rename_i q;have:=Nat.eq_of_beq_eq_true q;subst this;rcases Bq H with h|⟨vs,gM,H⟩
     ·exact .inl h
     split at H
     ·rename_i q1 q2;obtain⟨e,h0,h1,h2,H⟩:=ER H;rw[Int.toNat_natCast]at h1;rcases S0 H with h|⟨ds,e',rfl,H,hp⟩
      ·exact .inl h
      rw[gL]at H;exact .inr ⟨_,_,H,S1 hE cm iw ha hv gM (by have:=Nat.eq_of_beq_eq_true q1;simpa using this) q2 h1 h2 hp⟩
     ·exact .inl H
    ·exact .inl H
   ·exact .inl H
  ·exact .inl H
 ·exact SG hE H
end
end Go.aA
end
section
namespace Go.aA
open Go Go.RowKit
def EX(op:BinOp)(j:IntKind)(a b:Int):Int :=
 let x:=BitVec.ofInt j.bits a
 let y:=BitVec.ofInt j.bits b
 match op with
 | .and=>j.wrap (x &&& y).toNat
 | .or=>j.wrap (x ||| y).toNat
 | .xor=>j.wrap (x ^^^ y).toNat
 |_=>j.wrap (x &&& ~~~y).toNat
def qS(op:BinOp)(j:IntKind)(a:Int)(n:Nat):Int:=match op with
 | .shl=>j.wrap (a*2 ^ min n j.bits)
 |_=>a.fdiv (2 ^ min n j.bits)
def Kj:BinOp->Bool
 | .and | .or | .xor | .andNot=>true
 |_=>false
def Kk:BinOp->Bool
 | .shl | .shr=>true
 |_=>false
def Kl:BinOp->Bool
 | .quo | .rem=>true
 |_=>false
def EY(op:BinOp)(j:IntKind)(a b:Int):Int:=match op with
 | .quo=>j.wrap (a.tdiv b)
 |_=>a.tmod b
def yX(d:Nat):List Nat->Bool
 |[]=>false
 |a::l=>match Nat.beq a d with
  |true=>true
  |false=>yX d l
theorem sy{a b:Nat}(h:Nat.blt a b=true):a<b:=Nat.le_of_ble_eq_true h
theorem BK{d:Nat}:∀ {l:List Nat},yX d l=true->d∈l
 |[],h=>by cases h
 |a::l,h=>by
  unfold yX at h;split at h
  ·rename_i q;rw[Nat.eq_of_beq_eq_true q];exact List.mem_cons_self ..
  ·exact List.mem_cons_of_mem _ (BK h)
section
variable {E:Env} {s:List AV} {h:List af} {c:Cx} {G:List (Nat × DV)}
theorem S4{op:BinOp}(bX:Kj op=true){t t':TypeId}{x y:Operand}{j:IntKind}{a b:Int}(hx:bh E.G s x (.d (.int j a)))(hy:bh E.G s y (.d (.int j b))):aQ E (.binOp op t x y t') s h (.d (.int j (EX op j a b))) h :=
 .quiet fun o c ac h1 _ h3 h4=>by
  have e1:=gj (hx c ac h3 h4);have e2:=gj (hy c ac h3 h4);refine⟨.int j (EX op j a b),qG h1 (by rw[e1,e2];exact wk ..) ?_,.d _ _ (.int _ _)⟩;rw[e1,e2];cases op<;>first|(simp only[binOp,ne_eq,not_true_eq_false,if_false,Op.intBits];rfl)|cases bX
theorem S5{op:BinOp}(bX:Kk op=true){t t':TypeId}{x y:Operand}{j j':IntKind}{a:Int}{b:Int}(hb:0<=b)(hx:bh E.G s x (.d (.int j a)))(hy:bh E.G s y (.d (.int j' b))):aQ E (.binOp op t x y t') s h (.d (.int j (qS op j a b.toNat))) h :=
 .quiet fun o c ac h1 _ h3 h4=>by
  have e1:=gj (hx c ac h3 h4);have e2:=gj (hy c ac h3 h4);refine⟨.int j (qS op j a b.toNat),qG h1 (by rw[e1,e2];exact wk ..) ?_,.d _ _ (.int _ _)⟩;rw[e1,e2];have hn:¬ (b<0):=by omega
  cases op<;>first|(simp only[binOp,Op.shift,hn,if_false];rfl)|cases bX
def pF{α:Sort _}(kd:TK)(a b:DV)(stop:α)(k:Bool->α):α :=
 match kd,a,b with
 | .int _,.int j m,.int j' n=>match IntKind.same j j' with
  |true=>k (m==n)
  |false=>stop
 | .string,.str m,.str n=>k (m==n)
 | .bool,.bool m,.bool n=>k (m==n)
 |_,_,_=>stop
def lp{α:Sort _}(T:List bD):Nat->List (Nat × Nat)->List DV->List DV->(stop:α)->(Bool->α)->α
 |_,[],[],[],_,k=>k true
 |n,f::fs,a::l,b::m,stop,k=>match Nat.beq f.1 n with
  |true=>aZ T f.2 stop fun i=>pF i.k a b stop fun p=>lp T (n+1) fs l m stop fun q=>k (p&&q)
  |false=>stop
 |_,_,_,_,stop,_=>stop
theorem S6{kd:TK}{a b:DV}{stop:Prop}{k:Bool->Prop}(H:pF kd a b stop k):stop\/∃ p,k p:=by
 unfold pF at H;split at H
 ·split at H
  ·exact .inr ⟨_,H⟩
  ·exact .inl H
 ·exact .inr ⟨_,H⟩
 ·exact .inr ⟨_,H⟩
 ·exact .inl H
theorem Km{T:List bD}{stop:Prop}:∀ {n:Nat} {fs:List (Nat × Nat)} {l m:List DV} {k:Bool->Prop},lp T n fs l m stop k->stop\/∃ p,k p
 |_,[],[],[],_,H => .inr ⟨_,H⟩
 |_,[],[],_::_,_,H => .inl H
 |_,[],_::_,_,_,H => .inl H
 |_,_::_,[],_,_,H => .inl H
 |_,_::_,_::_,[],_,H => .inl H
 |n,f::fs,a::l,b::m,k,H=>by
  simp only[lp]at H;split at H
  ·rcases bl H with H|⟨i,-,H⟩
   ·exact .inl H
   rcases S6 H with H|⟨p,H⟩
   ·exact .inl H
   rcases Km H with H|⟨q,H⟩
   ·exact .inl H
   ·exact .inr ⟨_,H⟩
  ·exact .inl H
theorem Kn{P:Program}{ft:Nat}{i:bD}(ht:eI P ft=some i){a b:DV}{stop:Prop}{k:Bool->Prop}(H:pF i.k a b stop k):stop\/∃ p,k p/\i.k.agg=false /\
  ∀ (bad:Nat->Prop) (w w':World) (u v:Value) (d:Nat),VD bad w a u->VD bad w b v->(Op.equalIn (d+1) ft u v).run P w'=.ok p w':=by
 obtain⟨ti,td,g1,g2,g3,-⟩:=cO ht;unfold pF at H;split at H
 ·rename_i hk;split at H
  ·rename_i hs;obtain rfl:=sm hs;refine .inr ⟨_,H,by rw[hk];rfl,fun bad w w' u v d hu hv=>?_⟩;cases hu;cases hv;obtain rfl:=wm (hk.symm.trans g3);exact run_equalIn_int w' d ft _ _ _ _ g2
  ·exact .inl H
 ·rename_i hk;refine .inr ⟨_,H,by rw[hk];rfl,fun bad w w' u v d hu hv=>?_⟩;cases hu;cases hv;obtain rfl:=sq (hk.symm.trans g3);rw[run_equalIn_string w' d ft _ _ g2];simp
 ·rename_i hk;refine .inr ⟨_,H,by rw[hk];rfl,fun bad w w' u v d hu hv=>?_⟩;cases hu;cases hv;have:td=.bool:=by rw[hk]at g3;cases td<;>first|rfl|cases g3
  subst this;exact run_equalIn_bool' w' _ ft _ _ g2
 ·exact .inl H
theorem EZ {P : Program} {T : List bD} (hT : ∀ (t : Nat) (i : bD), T[t]? = some i -> eI P t = some i) {stop : Prop} : ∀ {n : Nat} {fl : List Field} {l m : List DV} {k : Bool -> Prop}, lp T n (fl.map fun f => (f.offset, f.type)) l m stop k -> (∀ f ∈ fl, f.name ≠ "_") -> stop \/ ∃ p, k p /\
  ∀ (bad:Nat->Prop) (w w':World) (xs ys:List Value) (d:Nat),(∀ (j:Nat) (x:DV),l[j]?=some x->∃ u,xs[n+j]?=some u/\VD bad w x u)->(∀ (j:Nat) (x:DV),m[j]?=some x->∃ u,ys[n+j]?=some u/\VD bad w x u)->(Op.eqFields (d+1) xs.toArray ys.toArray fl).run P w'=.ok p w':=by
 intro n fl
 induction fl generalizing n with
 |nil =>
  intro l m k H _;cases l with
  |nil=>cases m with
   |nil=>exact .inr ⟨true,H,fun bad w w' xs ys d _ _=>by simp only[Op.eqFields,Sem.run_pure]⟩
   |cons b m=>exact .inl H
  |cons a l=>exact .inl H
 |cons f fl ih =>
  intro l m k H hn;cases l with
  |nil=>exact .inl H
  |cons a l=>cases m with
   |nil=>exact .inl H
   |cons b m =>
    simp only[List.map_cons,lp]at H;split at H
    ·rename_i q;have q:=Nat.eq_of_beq_eq_true q;rcases bl H with H|⟨i,hi,H⟩
     ·exact .inl H
     rcases Kn (hT _ i hi) H with H|⟨p,H,fp,hp⟩
     ·exact .inl H
     rcases ih H (fun g hg=>hn g (List.mem_cons_of_mem _ hg))with H|⟨p',H,sk⟩
     ·exact .inl H
     refine .inr ⟨p&&p',H,fun bad w w' xs ys d hx hy=>?_⟩;obtain⟨u,u1,u2⟩:=hx 0 a rfl;obtain⟨v,v1,v2⟩:=hy 0 b rfl;rw[Nat.add_zero]at u1 v1;have BL:=hn f (List.mem_cons_self ..);simp only[Op.eqFields,ne_eq,BL,not_false_eq_true,if_true,Sem.run_bind];rw[q,wq (hT _ i hi) w' xs n u u1 fp,Result.andThen_ok,wq (hT _ i hi) w' ys n v v1 fp,Result.andThen_ok,hp bad w w' u v d u2 v2,Result.andThen_ok];cases p with
     |false=>simp
     |true =>
      simp only[Bool.not_true,Bool.false_eq_true,if_false,Bool.true_and];exact sk bad w w' xs ys d (fun j x hj=>by rw[show n+1+j=n+(j+1) by omega];exact hx (j+1) x (by simpa using hj)) (fun j x hj=>by rw[show n+1+j=n+(j+1) by omega];exact hy (j+1) x (by simpa using hj))
    ·exact .inl H
theorem Ko(hE:E.OK){op:BinOp}{t:Nat}{t':TypeId}{x y:Operand}{i:bD}(hi:E.T[t]?=some i)(hQ:t∈E.Q){fs:List (Nat × Nat)}(hk:i.k=.struct fs){l m:List DV}(hx:bh E.G s x (.d (.agg l)))(hy:bh E.G s y (.d (.agg m))){stop:Prop}{k:Bool->Prop}(H:lp E.T 0 fs l m stop k) :
  stop\/∃ p,k p/\(op=.eql->∀ h,aQ E (.binOp op t x y t') s h (.d (.bool p)) h)/\(op=.neq->∀ h,aQ E (.binOp op t x y t') s h (.d (.bool !p)) h):=by
 obtain⟨ti,d,g1,g2,g3,-⟩:=cO (hE.types t i hi);obtain⟨fl,rfl,rfl⟩:=oy (hk.symm.trans g3);have hq:=hE.eqs t hQ;simp only[px,g2,Bool.and_eq_true,Bool.not_eq_true',List.all_eq_true,bne_iff_ne,ne_eq]at hq;obtain⟨⟨q1,q2⟩,q3⟩:=hq;rcases EZ hE.types H q3 with h|⟨p,H,hp⟩
 ·exact .inl h
 have gU:E.P.fieldsOf t=fl:=by simp[Program.fieldsOf,g2]
 have val:∀ (c:Cx) (ac:Act),aD E.G c->VS c s ac.tmps->∃ xs ys:List Value,ac.eval x=.agg xs.toArray/\ac.eval y=.agg ys.toArray/\(Op.equalIn 10000 t (.agg xs.toArray) (.agg ys.toArray)).run E.P c.w=.ok p c.w:=by
  intro c ac h3 h4;have eK:=hx c ac h3 h4;have gv:=hy c ac h3 h4;generalize ac.eval x=u at eK;generalize ac.eval y=v at gv;cases eK with
  |d _ _ eK=>cases eK with
   |agg _ xs x1 x2=>cases gv with
    |d _ _ gv=>cases gv with
     |agg _ ys y1 y2 =>
      refine⟨xs.toList,ys.toList,by simp,by simp,?_⟩;rw[run_equalIn_struct c.w 9999 t _ _ (by rw[gU];exact g2) q1,gU];refine hp c.bad c.w c.w xs.toList ys.toList 9998 (fun j z hz=>?_) (fun j z hz=>?_)
      ·have hj:=aX hz;rw[x1]at hj;exact⟨xs[j],by simp[hj],x2 j z _ hz (by simp[hj])⟩
      ·have hj:=aX hz;rw[y1]at hj;exact⟨ys[j],by simp[hj],y2 j z _ hz (by simp[hj])⟩
 have guard:∀ (op:BinOp) (xs ys:Array Value) (w:World),(eqGuard op t x y (.agg xs) (.agg ys)).run E.P w=.ok () w:=fun op xs ys w=>run_eqGuard_agg w op t x y xs ys q2;refine .inr ⟨p,H,fun e h=>?_,fun e h=>?_⟩
 ·subst e;refine .quiet fun o c ac h1 _ h3 h4=>⟨.bool p,?_,.d _ _ (.bool _)⟩;obtain⟨xs,ys,e1,e2,e3⟩:=val c ac h3 h4;simp only[execOp,h1,e1,e2,Sem.run_bind,guard,Result.andThen_ok,run_eql_struct,e3,Sem.run_pure]
 ·subst e;refine .quiet fun o c ac h1 _ h3 h4=>⟨.bool !p,?_,.d _ _ (.bool _)⟩;obtain⟨xs,ys,e1,e2,e3⟩:=val c ac h3 h4;simp only[execOp,h1,e1,e2,Sem.run_bind,guard,Result.andThen_ok,run_neq_struct,e3,Sem.run_pure]
theorem S7(hE:E.OK){t0 t e:Nat}{x:Operand}{i0 i ei:bD}(fU:E.T[t0]?=some i0)(hi:E.T[t]?=some i)(cd:E.T[e]?=some ei)(hk:i.k=.slice e)(E2:ei.k=.int .u8){l:List UInt8}(hx:bh E.G s x (.d (.str l))) :
  aQ E (.convert t0 t x) s h (.d (.sl (l.map nI))) h:=fun o c ac h1 h2 h3 h4=>by
 obtain⟨yA,d0,k1,k2,-⟩:=cO (hE.types t0 i0 fU);obtain⟨ti,d,g1,g2,g3,-⟩:=cO (hE.types t i hi);obtain rfl:=lZ (hk.symm.trans g3);obtain⟨tie,de,q1,q2,q3,-⟩:=cO (hE.types e ei cd);obtain rfl:=wm (E2.symm.trans q3);have ex:=pz (hx c ac h3 h4);have cV:=Lib.run_convert_string_bytes (P:=E.P) c.w t0 t e ⟨l.toArray⟩ k2 g2 q2;have S8:Proofs.YtcmnpelmmekdkaaGreatDoor.Ext c.w (Lib.bytesWorld c.w e ⟨l.toArray⟩):=⟨rfl,rfl,rfl,by rw[Lib.bytesWorld_size];omega,fun b hb=>Lib.bytesWorld_at_old c.w e _ b hb⟩;obtain⟨r1,r2⟩:=h3.grow S8;refine⟨c.dG (Lib.bytesWorld c.w e ⟨l.toArray⟩),_,.inl (by simp only[execOp,h1,ex,Sem.run_bind,cV,Result.andThen_ok,Sem.run_pure];rfl),h2,r1,.d _ _ ?_,r2⟩;have bS:(ByteArray.mk l.toArray).size=(l.map nI).length:=by simp[ByteArray.size]
 rw[bS];have dP:∀ (j:Nat) (b:UInt8),l[j]?=some b->(Lib.bytesWorld c.w e ⟨l.toArray⟩).cell? ⟨c.w.heap.size,0+(j*1+0),none⟩=some (.int .u8 b.toNat):=fun j b hb=>by
  have hj:=aX hb;rw[show 0+(j*1+0)=j by omega,Lib.bytesWorld_cell c.w e _ j (by simp[ByteArray.size];exact hj)];simp[List.getD,hb]
 have key:∀ (i j:Nat) (a y:DV),(l.map nI)[i]?=some a->a.cells[j]?=some y->∃ b,l[i]?=some b/\j=0/\y=.int .u8 b.toNat:=fun i j a y ha hy=>by
  rw[List.getElem?_map]at ha;cases hb:l[i]? with
  |none=>rw[hb]at ha;cases ha
  |some b =>
   rw[hb]at ha;cases ha;simp only[nI,DV.cells]at hy;cases j with
   |zero=>simp at hy;exact⟨b,rfl,rfl,hy.symm⟩
   |succ j=>simp at hy
 refine .sl _ c.w.heap.size 0 _ 1 (fun i _ => .int .u8 (l.getD i 0).toNat) (fun _ hb=>?_) (by omega) ?_ (fun i a ha=>?_) (fun i j a y ha hy=>?_) (fun i j a y ha hy=>?_) (fun i j a y ha hy=>rfl)
 ·rcases hb with hb|⟨i,n,hi⟩
  ·have:=h3.bE _ hb;omega
  ·have:=(h3.bH i _ n hi).1;omega
 ·rw[List.length_map];have:=grownCap_ge c.w l.length 0 e
  simpa [ByteArray.size]using this
 ·rw[List.getElem?_map]at ha;cases hb:l[i]? with
  |none=>rw[hb]at ha;cases ha
  |some b=>rw[hb]at ha;cases ha;rfl
 ·obtain⟨b,hb,rfl,rfl⟩:=key i j a y ha hy;refine(dP i b hb).trans ?_;simp[List.getD,hb]
 ·obtain⟨b,hb,rfl,rfl⟩:=key i j a y ha hy;simp only[List.getD,hb,Option.getD_some];exact .int _ _
theorem S9{op:BinOp}(bX:Kl op=true){t t':TypeId}{x y:Operand}{j:IntKind}{a b:Int}(hb:b≠0)(hx:bh E.G s x (.d (.int j a)))(hy:bh E.G s y (.d (.int j b))):aQ E (.binOp op t x y t') s h (.d (.int j (EY op j a b))) h :=
 .quiet fun o c ac h1 _ h3 h4=>by
  have e1:=gj (hx c ac h3 h4);have e2:=gj (hy c ac h3 h4);refine⟨.int j (EY op j a b),qG h1 (by rw[e1,e2];exact wk ..) ?_,.d _ _ (.int _ _)⟩;rw[e1,e2];cases op<;>first|(simp only[binOp,ne_eq,not_true_eq_false,if_false,Op.intDiv,hb];rfl)|cases bX
theorem S'{t t':TypeId}{x y:Operand}{a b:List UInt8}(hl:a.length+b.length<=9223372036854775807)(hx:bh E.G s x (.d (.str a)))(hy:bh E.G s y (.d (.str b))):aQ E (.binOp .add t x y t') s h (.d (.str (a++b))) h :=
 .quiet fun o c ac h1 _ h3 h4=>by
  have e1:=pz (hx c ac h3 h4);have e2:=pz (hy c ac h3 h4);have e:(⟨a.toArray⟩:ByteArray)++⟨b.toArray⟩=⟨(a++b).toArray⟩:=by
   apply ByteArray.ext;simp
  refine⟨.string ⟨(a++b).toArray⟩,qG h1 (by rw[e1,e2];rfl) ?_,.d _ _ (.str _)⟩;rw[e1,e2];have hn:¬ (((ByteArray.mk a.toArray).size+(ByteArray.mk b.toArray).size:Nat):Int)>IntKind.i64.max:=by
   simp[ByteArray.size,IntKind.max,IntKind.bits,IntKind.signed];omega
  simp only[binOp,Op.stringOp,hn,if_false,e];rfl
def kD(E:Env)(o:Op)(s:List AV)(stop:Prop)(k:AV->Prop):Prop :=
 match o with
 | .binOp op t x y _=>aZ E.T t stop fun i=>cL E.G s x stop fun a=>cL E.G s y stop fun b =>
  match a,b with
  | .d (.int j m),.d (.int j' n)=>match Kj op with
   |true=>match IntKind.same j j' with
    |true=>k (.d (.int j (EX op j m n)))
    |false=>stop
   |false=>stop
  | .d (.agg l),.d (.agg m)=>match i.k,yX t E.Q with
   | .struct fs,true=>lp E.T 0 fs l m stop fun p=>match op with
    | .eql=>k (.d (.bool p))
    | .neq=>k (.d (.bool !p))
    |_=>stop
   |_,_=>stop
  |_,_=>stop
 | .convert t0 t x=>aZ E.T t0 stop fun _=>aZ E.T t stop fun i=>cL E.G s x stop fun v=>match i.k,v with
  | .slice e,.d (.str l)=>aZ E.T e stop fun ei=>match ei.k with
   | .int .u8=>k (.d (.sl (l.map nI)))
   |_=>stop
  |_,_=>stop
 |_=>stop
theorem E3(hE:E.OK){o:Op}{stop:Prop}{k:AV->Prop}(H:kD E o s stop k):stop\/∃ v,k v/\∀ h,aQ E o s h v h:=by
 unfold kD at H;split at H
 ·rename_i op t x y t';rcases bl H with h|⟨i,hi,H⟩
  ·exact .inl h
  rcases cM H with h|⟨a,ha,H⟩
  ·exact .inl h
  rcases cM H with h|⟨b,hb,H⟩
  ·exact .inl h
  split at H
  ·split at H
   ·rename_i q;split at H
    ·rename_i p;obtain rfl:=sm p;exact .inr ⟨_,H,fun h=>S4 q ha hb⟩
    ·exact .inl H
   ·exact .inl H
  ·split at H
   ·rename_i fs hk hq;by_cases he:op=.eql
    ·subst he;rcases Ko (op := .eql) (t':=t') (s:=s) hE hi (BK hq) hk ha hb H with h|⟨p,H,h1,-⟩
     ·exact .inl h
     ·exact .inr ⟨_,H,fun h=>h1 rfl h⟩
    ·by_cases wG:op=.neq
     ·subst wG;rcases Ko (op := .neq) (t':=t') (s:=s) hE hi (BK hq) hk ha hb H with h|⟨p,H,-,h1⟩
      ·exact .inl h
      ·exact .inr ⟨_,H,fun h=>h1 rfl h⟩
     ·refine .inl ?_;rcases Km H with h|⟨p,h⟩
      ·exact h
      ·split at h
       ·exact absurd rfl he
       ·exact absurd rfl wG
       ·exact h
   ·exact .inl H
  ·exact .inl H
 ·rename_i t0 t x;rcases bl H with h|⟨i0,fU,H⟩
  ·exact .inl h
  rcases bl H with h|⟨i,hi,H⟩
  ·exact .inl h
  rcases cM H with h|⟨v,hv,H⟩
  ·exact .inl h
  split at H
  ·rename_i e l hk;rcases bl H with h|⟨ei,cd,H⟩
   ·exact .inl h
   split at H
   ·rename_i E2;exact .inr ⟨_,H,fun h=>S7 hE fU hi cd hk E2 hv⟩
   ·exact .inl H
  ·exact .inl H
 ·exact .inl H
def sA(E:Env)(o:Op)(s:List AV)(stop:Prop)(k:AV->Prop):Prop :=
 match o with
 | .binOp op _ x y _=>cL E.G s x stop fun a=>cL E.G s y stop fun b =>
  match a,b with
  | .d (.int j m),.d (.int j' n)=>match Kk op with
   |true=>need (0<=n) (k (.d (.int j (qS op j m n.toNat))))
   |false=>match Kl op,IntKind.same j j' with
    |true,true=>need (n≠0) (k (.d (.int j (EY op j m n))))
    |_,_=>stop
  | .d (.str l),.d (.str m)=>match op with
   | .add=>need (l.length+m.length<=9223372036854775807) (k (.d (.str (l++m))))
   |_=>stop
  |_,_=>stop
 |_=>stop
theorem Ta{o:Op}{stop:Prop}{k:AV->Prop}(H:sA E o s stop k):stop\/∃ v,k v/\∀ h,aQ E o s h v h:=by
 unfold sA at H;split at H
 ·rename_i op t x y t';rcases cM H with h|⟨a,ha,H⟩
  ·exact .inl h
  rcases cM H with h|⟨b,hb,H⟩
  ·exact .inl h
  split at H
  ·split at H
   ·rename_i q;obtain⟨h0,H⟩:=nH H;exact .inr ⟨_,H,fun h=>S5 q h0 ha hb⟩
   ·split at H
    ·rename_i q p;obtain rfl:=sm p;obtain⟨h0,H⟩:=nH H;exact .inr ⟨_,H,fun h=>S9 q h0 ha hb⟩
    ·exact .inl H
  ·split at H
   ·obtain⟨h0,H⟩:=nH H;exact .inr ⟨_,H,fun h=>S' h0 ha hb⟩
   ·exact .inl H
  ·exact .inl H
 ·exact .inl H
theorem Tb(hE:E.OK){t e len:Nat}{x i:Operand}{ti ei:bD}(cm:E.T[t]?=some ti)(cd:E.T[e]?=some ei)(hk:ti.k=.array len e){b off:Nat}{cs:List AV}(hb:h[b]?=some (.cells cs)){j:IntKind}{m:Nat}(hx:bh E.G s x (.ptr b off))(hi:bh E.G s i (.d (.int j (.ofNat m))))(h1:m<len) :
  aQ E (.indexAddr t x i) s h (.ptr b (off+m*ei.size)) h := .quiet fun o c ac e1 e2 h3 h4=>by
 subst e2;obtain⟨nN,d,g1,g2,g3,-⟩:=cO (hE.types t ti cm);obtain rfl:=yz (hk.symm.trans g3);have key:∀ p,VR c (.ptr b off) p->∃ blk,p=.pointer (some ⟨blk,off,none⟩)/\VR c (.ptr b (off+m*ei.size)) (.pointer (some ⟨blk,off+m*ei.size,none⟩)):=fun p hp=>by
  cases hp with
  |ptr _ _ cs' blk cap k1 k2=>exact⟨blk,rfl,.ptr _ _ cs' blk cap k1 k2⟩
  |jn _ _ _ k1 _=>rw[hb]at k1;cases k1
 obtain⟨blk,q1,q2⟩:=key _ (hx c ac h3 h4);refine⟨_,wF e1 ?_,q2⟩;rw[q1,gj (hi c ac h3 h4)];have h0:(0:Int)<=Int.ofNat m:=Int.natCast_nonneg m;have gw:Int.ofNat m<(len:Int):=by simpa using h1
 simp only[Instr.indexAt,asIntOf,Sem.run_bind,Sem.run_pure,Result.andThen_ok,run_underlying g2,Instr.sureAddr,h0,gw,and_self,if_true,run_sizeOf (hE.types e ei cd),k9];rfl
theorem Tc(hE:E.OK){t e len:Nat}{x:Operand}{ti ei:bD}(cm:E.T[t]?=some ti)(cd:E.T[e]?=some ei)(hk:ti.k=.array len e)(cB:0<len){b:Nat}{ds:List DV}(hb:h[b]?=some (.cells (ds.map .d)))(hlen:ds.length=len)(mP:ds.all DV.fm=true)(hx:bh E.G s x (.ptr b 0)) :
  aQ E (.slice t x none none none) s h (.d (.sl ds)) (h.set b .gone):=fun o c ac h1 h2 h3 h4=>by
 subst h2;obtain⟨nN,d,g1,g2,g3,-⟩:=cO (hE.types t ti cm);obtain rfl:=yz (hk.symm.trans g3);have eu:=aX hb;have key:∀ p,VR c (.ptr b 0) p->∃ blk cap,p=.pointer (some ⟨blk,0,none⟩)/\c.own b=some (blk,cap):=fun p hp=>by
  cases hp with
  |ptr _ _ cs' blk cap k1 k2=>exact⟨blk,cap,rfl,k2⟩
  |jn _ _ _ k1 _=>rw[hb]at k1;cases k1
 obtain⟨blk,cap,q1,q2⟩:=key _ (hx c ac h3 h4);obtain⟨la,jN,vs,ty,p1,p2,p3⟩:=h3.cells hb;rw[q2]at p1;cases p1
 let c':Cx:={ c with own:=fun i=>if i=b then none else c.own i,heap:=c.heap.set b .gone }
 have fN:c'.heap[b]?=some .gone:=by show(c.heap.set b .gone)[b]?=_;rw[List.getElem?_set_self eu]
 have oH:∀ i,i≠b->c'.heap[i]?=c.heap[i]? := fun i hi=>by show(c.heap.set b .gone)[i]?=_;rw[List.getElem?_set_ne (Ne.symm hi)]
 have bI:∀ i,i≠b->c'.own i=c.own i:=fun i hi=>by simp only[c',if_neg hi]
 have js:∀ i p,c'.own i=some p->i≠b/\c.own i=some p:=fun i p hp=>by
  simp only[c']at hp;split at hp
  ·cases hp
  ·rename_i q;exact⟨q,hp⟩
 have aV:Step c c':=⟨rfl,h3.bE,rfl,rfl,rfl,Nat.le_refl _,fun _ _ _=>rfl,fun i x n hi _=>⟨n,(js i _ hi).2⟩,fun i bx hi=>by
  by_cases bP:i=b
  ·subst bP;cases bx with
   |cells cs=>exact .inr fN
   |arr g sz l=>exact .inr fN
   |map es=>exact .inr fN
   |gone=>exact fN
  ·rw[<- oH i bP]at hi;cases bx with
   |cells cs=>exact .inl ⟨cs,hi,bI i bP,rfl⟩
   |arr g sz l=>exact .inl ⟨g,l,hi,.inr ⟨rfl,rfl,bI i bP⟩⟩
   |map es=>exact .inl ⟨es,hi,bI i bP⟩
   |gone=>exact hi⟩
 have aN:aD E.G c':=by
  refine h3.next aV (fun i x n hi=>?_) (fun i j x n m hi hj=>h3.inj i j x n m (js i _ hi).2 (js j _ hj).2) (fun i bx hi=>?_)
  ·have:=h3.bH i x n (js i _ hi).2;refine⟨this.1,?_⟩;show i<(c.heap.set b .gone).length;rw[List.length_set];exact this.2
  ·by_cases bP:i=b
   ·subst bP;rw[fN]at hi;cases hi;right;show c'.own i=none;simp[c']
   ·rw[oH i bP]at hi;exact .inl ⟨hi,bI i bP,fun _ _ _=>rfl⟩
 have bW:∀ (j:Nat) (y:DV),ds[j]?=some y->∃ v,vs[j]?=some v/\v.oneCell'=true/\VD c.bad c.w y v:=fun j y hy=>by
  have hj:=aX hy;have hl:=p3.1;simp at hl;have hv:vs.toList[j]?=some vs[j]:=by simp
  have:=p3.2 j (.d y) _ (by simp[hy]) hv;cases this with
  |d _ _ hd=>exact⟨_,by simp,yw hd (List.all_eq_true.1 mP y (List.mem_of_getElem? hy)),hd⟩
 refine⟨c',.slice (some ⟨blk,0,none⟩) ds.length ds.length,.inl ?_,rfl,aN,.d _ _ ?_,aV⟩
 ·have iA:(Instr.sliceBounds false len len none none none).run E.P c.w=.ok (0,len,len) c.w:=rfl;have aH:¬ (len=0):=by omega
  simp only[execOp,h1,q1,Instr.sliceAt,Sem.run_bind,Sem.run_pure,Result.andThen_ok,run_underlying g2,Instr.sureAddr,Option.map_none,iA,run_sizeOf (hE.types e ei cd),aH,if_false,Nat.zero_mul,k9,Nat.sub_zero,hlen];rfl
 ·have one:∀ (i j:Nat) (y z:DV),ds[i]?=some y->y.cells[j]?=some z->j=0/\z=y:=fun i j y z hy hz=>by
   have:=List.all_eq_true.1 mP y (List.mem_of_getElem? hy);have hc:y.cells=[y]:=by cases y<;>first|rfl|cases this
   rw[hc]at hz;cases j with
   |zero=>simp at hz;exact⟨rfl,hz.symm⟩
   |succ j=>simp at hz
  refine .sl ds blk 0 ds.length 1 (fun i j=>(vs[i]?).getD undef) (fun _ ie=>?_) (by omega) (Nat.le_refl _) (fun i y hy=>?_) (fun i j y z hy hz=>?_) (fun i j y z hy hz=>?_) (fun i j y z hy hz=>?_)
  ·rcases ie with ie|⟨i,n,hi⟩
   ·exact h3.sep b blk cap q2 ie
   ·obtain⟨k1,k2⟩:=js i _ hi;exact k1 (h3.inj i b blk n cap k2 q2)
  ·have:=List.all_eq_true.1 mP y (List.mem_of_getElem? hy);cases y<;>first|rfl|cases this
  ·obtain⟨rfl,rfl⟩:=one i j y z hy hz;obtain⟨v,r1,r2,r3⟩:=bW i z hy;rw[r1,Option.getD_some];have:=mM p2 i v (by simpa using r1)
   simpa using this
  ·obtain⟨rfl,rfl⟩:=one i j y z hy hz;obtain⟨v,r1,r2,r3⟩:=bW i z hy;simp only[r1,Option.getD_some];exact aV.vd r3
  ·obtain⟨rfl,rfl⟩:=one i j y z hy hz;obtain⟨v,r1,r2,r3⟩:=bW i z hy;simp only[r1,Option.getD_some];exact r2
theorem Td(hE:E.OK){t e:Nat}{ti ei:bD}(cm:E.T[t]?=some ti)(cd:E.T[e]?=some ei)(hk:ti.k=.slice e)(cB:0<ei.size){parts:Array (Nat × Operand)}(hp:parts.toList=[]) :
  aQ E (.buildSlice t 0 parts) s h (.own h.length 0) (h++[.arr 0 (e,ei.size) []]):=fun o c ac h1 h2 h3 h4=>by
 subst h2;obtain⟨nN,d,g1,g2,g3,-⟩:=cO (hE.types t ti cm);obtain rfl:=lZ (hk.symm.trans g3);obtain⟨k1,k2⟩:=h3.add (.arr 0 (e,ei.size) []) 0 (.cells #[] e);have bI:(c.add (.arr 0 (e,ei.size) []) 0 (.cells #[] e)).own c.heap.length=some (c.w.heap.size,0):=by simp[Cx.add]
 have kB:(c.add (.arr 0 (e,ei.size) []) 0 (.cells #[] e)).heap[c.heap.length]?=some (.arr 0 (e,ei.size) []):=by simp[Cx.add]
 refine⟨_,.slice (some ⟨c.w.heap.size,0,none⟩) 0 0,.inl ?_,rfl,k2 ⟨cB,fun i e he=>by simp at he,.inr ⟨c.w.heap.size,0,#[],bI,heap_alloc_new _ _,by simp,by simp,by simp,fun i j e x he=>by simp at he⟩⟩,.own c.heap.length 0 (e,ei.size) [] c.w.heap.size 0 kB bI,k1⟩;have sk:parts = #[]:=by apply Array.ext';simpa using hp
 subst sk;have hn:¬ ((0:Nat)>2 ^ 24):=by decide
 simp only[execOp,h1,Instr.buildSlice,Sem.run_bind,Sem.run_pure,Result.andThen_ok,run_underlying g2,run_sizeOf (hE.types e ei cd),Nat.zero_mul,Array.map_empty,hn,if_false,if_true];simp[Instr.fill,newRow,show Array.range 0 = #[]from rfl];rfl
def yY(E:Env)(o:Op)(s:List AV)(h:List af)(stop:Prop)(k:AV->List af->Prop):Prop :=
 match o with
 | .indexAddr t x i=>aZ E.T t stop fun ti=>match ti.k with
  | .array len e=>aZ E.T e stop fun ei=>cL E.G s x stop fun
   | .ptr b off=>aZ h b stop fun
    | .cells _=>cL E.G s i stop fun
     | .d (.int _ n)=>match n with
      | .ofNat m=>match Nat.blt m len with
       |true=>k (.ptr b (off+m*ei.size)) h
       |false=>stop
      |_=>stop
     |_=>stop
    |_=>stop
   |_=>stop
  |_=>stop
 | .slice t x none none none=>aZ E.T t stop fun ti=>match ti.k with
  | .array len e=>aZ E.T e stop fun _=>match Nat.blt 0 len with
   |true=>cL E.G s x stop fun
    | .ptr b 0=>aZ h b stop fun
     | .cells cs=>mL cs stop fun ds=>match Nat.beq ds.length len,ds.all DV.fm with
      |true,true=>fL h b .gone fun h'=>k (.d (.sl ds)) h'
      |_,_=>stop
     |_=>stop
    |_=>stop
   |_=>stop
  |_=>stop
 | .buildSlice t len parts=>match len with
  |0=>aZ E.T t stop fun ti=>match ti.k with
   | .slice e=>aZ E.T e stop fun ei=>match Nat.blt 0 ei.size,parts.toList with
    |true,[]=>lY h (.arr 0 (e,ei.size) []) 0 fun h' n=>k (.own n 0) h'
    |_,_=>stop
   |_=>stop
  |_=>stop
 |_=>stop
theorem Te(hE:E.OK){o:Op}{stop:Prop}{k:AV->List af->Prop}(H:yY E o s h stop k):stop\/∃ v h',k v h'/\aQ E o s h v h':=by
 unfold yY at H;split at H
 ·rename_i t x i;rcases bl H with h|⟨ti,cm,H⟩
  ·exact .inl h
  split at H
  ·rename_i len e hk;rcases bl H with h|⟨ei,cd,H⟩
   ·exact .inl h
   rcases cM H with h|⟨a,ha,H⟩
   ·exact .inl h
   split at H
   ·rename_i b off;rcases bl H with h|⟨bx,hb,H⟩
    ·exact .inl h
    split at H
    ·rcases cM H with h|⟨n,hn,H⟩
     ·exact .inl h
     split at H
     ·split at H
      ·split at H
       ·rename_i q;exact .inr ⟨_,_,H,Tb hE cm cd hk hb ha hn (sy q)⟩
       ·exact .inl H
      ·exact .inl H
     ·exact .inl H
    ·exact .inl H
   ·exact .inl H
  ·exact .inl H
 ·rename_i t x;rcases bl H with h|⟨ti,cm,H⟩
  ·exact .inl h
  split at H
  ·rename_i len e hk;rcases bl H with h|⟨ei,cd,H⟩
   ·exact .inl h
   split at H
   ·rename_i q2;rcases cM H with h|⟨a,ha,H⟩
    ·exact .inl h
    split at H
    ·rename_i b;rcases bl H with h|⟨bx,hb,H⟩
     ·exact .inl h
     split at H
     ·rename_i cs
      rcases tR cs stop (fun ds=>match Nat.beq ds.length len,ds.all DV.fm with
       |true,true=>fL h b .gone fun h'=>k (.d (.sl ds)) h'
       |_,_=>stop)with⟨ds,e1,e2⟩|e2
      ·rw[e2]at H;split at H
       ·rename_i p1 p2;rw[gL]at H;subst e1;exact .inr ⟨_,_,H,Tc hE cm cd hk (sy q2) hb (Nat.eq_of_beq_eq_true p1) p2 ha⟩
       ·exact .inl H
      ·rw[e2]at H;exact .inl H
     ·exact .inl H
    ·exact .inl H
   ·exact .inl H
  ·exact .inl H
 ·rename_i t len parts;split at H
  ·rcases bl H with h|⟨ti,cm,H⟩
   ·exact .inl h
   split at H
   ·rename_i e hk;rcases bl H with h|⟨ei,cd,H⟩
    ·exact .inl h
    split at H
    ·rename_i q1 q2;rw[nD,Nat.zero_add]at H;exact .inr ⟨_,_,H,Td hE cm cd hk (sy q1) q2⟩
    ·exact .inl H
   ·exact .inl H
  ·exact .inl H
 ·exact .inl H
def oI(E:Env)(o:Op)(s:List AV)(h:List af)(stop:Prop)(k:AV->List af->Prop):Prop:=kD E o s (yY E o s h stop k) fun v=>k v h
theorem yZ(hE:E.OK){o:Op}{stop:Prop}{k:AV->List af->Prop}(H:oI E o s h stop k):stop\/∃ v h',k v h'/\aQ E o s h v h':=by
 rcases E3 hE H with H|⟨v,H,ho⟩
 ·exact Te hE H
 ·exact .inr ⟨v,h,H,ho h⟩
end
end Go.aA
end
section
namespace Go.aA
open Go Go.RowKit
def qT:DV->DV->Bool
 | .int j m,.int k n=>IntKind.same j k&&(m==n)
 | .str a,.str b=>a==b
 | .bool a,.bool b=>a==b
 |_,_=>false
def uw:List DV->List DV->Bool
 |[],[]=>true
 |a::l,b::m=>qT a b&&uw l m
 |_,_=>false
def eW:DV->DV->Bool
 | .agg l,.agg m=>uw l m
 |a,b=>qT a b
def jc(k:DV):List (DV × DV)->Option Nat
 |[]=>none
 |p::l=>if eW k p.1 then some 0 else(jc k l).map (· + 1)
def findD(k:DV):List (DV × DV)->Option DV
 |[]=>none
 |p::l=>if eW k p.1 then some p.2 else findD k l
def cx(k v:DV):List (DV × DV)->List (DV × DV)
 |[]=>[(k,v)]
 |p::l=>if eW k p.1 then(k,v)::l else p::cx k v l
def nO:TK->DV->Prop
 | .int j,x=>∃ n,x=.int j n
 | .string,x=>∃ s,x=.str s
 | .bool,x=>∃ b,x=.bool b
 |_,_=>False
def uz(T:List bD):Nat->List (Nat × Nat)->List DV->Prop
 |_,[],[]=>True
 |n,f::fs,a::l=>f.1=n/\(∃ i,T[f.2]?=some i/\nO i.k a)/\uz T (n+1) fs l
 |_,_,_=>False
def ea(T:List bD)(k:TK)(x:DV):Prop:=match k with
 | .struct fs=>∃ l,x=.agg l/\uz T 0 fs l
 |k=>nO k x
def gV:DV->Value
 | .int j n => .int j n
 | .str s => .string ⟨s.toArray⟩
 | .bool b => .bool b
 | .agg l => .agg (l.map fun
  | .int j n => .int j n
  | .str s => .string ⟨s.toArray⟩
  | .bool b => .bool b
  |_=>undef).toArray
 |_=>undef
def wH:DV->Prop
 | .int _ _=>True
 | .str _=>True
 | .bool _=>True
 |_=>False
theorem nO.flat{k:TK}{x:DV}(h:nO k x):wH x:=by
 cases k<;>first|(obtain⟨_,rfl⟩:=h;trivial)|exact h.elim
theorem uz.flat{T:List bD}:∀ {n:Nat} {fs:List (Nat × Nat)} {l:List DV},uz T n fs l->∀ x∈l,wH x
 |_,[],[],_,x,hx=>by simp at hx
 |_,_::_,[],h,_,_=>h.elim
 |_,[],_::_,h,_,_=>h.elim
 |n,f::fs,a::l,h,x,hx=>by
  rcases List.mem_cons.1 hx with rfl|hx
  ·obtain⟨-,⟨i,-,h⟩,-⟩:=h;exact h.flat
  ·exact h.2.2.flat x hx
theorem BM{bad:Nat->Prop}{w:World}{x:DV}{v:Value}(hf:wH x)(h:VD bad w x v):v=gV x:=by
 cases x<;>first|exact hf.elim|(cases h;rfl)
theorem ea.cases{T:List bD}{k:TK}{x:DV}(h:ea T k x):wH x\/∃ l,x=.agg l/\∀ y∈l,wH y:=by
 unfold ea at h;split at h
 ·obtain⟨l,rfl,h⟩:=h;exact .inr ⟨l,rfl,h.flat⟩
 ·exact .inl h.flat
theorem y0{T:List bD}{k:TK}{bad:Nat->Prop}{w:World}{x:DV}{v:Value}(hf:ea T k x)(h:VD bad w x v):v=gV x:=by
 rcases hf.cases with pG|⟨l,rfl,pG⟩
 ·exact BM pG h
 ·cases h with
  |agg _ vs hl hv =>
   simp only[gV]
   congr 1
   apply Array.ext
   ·simpa using hl.symm
   ·intro j h1 h2;have hj:j<l.length:=by omega
    have e:=hv j l[j] vs[j] (by simp) (by simp[h1]);have:=BM (pG _ (List.getElem_mem hj)) e;rw[this];simp only[List.getElem_toArray,List.getElem_map];have gq:=pG _ (List.getElem_mem hj);generalize l[j]=y at gq;cases y<;>first|rfl|exact gq.elim
theorem E4(j:IntKind):IntKind.same j j=true:=by cases j<;>rfl
theorem Kq{a b:DV}(h:qT a b=true):a=b:=by
 unfold qT at h;split at h
 ·simp only[Bool.and_eq_true,beq_iff_eq]at h;obtain rfl:=sm h.1;rw[h.2]
 ·simp at h;rw[h]
 ·simp at h;rw[h]
 ·cases h
theorem Kr:∀ {a b:List DV},uw a b=true->a=b
 |[],[],_=>rfl
 |[],_::_,h=>by cases h
 |_::_,[],h=>by cases h
 |x::a,y::b,h=>by
  simp only[uw,Bool.and_eq_true]at h;rw[Kq h.1,Kr h.2]
theorem Tf{a b:DV}(h:eW a b=true):a=b:=by
 unfold eW at h;split at h
 ·rw[Kr h]
 ·exact Kq h
theorem E5(a b:List UInt8):((⟨a.toArray⟩:ByteArray)==⟨b.toArray⟩)=(a==b):=by
 show(a.toArray==b.toArray)=_;simp
theorem E6{α:Type}:∀ {l:List α} {p:α × α},p∈l.zip l->p.1=p.2/\p.1∈l
 |[],p,h=>by simp at h
 |a::l,p,h=>by
  rcases List.mem_cons.1 h with rfl|h
  ·exact⟨rfl,List.mem_cons_self ..⟩
  ·exact⟨(E6 h).1,List.mem_cons_of_mem _ (E6 h).2⟩
theorem Tg(n:Nat){x:DV}(h:wH x):Instr.sameBits n (gV x) (gV x)=true:=by
 cases x<;>first|exact h.elim|(cases n<;>simp[gV,Instr.sameBits,E5])
theorem Th{T:List bD}{k:TK}{x:DV}(h:ea T k x):Instr.sameBits 10000 (gV x) (gV x)=true:=by
 rcases h.cases with h1|⟨l,rfl,h1⟩
 ·exact Tg _ h1
 ·show Instr.sameBits (9999+1) _ _=true;simp only[gV,Instr.sameBits,beq_self_eq_true,Bool.true_and,List.all_eq_true];intro p hp;obtain⟨e1,e2⟩:=E6 hp;obtain⟨p1,p2⟩:=p;simp only at e1 e2;subst e1;obtain⟨y,hy,rfl⟩:=List.mem_map.1 e2;have:=h1 y hy;cases y<;>first|exact this.elim|simp[Instr.sameBits,E5]
def y5(bad:Nat->Prop)(w:World)(es:List (DV × DV))(en:List MapEntry):Prop:=en.length=es.length/\∀ (j:Nat) (k x:DV) (m:MapEntry),es[j]?=some (k,x)->en[j]?=some m->VD bad w k m.key/\VD bad w x m.val
theorem y5.cons{bad:Nat->Prop}{w:World}{p:DV × DV}{m:MapEntry}{es:List (DV × DV)}{en:List MapEntry}(h:y5 bad w (p::es) (m::en)):VD bad w p.1 m.key/\VD bad w p.2 m.val/\y5 bad w es en:=by
 obtain⟨h1,h2⟩:=h;have:=h2 0 p.1 p.2 m rfl rfl;exact⟨this.1,this.2,by simpa using h1,fun j k x m' hk hm=>h2 (j+1) k x m' (by simpa using hk) (by simpa using hm)⟩
theorem E7{k:DV}:∀ {es:List (DV × DV)} {j:Nat},jc k es=some j->∃ p,es[j]?=some p/\eW k p.1=true/\findD k es=some p.2
 |[],_,h=>by cases h
 |p::es,j,h=>by
  unfold jc at h;split at h
  ·rename_i q;cases h;exact⟨p,rfl,q,by simp[findD,q]⟩
  ·rename_i q;cases hf:jc k es with
   |none=>rw[hf]at h;cases h
   |some i =>
    rw[hf]at h;cases h;obtain⟨p',h1,h2,h3⟩:=E7 hf;exact⟨p',by simpa using h1,h2,by simp[findD,q,h3]⟩
theorem Ks{k:DV}:∀ {es:List (DV × DV)},jc k es=none->findD k es=none
 |[],_=>rfl
 |p::es,h=>by
  unfold jc at h;split at h
  ·cases h
  ·rename_i q;cases hf:jc k es with
   |none=>simp[findD,q,Ks hf]
   |some i=>rw[hf]at h;cases h
theorem E8{k v:DV}:∀ {es:List (DV × DV)} {j:Nat},jc k es=some j->cx k v es=es.set j (k,v)
 |[],_,h=>by cases h
 |p::es,j,h=>by
  unfold jc at h;split at h
  ·rename_i q;cases h;simp[cx,q]
  ·rename_i q;cases hf:jc k es with
   |none=>rw[hf]at h;cases h
   |some i =>
    rw[hf]at h;cases h;simp[cx,q,E8 hf]
theorem E9{k v:DV}:∀ {es:List (DV × DV)},jc k es=none->cx k v es=es++[(k,v)]
 |[],_=>rfl
 |p::es,h=>by
  unfold jc at h;split at h
  ·cases h
  ·rename_i q;cases hf:jc k es with
   |none=>simp[cx,q,E9 hf]
   |some i=>rw[hf]at h;cases h
theorem wI{P:Program}{w:World}{r:Nat}{es:Array MapEntry}{clock:Nat}(hb:w.heap[r]?=some (.map es clock)):(getObj r).run P w=.ok (.map es clock) w:=by
 simp[getObj,Sem.run,hb]
theorem Kt{P:Program}{w:World}{r:Nat}{es:Array MapEntry}{clock:Nat}(o:Obj)(hb:w.heap[r]?=some (.map es clock)):(setObj r o).run P w=.ok () { w with heap:=w.heap.setIfInBounds r o }:=by
 simp[setObj,Sem.run,hb]
theorem Ti{P:Program}{w:World}{kt:TypeId}{d:TypeDesc}{k:Value}{l:List MapEntry}{a:Option (Nat × Value)}(hd:P.underlying kt=some d)(h:Instr.findNow d k l 0=some a):(Instr.findKey kt k l).run P w=.ok a w:=by
 simp[Instr.findKey,run_underlying hd,Result.andThen,h]
section
variable {E:Env}
def E':TK->Prop
 | .int _=>True
 | .string=>True
 | .bool=>True
 |_=>False
inductive uA (E:Env) (t:Nat):TK->Prop
 |plain (i:bD) (hi:E.T[t]?=some i) (h:E' i.k):uA E t i.k
 |struct (i:bD) (hi:E.T[t]?=some i) (fs:List (Nat × Nat)) (hk:i.k=.struct fs) (hq:t∈E.Q):uA E t (.struct fs)
theorem Ku{T:List bD}:∀ {n:Nat} {fs:List (Nat × Nat)} {l m:List DV},uz T n fs l->uz T n fs m->lp T n fs l m False (· = uw l m)
 |_,[],[],[],_,_=>rfl
 |_,_::_,[],_,h,_=>h.elim
 |_,[],_::_,_,h,_=>h.elim
 |_,_::_,_::_,[],_,h=>h.elim
 |_,[],[],_::_,_,h=>h.elim
 |n,f::fs,a::l,b::m,h,h'=>by
  obtain⟨e1,⟨i,hi,ha⟩,hl⟩:=h;obtain⟨-,⟨i',cS,hb⟩,hm⟩:=h';rw[hi]at cS;cases cS;simp only[lp];have:Nat.beq f.1 n=true:=by rw[e1];exact Nat.beq_refl n
  rw[this];simp only;rw[Bk hi];have key:∀ (K:Bool->Prop),K (qT a b)->pF i.k a b False K:=fun K hK=>by
   unfold nO at ha hb;split at ha
   ·rename_i j hk;obtain⟨x,rfl⟩:=ha;rw[hk]at hb ⊢;obtain⟨y,rfl⟩:=hb;simp only[pF,E4]
    simpa [qT,E4]using hK
   ·rename_i hk;obtain⟨x,rfl⟩:=ha;rw[hk]at hb ⊢;obtain⟨y,rfl⟩:=hb;exact hK
   ·rename_i hk;obtain⟨x,rfl⟩:=ha;rw[hk]at hb ⊢;obtain⟨y,rfl⟩:=hb;exact hK
   ·exact ha.elim
  refine key _ ?_;have ih:=Ku hl hm;have mono:∀ {n:Nat} {fs:List (Nat × Nat)} {l m:List DV} {K K':Bool->Prop},(∀ p,K p->K' p)->lp T n fs l m False K->lp T n fs l m False K':=by
   intro n fs
   induction fs generalizing n with
   |nil=>intro l m K K' hk H;cases l<;>cases m<;>first|exact hk _ H|exact H
   |cons f fs Fa =>
    intro l m K K' hk H;cases l with
    |nil=>exact H
    |cons a l=>cases m with
     |nil=>exact H
     |cons b m =>
      simp only[lp]at H ⊢;split at H
      ·rcases bl H with H|⟨i,hi,H⟩
       ·exact H.elim
       rw[Bk hi];unfold pF at H ⊢;split at H
       ·split at H
        ·exact Fa (fun p hp=>hk _ hp) H
        ·exact H
       ·exact Fa (fun p hp=>hk _ hp) H
       ·exact Fa (fun p hp=>hk _ hp) H
       ·exact H
      ·exact H
  refine mono (fun p hp=>?_) ih;rw[hp,uw]
theorem Tj(hE:E.OK){t:Nat}{i:bD}(hi:E.T[t]?=some i){fs:List (Nat × Nat)}(hk:i.k=.struct fs)(hq:t∈E.Q){x y:DV}(hx:ea E.T (.struct fs) x)(hy:ea E.T (.struct fs) y){bad:Nat->Prop}{w:World}{u v:Value}(hu:VD bad w x u)(hv:VD bad w y v) :
  (Op.equal t u v).run E.P w=.ok (eW x y) w:=by
 obtain⟨l,rfl,hl⟩:=hx;obtain⟨m,rfl,hm⟩:=hy;obtain⟨ti,d,g1,g2,g3,-⟩:=cO (hE.types t i hi);obtain⟨fl,rfl,rfl⟩:=oy (hk.symm.trans g3);have uB:=hE.eqs t hq;simp only[px,g2,Bool.and_eq_true,Bool.not_eq_true',List.all_eq_true,bne_iff_ne,ne_eq]at uB;obtain⟨⟨q1,q2⟩,q3⟩:=uB;rcases EZ hE.types (Ku hl hm) q3 with h|⟨p,rfl,hp⟩
 ·exact h.elim
 have gU:E.P.fieldsOf t=fl:=by simp[Program.fieldsOf,g2]
 cases hu with
 |agg _ xs x1 x2=>cases hv with
  |agg _ ys y1 y2 =>
   show(Op.equalIn (9999+1) t _ _).run E.P w=_;rw[run_equalIn_struct w 9999 t _ _ (by rw[gU];exact g2) q1,gU];have:=hp bad w w xs.toList ys.toList 9998 (fun j z hz=>?_) (fun j z hz=>?_)
   ·simpa [eW]using this
   ·have hj:=aX hz;rw[x1]at hj;exact⟨xs[j],by simp[hj],x2 j z _ hz (by simp[hj])⟩
   ·have hj:=aX hz;rw[y1]at hj;exact⟨ys[j],by simp[hj],y2 j z _ hz (by simp[hj])⟩
theorem Tk{td:TypeDesc}{k:TK}(hk:k=tk td)(hp:E' k){x y:DV}(hx:nO k x)(hy:nO k y):Instr.sameNow td (gV x) (gV y)=some (eW x y):=by
 subst hk;cases td<;>simp only[tk,E']at hp hx hy
 ·obtain⟨a,rfl⟩:=hx;obtain⟨b,rfl⟩:=hy;rfl
 ·obtain⟨a,rfl⟩:=hx;obtain⟨b,rfl⟩:=hy;simp[Instr.sameNow,gV,eW,qT,E4]
 ·obtain⟨a,rfl⟩:=hx;obtain⟨b,rfl⟩:=hy;simp[Instr.sameNow,gV,eW,qT,E5]
def nP(k:DV)(es:List (DV × DV))(en:List MapEntry)(i:Nat):Option (Nat × Value):=(jc k es).bind fun j=>(en[j]?).map fun m=>(i+j,m.val)
theorem Kv{k:DV}{p:DV × DV}{m:MapEntry}{es:List (DV × DV)}{en:List MapEntry}{i:Nat}:nP k (p::es) (m::en) i=if eW k p.1 then some (i,m.val)else nP k es en (i+1):=by
 simp only[nP,jc];split
 ·simp
 ·cases jc k es with
  |none=>rfl
  |some j =>
   simp;cases en[j]? with
   |none=>rfl
   |some m=>simp;omega
theorem Kw(hE:E.OK){t:Nat}{k:TK}(hT:uA E t k){x:DV}(hx:ea E.T k x){bad:Nat->Prop}{w:World}{u:Value}(hu:VD bad w x u){es:List (DV × DV)}{en:List MapEntry}(kz:∀ p∈es,ea E.T k p.1)(wJ:y5 bad w es en) :
  (Instr.findKey t u en).run E.P w=.ok (nP x es en 0) w:=by
 cases hT with
 |plain i hi h =>
  obtain⟨ti,d,g1,g2,g3,-⟩:=cO (hE.types t i hi);refine Ti g2 ?_;have hF:∀ y,ea E.T i.k y->nO i.k y:=fun y hy=>by
   unfold ea at hy;split at hy
   ·rename_i q;rw[q]at h;exact h.elim
   ·exact hy
  obtain rfl:=y0 hx hu;generalize 0=n
  induction es generalizing en n with
  |nil =>
   obtain rfl:en=[]:=List.eq_nil_of_length_eq_zero (by simpa using wJ.1);rfl
  |cons p es ih=>cases en with
   |nil=>have:=wJ.1;simp at this
   |cons m en =>
    obtain⟨h1,h2,h3⟩:=wJ.cons;have hp:=kz p (List.mem_cons_self ..);have e1:=y0 hp h1;rw[Kv,Instr.findNow,e1,Tk g3 h (hF _ hx) (hF _ hp)];cases eW x p.1 with
    |true=>rfl
    |false =>
     have ha:∀ q∈es,ea E.T i.k q.1:=fun q hq=>kz q (List.mem_cons_of_mem _ hq);first|exact ih ha h3 (n+1)|exact ih h3 ha (n+1)|exact ih h3 (n+1) ha
 |struct i hi fs hk hq =>
  obtain⟨ti,d,g1,g2,g3,-⟩:=cO (hE.types t i hi);obtain⟨fl,rfl,-⟩:=oy (hk.symm.trans g3);rw[run_findKey_eq w (by rw[g2]) u en];generalize 0=n
  induction es generalizing en n with
  |nil =>
   obtain rfl:en=[]:=List.eq_nil_of_length_eq_zero (by simpa using wJ.1);simp[Instr.findAsking,nP,jc]
  |cons p es ih=>cases en with
   |nil=>have:=wJ.1;simp at this
   |cons m en =>
    obtain⟨h1,h2,h3⟩:=wJ.cons;have hp:=kz p (List.mem_cons_self ..);rw[Kv];simp only[Instr.findAsking,Sem.run_bind,Tj hE hi hk hq hx hp hu h1,Result.andThen_ok];cases eW x p.1 with
    |true=>simp
    |false =>
     simp only[Bool.false_eq_true,if_false];have ha:∀ q∈es,ea E.T (.struct _) q.1:=fun q hq=>kz q (List.mem_cons_of_mem _ hq);first|exact ih ha h3 (n+1)|exact ih h3 ha (n+1)|exact ih h3 (n+1) ha
theorem Kx(hE:E.OK){t:Nat}{k:TK}(hT:uA E t k){x:DV}(hx:ea E.T k x){bad:Nat->Prop}{w:World}{u:Value}(hu:VD bad w x u)(em:Bool):(Instr.checkKey em 10000 t u).run E.P w=.ok () w:=by
 have one:∀ (n:Nat) (t:Nat) (i:bD) (hi:E.T[t]?=some i) (y:DV),nO i.k y->(Instr.checkKey em (n+1) t (gV y)).run E.P w=.ok () w:=fun n t i hi y hy=>by
  obtain⟨ti,d,g1,g2,g3,-⟩:=cO (hE.types t i hi);unfold Instr.checkKey;simp only[Sem.run_bind,run_underlying g2,Result.andThen];unfold nO at hy;split at hy
  ·rename_i q;obtain⟨a,rfl⟩:=hy;obtain rfl:=wm (q.symm.trans g3);simp[gV]
  ·rename_i q;obtain⟨a,rfl⟩:=hy;obtain rfl:=sq (q.symm.trans g3);simp[gV]
  ·rename_i q;obtain⟨a,rfl⟩:=hy;have:d=.bool:=by rw[q]at g3;cases d<;>first|rfl|cases g3
   subst this;simp[gV]
  ·exact hy.elim
 obtain rfl:=y0 hx hu;cases hT with
 |plain i hi h =>
  have hF:nO i.k x:=by
   unfold ea at hx;split at hx
   ·rename_i q;rw[q]at h;exact h.elim
   ·exact hx
  exact one 9999 t i hi x hF
 |struct i hi fs hk hq =>
  obtain⟨ti,d,g1,g2,g3,-⟩:=cO (hE.types t i hi);obtain⟨fl,rfl,rfl⟩:=oy (hk.symm.trans g3);obtain⟨l,rfl,hl⟩:=hx;show(Instr.checkKey em (9999+1) t _).run E.P w=_;rw[Instr.checkKey];simp only[Sem.run_bind,run_underlying g2,Result.andThen_ok,gV];rw[<- Array.forIn_toList]
  generalize ln:(l.map fun
   | .int j n=>Value.int j n
   | .str s => .string ⟨s.toArray⟩
   | .bool b => .bool b
   |_=>undef)=cs
  have bW:∀ (j:Nat) (y:DV),l[j]?=some y->cs[0+j]?=some (gV y):=fun j y hy=>by
   rw[<- ln];have:=hl.flat y (List.mem_of_getElem? hy);simp[hy];cases y<;>first|rfl|exact this.elim
  clear ln;have go:∀ (fl:List Field) (n:Nat) (l:List DV),uz E.T n (fl.map fun f=>(f.offset,f.type)) l->(∀ (j:Nat) (y:DV),l[j]?=some y->cs[n+j]?=some (gV y)) ->
    (forIn fl PUnit.unit fun f _ =>
     if f.name ≠ "_" then do
      let d <- part f.type cs.toArray f.offset
      Instr.checkKey em 9999 f.type d
      pure (ForInStep.yield PUnit.unit)
     else pure (ForInStep.yield PUnit.unit):Sem PUnit).run E.P w=.ok PUnit.unit w:=by
   intro fl
   induction fl with
   |nil=>intro n l _ _;simp
   |cons f fl ih =>
    intro n l h hv;cases l with
    |nil=>exact h.elim
    |cons a l =>
     obtain⟨e1,⟨fi,jQ,ma⟩,hr⟩:=h;simp only at e1 jQ;have fp:fi.k.agg=false:=by
      unfold nO at ma;split at ma<;>first|(rename_i q;rw[q];rfl)|exact ma.elim
     have h0 := hv 0 a rfl;rw [Nat.add_zero] at h0;have hp := wq (hE.types _ fi jQ) w cs n (gV a) h0 fp;have uC := ih (n + 1) l hr (fun j y hy => by rw [show n + 1 + j = n + (j + 1) by omega]; exact hv (j + 1) y (by simpa using hy));simp only [List.forIn_cons, Sem.run_bind];by_cases BL : f.name = "_"
     ·simp only[BL,ne_eq,not_true_eq_false,if_false,Sem.run_bind,Sem.run_pure,Result.andThen_ok];exact uC
     ·simp only[BL,ne_eq,not_false_eq_true,if_true,Sem.run_bind,e1,hp,Result.andThen_ok,one 9998 f.type fi jQ a ma,Sem.run_pure];exact uC
  have:=go fl.toList 0 l hl bW;rw[this];rfl
end
section
variable {E:Env} {s:List AV} {h:List af} {c:Cx} {G:List (Nat × DV)}
theorem Tl{t:Nat}:aQ E (.makeMap t none) s h (.map h.length) (h++[.map []]):=fun o c ac h1 h2 h3 h4=>by
 subst h2;obtain⟨k1,k2⟩:=h3.add (.map []) 0 (.map #[] 0);have bI:(c.add (.map []) 0 (.map #[] 0)).own c.heap.length=some (c.w.heap.size,0):=by simp[Cx.add]
 have kB:(c.add (.map []) 0 (.map #[] 0)).heap[c.heap.length]?=some (.map []):=by simp[Cx.add]
 refine⟨_,.map (some c.w.heap.size),.inl ?_,rfl,k2 ⟨c.w.heap.size,0,#[],0,bI,heap_alloc_new _ _,⟨rfl,by simp,by simp,by simp,rfl⟩,fun j k x m hj=>by simp at hj⟩,.map c.heap.length [] c.w.heap.size 0 kB bI,k1⟩;simp only[execOp,h1,Option.map_none,Instr.makeMap];rfl
theorem Tm{b:Nat}{es:List (DV × DV)}(hb:c.heap[b]?=some (.map es)){v:Value}(hv:VR c (.map b) v):∃ blk cap,v=.map (some blk)/\c.own b=some (blk,cap):=by
 cases hv with
 |map _ er blk cap k1 k2=>exact⟨blk,cap,rfl,k2⟩
 |nC _ _ k1 _=>rw[hb]at k1;cases k1
theorem BN(h3:aD G c){b:Nat}{es:List (DV × DV)}(hb:c.heap[b]?=some (.map es)){v:Value}(hv:VR c (.map b) v):∃ (blk cap:Nat) (en:Array MapEntry) (ck:Nat),v=.map (some blk)/\c.own b=some (blk,cap)/\c.w.heap[blk]?=some (.map en ck)/\py en ck es.length/\y5 c.bad c.w es en.toList:=by
 obtain⟨blk,cap,rfl,ho⟩:=Tm hb hv;obtain⟨la,jN,en,ck,p1,p2,p3,p4⟩:=h3.box b _ hb;rw[ho]at p1;cases p1;exact⟨blk,cap,en,ck,rfl,ho,p2,p3,by simpa using p3.size,fun j k x m hk hm=>p4 j k x m hk (by simpa using hm)⟩
@[irreducible] def y6 (E : Env) (e : Nat) (kd : TK) (x : DV) (es : List (DV × DV)) (K : DV -> Bool -> Prop) : Prop :=
 ∃ (z:DV) (zv:Value),ea E.T kd x/\(∀ p∈es,ea E.T kd p.1)/\(∀ w,(zeroValue e).run E.P w=.ok zv w)/\(∀ bad w,VD bad w z zv)/\K ((findD x es).getD z) (findD x es).isSome
theorem mb{E:Env}{e:Nat}{kd:TK}{x:DV}{es:List (DV × DV)}{K:DV->Bool->Prop}(z:DV)(zv:Value){v:DV}{f:Bool}(h1:ea E.T kd x)(h2:∀ p∈es,ea E.T kd p.1)(h3:∀ w,(zeroValue e).run E.P w=.ok zv w)(h4:∀ bad w,VD bad w z zv)
  (e1:(findD x es).getD z=v) (e2:(findD x es).isSome=f) (k:K v f):y6 E e kd x es K:=by
 unfold y6;exact⟨z,zv,h1,h2,h3,h4,by rw[e1,e2];exact k⟩
theorem Tn{E:Env}{e:Nat}{kd:TK}{x:DV}{es:List (DV × DV)}{K:DV->Bool->Prop}(h:y6 E e kd x es K) :
  ∃ (z:DV) (zv:Value),ea E.T kd x/\(∀ p∈es,ea E.T kd p.1)/\(∀ w,(zeroValue e).run E.P w=.ok zv w)/\(∀ bad w,VD bad w z zv)/\K ((findD x es).getD z) (findD x es).isSome:=by unfold y6 at h;exact h
theorem To(hE:E.OK){t kt e:Nat}{m ko:Operand}{ti:bD}(cm:E.T[t]?=some ti)(hk:ti.k=.map kt e){kd:TK}(hT:uA E kt kd){b:Nat}{es:List (DV × DV)}(hb:h[b]?=some (.map es))(hm:bh E.G s m (.map b)){x:DV}(hx:bh E.G s ko (.d x))
  (h1:ea E.T kd x) (h2:∀ p∈es,ea E.T kd p.1) {z:DV} {zv:Value} (hz:∀ w,(zeroValue e).run E.P w=.ok zv w) (y7:∀ bad w,VD bad w z zv) (ok:Bool) :
  aQ E (.lookup t m ko ok) s h (match ok with|true => .d (.aJ [(findD x es).getD z,.bool (findD x es).isSome])|false => .d ((findD x es).getD z)) h := .quiet fun o c ac e1 e2 h3 h4=>by
 subst e2;obtain⟨nN,d,g1,g2,g3,-⟩:=cO (hE.types t ti cm);have hd:d=.map kt e:=by rw[hk]at g3;cases d<;>first|(cases g3;rfl)|cases g3
 subst hd;obtain⟨blk,cap,en,ck,q1,q2,q3,qe,q4⟩:=BN h3 hb (hm c ac h3 h4);have di:=hx c ac h3 h4;generalize hu:ac.eval ko=u at di;cases di with
 |d _ _ di =>
  have r1:=Kx hE hT h1 di en.isEmpty;have r2:=Kw hE hT h1 di h2 q4
  have hv:∃ (v:Value) (f:Bool),f=(findD x es).isSome/\VD c.bad c.w ((findD x es).getD z) v/\((match nP x es en.toList 0 with
    |some (_,v)=>pure (v,true)
    |none=>do pure (<- zeroValue e,false):Sem (Value × Bool))).run E.P c.w=.ok (v,f) c.w:=by
   cases hf:jc x es with
   |none =>
    rw[Ks hf];refine⟨zv,false,rfl,y7 _ _,?_⟩;simp[nP,hf,hz]
   |some j =>
    obtain⟨p,p1,p2,p3⟩:=E7 hf;rw[p3];have hj:j<en.toList.length:=by rw[q4.1];exact aX p1
    refine⟨en.toList[j].val,true,rfl,(q4.2 j p.1 p.2 _ p1 (by simp)).2,?_⟩;have:en.toList[j]?=some en.toList[j]:=by simp
    simp only[nP,hf,Option.bind_some,this,Option.map_some];rfl
  obtain⟨v,f,rfl,fV,cV⟩:=hv;have main:(Instr.lookup t (.map (some blk)) u ok).run E.P c.w=.ok (if ok then .tuple #[v,.bool (findD x es).isSome]else v) c.w:=by
   simp only[Instr.lookup,Sem.run_bind,run_underlying g2,Result.andThen_ok,wI q3,Sem.run_pure,r1,r2];have:=cV;cases sB:nP x es en.toList 0 with
   |none =>
    rw[sB]at this;simp only[Sem.run_bind,Sem.run_pure]at this ⊢;rw[hz]at this ⊢;simp only[Result.andThen_ok,Result.ok.injEq,Prod.mk.injEq]at this ⊢;rw[<- this.1.1,<- this.1.2];first|exact⟨rfl,rfl⟩|exact⟨rfl,trivial⟩|rfl
   |some q =>
    rw[sB]at this;simp only[Sem.run_pure,Result.ok.injEq,Prod.mk.injEq]at this ⊢;rw[<- this.1.1,<- this.1.2];first|exact⟨rfl,rfl⟩|exact⟨rfl,trivial⟩|rfl
  refine⟨_,by simp only[execOp,e1,q1,hu,Sem.run_bind,main,Result.andThen_ok,Sem.run_pure];rfl,?_⟩;cases ok with
  |true =>
   refine .d _ _ (.aJ _ _ rfl fun j y w hy hw=>?_)
   match j with
   |0=>simp at hy hw;subst hy;subst hw;exact fV
   |1=>simp at hy hw;subst hy;subst hw;exact .bool _
   |j+2=>simp at hy
  |false=>exact .d _ _ fV
theorem Ky(hE:E.OK){op:Op}{t kt e:Nat}{m ko vo:Operand}(bX:op=.mapUpdate t m ko vo\/op=.insert t m ko vo){ti:bD}(cm:E.T[t]?=some ti)(hk:ti.k=.map kt e){kd:TK}(hT:uA E kt kd){b:Nat}{es:List (DV × DV)}(hb:h[b]?=some (.map es))(hm:bh E.G s m (.map b)){x y:DV}(hx:bh E.G s ko (.d x))(hy:bh E.G s vo (.d y))
  (h1:ea E.T kd x) (h2:∀ p∈es,ea E.T kd p.1):aQ E op s h (.d .undef) (h.set b (.map (cx x y es))):=fun o c ac e1 e2 h3 h4=>by
 subst e2;obtain⟨nN,d,g1,g2,g3,-⟩:=cO (hE.types t ti cm);have hd:d=.map kt e:=by rw[hk]at g3;cases d<;>first|(cases g3;rfl)|cases g3
 subst hd;have eu:=aX hb;obtain⟨blk,cap,en,ck,q1,q2,q3,qe,q4⟩:=BN h3 hb (hm c ac h3 h4);have di:=hx c ac h3 h4;have nM:=hy c ac h3 h4;generalize hu:ac.eval ko=u at di;generalize hw:ac.eval vo=w at nM;cases di with
 |d _ _ di=>cases nM with
  |d _ _ nM =>
   have r1:=Kx hE hT h1 di false;have r2:=Kw hE hT h1 di h2 q4;have hblk:blk<c.w.heap.size:=(h3.bH b blk cap q2).1;have main:∃ (uD:Array MapEntry) (wK:Nat),(Instr.mapUpdate t (.map (some blk)) u w).run E.P c.w=.ok () { c.w with heap:=c.w.heap.setIfInBounds blk (.map uD wK) }/\py uD wK (cx x y es).length /\
     ∀ (j:Nat) (k v:DV) (mm:MapEntry),(cx x y es)[j]?=some (k,v)->uD[j]?=some mm->VD c.bad c.w k mm.key/\VD c.bad c.w v mm.val:=by
    cases hf:jc x es with
    |none =>
     refine⟨en.push { key:=u,val:=w,born:=ck },ck+1,?_,?_,?_⟩
     ·simp only[Instr.mapUpdate,Sem.run_bind,run_underlying g2,Result.andThen_ok,wI q3,r1,r2,nP,hf,Option.bind_none,Kt _ q3]
     ·rw[E9 hf,List.length_append];exact qe.push u w
     ·intro j k v mm hj lr;rw[E9 hf]at hj;have hl:en.size=es.length:=by simpa using q4.1
      rcases Nat.lt_or_ge j es.length with ai|aG
      ·rw[List.getElem?_append_left ai]at hj;rw[Array.getElem?_push,if_neg (by omega)]at lr;exact q4.2 j k v mm hj (by simpa using lr)
      ·have lj:j=es.length:=by
        have:=aX hj;simp at this;omega
       subst lj;rw[List.getElem?_append_right (Nat.le_refl _)]at hj;simp at hj;obtain⟨rfl,rfl⟩:=hj;rw[Array.getElem?_push,if_pos hl.symm]at lr;cases lr;exact⟨di,nM⟩
    |some i =>
     obtain⟨p,p1,p2,p3⟩:=E7 hf;have hl:en.size=es.length:=by simpa using q4.1
     have hi:i<en.size:=by rw[hl];exact aX p1
     have y8:en[i]?=some en[i]:=by simp[hi]
     have Tp:=(q4.2 i p.1 p.2 en[i] p1 (by simp[hi])).1;have Fb:=Tf p2;have e3:=y0 h1 di;have e4:=y0 (h2 p (List.mem_of_getElem? p1)) Tp;have Tq:Instr.sameBits 10000 en[i].key u=true:=by
      rw[e3,e4,<- Fb];exact Th h1
     refine⟨en.modify i fun e=>{ e with key:=u,val:=w },ck,?_,?_,?_⟩
     ·have Fc:nP x es en.toList 0=some (i,en[i].val):=by
       simp[nP,hf,hi]
      have Tr:(Instr.keyThatStays en[i].key u).run E.P c.w=.ok u c.w:=by
       simp only[Instr.keyThatStays,Tq,if_true,Sem.run_pure]
      simp only[Instr.mapUpdate,Sem.run_bind,run_underlying g2,Result.andThen_ok,wI q3,r1,r2,Fc,y8,Option.map_some,Option.getD_some,Tr,Kt _ q3]
     ·rw[E8 hf,List.length_set];exact qe.modify i u w
     ·intro j k v mm hj lr;rw[E8 hf]at hj;by_cases y9:j=i
      ·subst y9;rw[List.getElem?_set_self (by omega)]at hj;cases hj;rw[Array.getElem?_modify,if_pos rfl,y8]at lr;cases lr;exact⟨di,nM⟩
      ·rw[List.getElem?_set_ne (Ne.symm y9)]at hj;rw[Array.getElem?_modify,if_neg (Ne.symm y9)]at lr;exact q4.2 j k v mm hj (by simpa using lr)
   obtain⟨uD,wK,cV,hlen,nQ⟩:=main
   let c':Cx:={ c with heap:=c.heap.set b (.map (cx x y es)),w:={ c.w with heap:=c.w.heap.setIfInBounds blk (.map uD wK) } }
   have Ts:c'.w.heap[blk]?=some (.map uD wK):=by simp[c',hblk]
   have Kz:∀ b',b'≠blk->c'.w.heap[b']?=c.w.heap[b']? := fun b' cT=>by simp[c',Array.getElem?_setIfInBounds,Ne.symm cT]
   have KA:c'.heap[b]?=some (.map (cx x y es)):=by show(c.heap.set b _)[b]?=_;rw[List.getElem?_set_self eu]
   have oH:∀ i,i≠b->c'.heap[i]?=c.heap[i]? := fun i hi=>by show(c.heap.set b _)[i]?=_;rw[List.getElem?_set_ne (Ne.symm hi)]
   have aV:Step c c':=⟨rfl,h3.bE,rfl,rfl,rfl,by simp[c'],fun b' _ dE=>Kz b' (fun zb=>dE b cap (zb ▸ q2)),fun i b' n hi _=>⟨n,hi⟩,fun i bx hi=>by
    by_cases bP:i=b
    ·subst bP;rw[hb]at hi;cases hi;exact .inl ⟨_,KA,rfl⟩
    ·rw[<- oH i bP]at hi;cases bx with
     |cells cs=>exact .inl ⟨cs,hi,rfl,rfl⟩
     |arr g sz l=>exact .inl ⟨g,l,hi,.inr ⟨rfl,rfl,rfl⟩⟩
     |map es=>exact .inl ⟨es,hi,rfl⟩
     |gone=>exact hi⟩
   have aN:aD E.G c':=by
    refine h3.next aV (fun i b' n hi=>?_) h3.inj (fun i bx hi=>?_)
    ·have:=h3.bH i b' n hi;refine⟨by simpa [c']using this.1,?_⟩;show i<(c.heap.set b _).length;rw[List.length_set];exact this.2
    ·by_cases bP:i=b
     ·subst bP;rw[KA]at hi;cases hi;right;exact⟨blk,cap,uD,wK,q2,Ts,hlen,fun j k v mm hj lr=>⟨aV.vd (nQ j k v mm hj lr).1,aV.vd (nQ j k v mm hj lr).2⟩⟩
     ·rw[oH i bP]at hi;exact .inl ⟨hi,rfl,fun b' n hn=>Kz b' (fun zb=>bP (h3.inj i b blk n cap (zb ▸ hn) q2))⟩
   refine⟨c',undef,.inr ⟨?_,rfl⟩,rfl,aN,.d _ _ .undef,aV⟩;rcases bX with rfl|rfl
   ·simp only[execOp,e1,q1,hu,hw,Sem.run_bind,cV,Result.andThen_ok,Sem.run_pure];rfl
   ·simp only[execOp,e1,q1,hu,hw,Sem.run_bind,cV,Result.andThen_ok,Sem.run_pure];rfl
theorem Tt(hE:E.OK){t:Nat}{args:Array Operand}{ts:Array TypeId}{m:Operand}(jU:args.toList[0]?=some m)(mT:ts.toList[0]?=some t){ti:bD}(cm:E.T[t]?=some ti){kt e:Nat}(hk:ti.k=.map kt e){b:Nat}{es:List (DV × DV)}(hb:h[b]?=some (.map es))(hm:bh E.G s m (.map b)) :
  aQ E (.call { callee := .builtin .len,args:=args,argTypes:=ts }) s h (.d (.int .i64 es.length)) h := .quiet fun o c ac e1 e2 h3 h4=>by
 subst e2;obtain⟨nN,d,g1,g2,g3,-⟩:=cO (hE.types t ti cm);have hd:d=.map kt e:=by rw[hk]at g3;cases d<;>first|(cases g3;rfl)|cases g3
 subst hd;obtain⟨blk,cap,en,ck,q1,q2,q3,qe,q4⟩:=BN h3 hb (hm c ac h3 h4);refine⟨.int .i64 es.length,?_,.d _ _ (.int _ _)⟩;have hl:en.size=es.length:=by simpa using q4.1
 have eK:args[0]?=some m:=by simpa using jU
 have qH:ts[0]?=some t:=by simpa using mT
 have dH:(args.map ac.eval)[0]?=some (.map (some blk)):=by rw[Array.getElem?_map,eK];simp[q1]
 simp only[execOp,e1,resolve,invoke,builtin,Builtin.len_,qH,dH,Sem.run_bind,Sem.run_pure,Result.andThen_ok,run_underlying g2,wI q3,goInt,hl]
def zc(E:Env)(kt:Nat)(stop:Prop)(k:TK->Prop):Prop:=aZ E.T kt stop fun i=>match i.k with
 | .int j=>k (.int j)
 | .string=>k .string
 | .bool=>k .bool
 | .struct fs=>match yX kt E.Q with
  |true=>k (.struct fs)
  |false=>stop
 |_=>stop
theorem Fe{kt:Nat}{stop:Prop}{k:TK->Prop}(H:zc E kt stop k):stop\/∃ kd,uA E kt kd/\k kd:=by
 unfold zc at H;rcases bl H with H|⟨i,hi,H⟩
 ·exact .inl H
 split at H
 ·rename_i q;exact .inr ⟨_,q ▸ .plain i hi (by rw[q];trivial),H⟩
 ·rename_i q;exact .inr ⟨_,q ▸ .plain i hi (by rw[q];trivial),H⟩
 ·rename_i q;exact .inr ⟨_,q ▸ .plain i hi (by rw[q];trivial),H⟩
 ·rename_i fs q;split at H
  ·rename_i q2;exact .inr ⟨_,.struct i hi fs q (BK q2),H⟩
  ·exact .inl H
 ·exact .inl H
def oK(E:Env)(o:Op)(s:List AV)(h:List af)(stop:Prop)(k:AV->List af->Prop):Prop :=
 match o with
 | .makeMap _ none=>lY h (.map []) 0 fun h' n=>k (.map n) h'
 | .lookup t m x ok=>aZ E.T t stop fun ti=>match ti.k with
  | .map kt e=>cL E.G s m stop fun
   | .map b=>aZ h b stop fun
    | .map es=>cL E.G s x stop fun
     | .d y=>zc E kt stop fun kd=>y6 E e kd y es fun v f=>match ok with
      |true=>k (.d (.aJ [v,.bool f])) h
      |false=>k (.d v) h
     |_=>stop
    |_=>stop
   |_=>stop
  |_=>stop
 | .call { callee := .builtin .len,args:=args,argTypes:=ts }=>aZ args.toList 0 stop fun m=>aZ ts.toList 0 stop fun t=>aZ E.T t stop fun ti=>match ti.k with
  | .map _ _=>cL E.G s m stop fun
   | .map b=>aZ h b stop fun
    | .map es=>k (.d (.int .i64 es.length)) h
    |_=>stop
   |_=>stop
  |_=>stop
 | .mapUpdate t m x v=>aZ E.T t stop fun ti=>match ti.k with
  | .map kt _=>cL E.G s m stop fun
   | .map b=>aZ h b stop fun
    | .map es=>cL E.G s x stop fun
     | .d y=>cL E.G s v stop fun
      | .d z=>zc E kt stop fun kd=>need (ea E.T kd y/\∀ p∈es,ea E.T kd p.1) (fL h b (.map (cx y z es)) fun h'=>k (.d .undef) h')
      |_=>stop
     |_=>stop
    |_=>stop
   |_=>stop
  |_=>stop
 |_=>stop
theorem Tu(hE:E.OK){o:Op}{stop:Prop}{k:AV->List af->Prop}(H:oK E o s h stop k):stop\/∃ v h',k v h'/\aQ E o s h v h':=by
 unfold oK at H;split at H
 ·rw[nD,Nat.zero_add]at H;exact .inr ⟨_,_,H,Tl⟩
 ·rename_i t m x ok;rcases bl H with H|⟨ti,cm,H⟩
  ·exact .inl H
  split at H
  ·rename_i kt e hk;rcases cM H with H|⟨a,ha,H⟩
   ·exact .inl H
   split at H
   ·rename_i b;rcases bl H with H|⟨bx,hb,H⟩
    ·exact .inl H
    split at H
    ·rename_i es;rcases cM H with H|⟨y,hy,H⟩
     ·exact .inl H
     split at H
     ·rename_i y;rcases Fe H with H|⟨kd,hT,H⟩
      ·exact .inl H
      obtain⟨z,zv,f1,f2,f3,f4,H⟩:=Tn H;have:=To (s:=s) hE cm hk hT hb ha hy f1 f2 f3 f4 ok;cases ok with
      |true=>exact .inr ⟨_,_,H,this⟩
      |false=>exact .inr ⟨_,_,H,this⟩
     ·exact .inl H
    ·exact .inl H
   ·exact .inl H
  ·exact .inl H
 ·rename_i args ts;rcases bl H with H|⟨m,hm,H⟩
  ·exact .inl H
  rcases bl H with H|⟨t,ht,H⟩
  ·exact .inl H
  rcases bl H with H|⟨ti,cm,H⟩
  ·exact .inl H
  split at H
  ·rename_i kt e hk;rcases cM H with H|⟨a,ha,H⟩
   ·exact .inl H
   split at H
   ·rename_i b;rcases bl H with H|⟨bx,hb,H⟩
    ·exact .inl H
    split at H
    ·exact .inr ⟨_,_,H,Tt hE hm ht cm hk hb ha⟩
    ·exact .inl H
   ·exact .inl H
  ·exact .inl H
 ·rename_i t m x v;rcases bl H with H|⟨ti,cm,H⟩
  ·exact .inl H
  split at H
  ·rename_i kt e hk;rcases cM H with H|⟨a,ha,H⟩
   ·exact .inl H
   split at H
   ·rename_i b;rcases bl H with H|⟨bx,hb,H⟩
    ·exact .inl H
    split at H
    ·rename_i es;rcases cM H with H|⟨y,hy,H⟩
     ·exact .inl H
     split at H
     ·rename_i y;rcases cM H with H|⟨z,hz,H⟩
      ·exact .inl H
      split at H
      ·rename_i z;rcases Fe H with H|⟨kd,hT,H⟩
       ·exact .inl H
       obtain⟨⟨f1,f2⟩,H⟩:=nH H;rw[gL]at H;exact .inr ⟨_,_,H,Ky hE (.inl rfl) cm hk hT hb ha hy hz f1 f2⟩
      ·exact .inl H
     ·exact .inl H
    ·exact .inl H
   ·exact .inl H
  ·exact .inl H
 ·exact .inl H
def gy(E:Env)(o:Op)(s:List AV)(h:List af)(stop:Prop)(k:AV->List af->Prop):Prop:=l9 E.T E.G o s h (sA E o s (oK E o s h stop k) fun v=>k v h) k
theorem uE(hE:E.OK){o:Op}{stop:Prop}{k:AV->List af->Prop}(H:gy E o s h stop k):stop\/∃ v h',k v h'/\aQ E o s h v h':=by
 rcases S3 hE H with H|H
 ·rcases Ta H with H|⟨v,H,ho⟩
  ·exact Tu hE H
  ·exact .inr ⟨v,h,H,ho h⟩
 ·exact .inr H
end
end Go.aA
end
