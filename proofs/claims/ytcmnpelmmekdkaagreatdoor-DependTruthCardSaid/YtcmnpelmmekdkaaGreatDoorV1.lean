/- Lemmas of mine. Conditions: as stated. -/
import Derived.Test.YtcmnpelmmekdkaaGreatDoorV0
import Derived.RangeFuncNested
import Derived.RangeFuncLeaves
import Derived.Laws.AppendOwn
import Derived.Laws.MakeOwn
import Derived.Laws.StructEq
import Derived.Laws.BytesString
import Derived.Lib.ConvBytes
import Derived.WideKeyRuns
import Derived.MapKept
set_option linter.unusedVariables false
set_option linter.unusedSimpArgs false
section
namespace Go.aA
open Go Go.RowKit
inductive aI where
 |code (c:Code)
 |inBlock (id:Nat)
 |inLoop (c:Code)
 |bF (ops:Array Oper) (l:List Oper)
 |qJ (l:Nat)
 |ui
def aI.bS:aI->Item
 | .code c => .code c
 | .inBlock id => .inBlock id
 | .inLoop c => .inLoop c
 | .bF ops l => .inRegion ops ((List.range ops.size).drop (ops.size-l.length))
 | .qJ l => .inRangeFunc l
 | .ui => .beginRound
def aI.ok:aI->Prop
 | .bF ops l=>∃ n,n<=ops.size/\l=ops.toList.drop n
 |_=>True
structure iE where
 f:FuncId
 cG:Option Nat
 aN:List Nat
def marks(l:List Nat):List Deferred:=l.map fun d=>{ target := .collected d,args := #[] }
structure cu where
 ae:iE
 todo:List aI
 jv:List AV
def bf(x:iE):Frame:={ (default:Frame)with fn:=x.f,kind := .normal,roundOf:=x.cG }
def cu.bS(f:cu)(t:Array Value):Frame:=(bf f.ae).atR ⟨t,marks f.ae.aN⟩ (f.todo.map aI.bS)
def cu.ok(f:cu):Prop:=∀ i∈f.todo,i.ok
def fq:List cu->List (Array Value)->List Frame
 |f::fs,t::ts=>f.bS t::fq fs ts
 |_,_=>[]
def CR(c:Cx):List cu->List (Array Value)->Prop
 |[],[]=>True
 |f::fs,t::ts=>VS c f.jv t/\f.ok/\CR c fs ts
 |_,_=>False
theorem qK{c c':Cx}(h:∀ x v,VR c x v->VR c' x v):∀ {fs:List cu} {ts:List (Array Value)},CR c fs ts->CR c' fs ts
 |[],[],_=>trivial
 |_::_,_::_,h'=>⟨⟨h'.1.1,fun i x v hx hv=>h x v (h'.1.2 i x v hx hv)⟩,h'.2.1,qK h h'.2.2⟩
theorem Step.cr{c c':Cx}(h:Step c c'):∀ {fs:List cu} {ts:List (Array Value)},CR c fs ts->CR c' fs ts
 |[],[],_=>trivial
 |_::_,_::_,h'=>⟨h.vs h'.1,h'.2.1,h.cr h'.2.2⟩
def yP(c0 c:Cx)(i:Nat):af->Prop
 | .cells cs=>(∃ cs',c.heap[i]?=some (.cells cs')/\c.own i=c0.own i/\cs'.length=cs.length)\/c.heap[i]?=some .gone
 | .arr _ ts l=>(∃ g' l',c.heap[i]?=some (.arr g' ts l')/\(0<g'\/g'=0/\l'.length=l.length/\c.own i=c0.own i))\/c.heap[i]?=some .gone
 | .map _=>(∃ eC,c.heap[i]?=some (.map eC)/\c.own i=c0.own i)\/c.heap[i]?=some .gone
 | .gone=>c.heap[i]?=some .gone
structure Rel(c0 c:Cx):Prop where
 ak:c.ak=c0.ak
 os:c.w.os=c0.w.os
 tape:c.w.tape=c0.w.tape
 output:c.w.output=c0.w.output
 size:c0.w.heap.size<=c.w.heap.size
 keep:∀ b,b<c0.w.heap.size->(∀ i n,c0.own i≠some (b,n))->c.w.heap[b]?=c0.w.heap[b]?
 dw:∀ i b n,c.own i=some (b,n)->b<c0.w.heap.size->∃ m,c0.own i=some (b,m)
 boxes:∀ i bx,c0.heap[i]?=some bx->yP c0 c i bx
def yQ(h:List af):Prop:=∀ (i g:Nat) (ts:Nat × Nat) (l:List DV),h[i]?=some (.arr g ts l)->g=0
theorem Rel.refl(c:Cx)(hf:yQ c.heap):Rel c c:=⟨rfl,rfl,rfl,rfl,Nat.le_refl _,fun _ _ _=>rfl,fun i b n h _=>⟨n,h⟩,fun i bx h=>by
  cases bx with
  |cells cs=>exact .inl ⟨cs,h,rfl,rfl⟩
  |arr g sz l=>exact .inl ⟨g,l,h,.inr ⟨hf i g sz l h,rfl,rfl⟩⟩
  |map es=>exact .inl ⟨es,h,rfl⟩
  |gone=>exact h⟩
theorem Rel.step{c0 c c':Cx}(h:Rel c0 c)(k:Step c c'):Rel c0 c' where
 ak:=k.ak.trans h.ak
 os:=k.os.trans h.os
 tape:=k.tape.trans h.tape
 output:=k.output.trans h.output
 size:=Nat.le_trans h.size k.size
 keep:=fun x hx hn=>by
  rw[k.keep x (Nat.lt_of_lt_of_le hx h.size) (fun i n hi=>by obtain⟨m,hj⟩:=h.dw i x n hi hx;exact hn i m hj)];exact h.keep x hx hn
 dw:=fun i x n hi hx=>by
  obtain⟨m,hj⟩:=k.dw i x n hi (Nat.lt_of_lt_of_le hx h.size);exact h.dw i x m hj hx
 boxes:=fun i bx hi=>by
  have h1:=h.boxes i bx hi;cases bx with
  |cells cs =>
   rcases h1 with⟨cs',h1,h2,h3⟩|h1
   ·rcases k.boxes i _ h1 with⟨Er,k1,k2,k3⟩|k1
    ·exact .inl ⟨Er,k1,k2.trans h2,k3.trans h3⟩
    ·exact .inr k1
   ·exact .inr (k.boxes i _ h1)
  |arr g sz l =>
   rcases h1 with⟨g',l',h1,h2⟩|h1
   ·rcases k.boxes i _ h1 with⟨Es,Et,k1,k2⟩|k1
    ·refine .inl ⟨Es,Et,k1,?_⟩;rcases h2 with h2|⟨h2,h3,h4⟩<;>rcases k2 with k2|⟨k2,k3,k4⟩
     ·left;omega
     ·left;omega
     ·left;omega
     ·exact .inr ⟨k2.trans h2,k3.trans h3,k4.trans h4⟩
    ·exact .inr k1
   ·exact .inr (k.boxes i _ h1)
  |map es =>
   rcases h1 with⟨eC,h1,h2⟩|h1
   ·rcases k.boxes i _ h1 with⟨Eu,k1,k2⟩|k1
    ·exact .inl ⟨Eu,k1,k2.trans h2⟩
    ·exact .inr k1
   ·exact .inr (k.boxes i _ h1)
  |gone=>exact k.boxes i _ h1
structure eZ(c0 c:Cx):Prop where
 lim:∀ b,c0.ak b->b<c0.w.heap.size
 l5:∀ i p,c0.own i=some p->i<c0.heap.length
 ak:∀ b,c0.ak b->c.ak b
 ow:∀ b,c.ak b->c0.ak b\/c0.w.heap.size<=b
 os:c.w.os=c0.w.os
 tape:c.w.tape=c0.w.tape
 output:c.w.output=c0.w.output
 size:c0.w.heap.size<=c.w.heap.size
 keep:∀ b,b<c0.w.heap.size->(∀ i n,c0.own i≠some (b,n))->c.w.heap[b]?=c0.w.heap[b]?
 dw:∀ i b n,c.own i=some (b,n)->b<c0.w.heap.size->∃ m,c0.own i=some (b,m)
 boxes:∀ i bx,c0.heap[i]?=some bx->yP c0 c i bx
theorem Rel.x{c0 c:Cx}(h:Rel c0 c)(hb:∀ b,c0.ak b->b<c0.w.heap.size)(ho:∀ i b n,c0.own i=some (b,n)->b<c0.w.heap.size/\i<c0.heap.length):eZ c0 c:=⟨hb,fun i p hp=>(ho i p.1 p.2 hp).2,fun b h'=>by rw[h.ak];exact h',fun b h'=>by rw[h.ak]at h';exact .inl h',h.os,h.tape,h.output,h.size,h.keep,h.dw,h.boxes⟩
theorem eZ.step{c0 c c':Cx}(h:eZ c0 c)(k:Step c c'):eZ c0 c':=by
 have h1:Rel ({ c0 with ak:=c.ak }) c:=⟨rfl,h.os,h.tape,h.output,h.size,h.keep,h.dw,fun i bx hi=>by
  have:=h.boxes i bx hi
  cases bx<;>exact this⟩
 have h2:=h1.step k
 exact⟨h.lim,h.l5,fun b hb=>by rw[k.ak];exact h.ak b hb,fun b hb=>by rw[k.ak]at hb;exact h.ow b hb,h2.os,h2.tape,h2.output,h2.size,h2.keep,h2.dw,fun i bx hi=>by
  have:=h2.boxes i bx hi
  cases bx<;>exact this⟩
def Cx.oy(c:Cx)(ak:Nat->Prop):Cx:={ c with ak:=ak }
theorem eZ.clean{c0 c:Cx}(h:eZ c0 c):Rel c0 (c.oy c0.ak):=⟨rfl,h.os,h.tape,h.output,h.size,h.keep,h.dw,fun i bx hi=>by
 have:=h.boxes i bx hi
 cases bx<;>exact this⟩
theorem mN{c c':Cx}{i:Nat}{bx:af}(h1:c.heap[i]?=some bx)(h2:c'.heap[i]?=c.heap[i]?)(h3:c'.own i=c.own i):tT c c' i bx:=by
 rw[h1]at h2;cases bx with
 |cells cs=>exact .inl ⟨cs,h2,h3,rfl⟩
 |arr g sz l=>exact .inl ⟨g,l,h2,.inr ⟨rfl,rfl,h3⟩⟩
 |map es=>exact .inl ⟨es,h2,h3⟩
 |gone=>exact h2
theorem jr.gen{c c':Cx}(l6:∀ x v,VR c x v->VR c' x v)(fR:∀ x v,VD c.bad c.w x v->VD c'.bad c'.w x v){i:Nat}{bx:af}(hb:jr c i bx)(ho:c'.own i=c.own i)(hw:∀ b n,c.own i=some (b,n)->c'.w.heap[b]?=c.w.heap[b]?):jr c' i bx:=by
 cases bx with
 |cells cs =>
  obtain⟨blk,cap,vs,ty,h1,h2,h3,h4⟩:=hb;exact⟨blk,cap,vs,ty,ho.trans h1,(hw blk cap h1).trans h2,h3,fun j x v hx hv=>l6 x v (h4 j x v hx hv)⟩
 |arr g ts l =>
  obtain⟨h0,h1,h2⟩:=hb;refine⟨h0,h1,?_⟩;rcases h2 with⟨h2,h3⟩|⟨blk,cap,vs,h2,h3,h4,h5,h6,h7⟩
  ·exact .inl ⟨ho.trans h2,h3⟩
  ·refine .inr ⟨blk,cap,vs,ho.trans h2,(hw blk cap h2).trans h3,h4,h5,h6,fun i j e x he hx=>?_⟩;obtain⟨v,h8,yz,h9⟩:=h7 i j e x he hx;exact⟨v,h8,yz,fR x v h9⟩
 |map es =>
  obtain⟨blk,cap,en,ck,h1,h2,h3,h4⟩:=hb;exact⟨blk,cap,en,ck,ho.trans h1,(hw blk cap h1).trans h2,h3,fun j k x m hx hm=>⟨fR _ _ (h4 j k x m hx hm).1,fR _ _ (h4 j k x m hx hm).2⟩⟩
 |gone=>exact ho.trans hb
theorem J2{c:Cx}{ak:Nat->Prop}(hb:∀ b,ak b->c.ak b)(b:Nat)(_:b<c.w.heap.size)(hn:¬ c.bad b):¬ (c.oy ak).bad b/\(c.oy ak).w.heap[b]?=c.w.heap[b]? :=
 ⟨fun h=>hn (h.elim (fun h => .inl (hb b h)) .inr),rfl⟩
theorem ES{c:Cx}{ak:Nat->Prop}(hb:∀ b,ak b->c.ak b){x:AV}{v:Value}(hv:VR c x v):VR (c.oy ak) x v:=sm (J2 hb) (fun _ _ hi=>mN hi rfl rfl) hv
theorem aE.oy{G:List (Nat × DV)}{c:Cx}{ak:Nat->Prop}(ho:aE G c)(hb:∀ b,ak b->c.ak b):aE G (c.oy ak) where
 bE:=fun b h=>ho.bE b (hb b h)
 bI:=ho.bI
 inj:=ho.inj
 sep:=fun i b n hi h=>ho.sep i b n hi (hb b h)
 box:=fun i bx hi=>(ho.box i bx hi).gen (fun _ _=>ES hb) (fun _ _ hv=>hv.mono (J2 hb)) rfl (fun _ _ _=>rfl)
 fB:=fun g e hg=>ES hb (ho.fB g e hg)
structure Row where
 blk:Nat
 cap:Nat
 ts:Nat × Nat
 l:List DV
structure qL(lim:Nat)(c:Cx)(r:Row):Prop where
 ak:c.ak r.blk
 new:lim<=r.blk
 pos:0<r.ts.2
 len:∀ (i:Nat) (e:DV),r.l[i]?=some e->e.cells.length=r.ts.2
 mem:∃ vs:Array Value,c.w.heap[r.blk]?=some (.cells vs r.ts.1 (0,0))/\vs.size=r.cap*r.ts.2/\r.l.length<=r.cap/\r.cap<=maxLen /\
  ∀ (i j:Nat) (e x:DV),r.l[i]?=some e->e.cells[j]?=some x->∃ v,vs[i*r.ts.2+j]?=some v/\v.oneCell'=true/\VD c.bad c.w x v
structure Iter where
 bm:Nat
 r:Nat
 en:Array MapEntry
 ck:Nat
 since:Nat
 seen:List Nat
 es:List (DV × DV)
structure l7(lim:Nat)(c:Cx)(i:Iter):Prop where
 ET:c.ak i.bm
 yR:c.ak i.r
 J3:lim<=i.r
 map:c.w.heap[i.bm]?=some (.map i.en i.ck)
 iter:∃ c0,i.since<=c0/\(i.seen≠[]->c0=i.ck)/\c.w.heap[i.r]?=some (.mapIter (some i.bm) i.since ((i.seen.map fun j=>((i.en[j]?).map (·.born)).getD 0).toArray) c0)
 old:∀ x∈i.en.toList,x.born<i.since
 qM:pw i.en i.ck i.es.length
 val:∀ (j:Nat) (k x:DV) (m:MapEntry),i.es[j]?=some (k,x)->i.en[j]?=some m->VD c.bad c.w k m.key/\VD c.bad c.w x m.val
 lt:∀ j∈i.seen,j<i.en.size
structure mO where
 l:Nat
 d:Nat
 st:LoopState
 pe:Option Code
 fn:FuncId
 tm:Array Value
 ps:Array Tmp
 assign:Code
 body:Code
 jv:List AV
def mO.fC(i:mO):Loop:={ state:=i.st,pending:=i.pe,fn:=i.fn,tmps:=i.tm,params:=i.ps,assign:=i.assign,body:=i.body,defers:=i.d }
structure oz(lim:Nat)(c:Cx)(i:mO):Prop where
 ak:c.ak i.l
 new:lim<=i.l
 mem:c.w.heap[i.l]?=some (.loop i.fC)
 jv:VS c i.jv i.tm
structure sy(lim:Nat)(c:Cx)(d:Nat):Prop where
 ak:c.ak d
 new:lim<=d
 mem:c.w.heap[d]?=some (.deferred (some []))
inductive bV where
 |row (r:Row)
 |iter (i:Iter)
 |loop (i:mO)
 |mark (d:Nat)
def bV.cZ:bV->List Nat
 | .row r=>[r.blk]
 | .iter i=>[i.bm,i.r]
 | .loop i=>[i.l]
 | .mark d=>[d]
def ja(lim:Nat)(c:Cx):bV->Prop
 | .row r=>qL lim c r
 | .iter i=>l7 lim c i
 | .loop i=>oz lim c i
 | .mark d=>sy lim c d
structure gN(lim:Nat)(c:Cx)(rows:List bV):Prop where
 each:∀ r∈rows,ja lim c r
 nodup:(rows.flatMap bV.cZ).Nodup
theorem gN.nil{lim:Nat}{c:Cx}:gN lim c []:=⟨fun r hr=>by simp at hr,List.nodup_nil⟩
theorem qL.gen{lim:Nat}{c c':Cx}{r:Row}(h:qL lim c r)(hb:c'.ak r.blk)(hw:c'.w.heap[r.blk]?=c.w.heap[r.blk]?)(fR:∀ x v,VD c.bad c.w x v->VD c'.bad c'.w x v):qL lim c' r:=by
 obtain⟨h1,h2,h3,h4,vs,h5,h6,h7,h8,h9⟩:=h;exact⟨hb,h2,h3,h4,vs,hw.trans h5,h6,h7,h8,fun i j e x he hx=>by obtain⟨v,k1,k2,k3⟩:=h9 i j e x he hx;exact⟨v,k1,k2,fR x v k3⟩⟩
theorem l7.gen{lim:Nat}{c c':Cx}{i:Iter}(h:l7 lim c i)(hb:c'.ak i.bm)(hr:c'.ak i.r)(hw:c'.w.heap[i.bm]?=c.w.heap[i.bm]?)(uj:c'.w.heap[i.r]?=c.w.heap[i.r]?)(fR:∀ x v,VD c.bad c.w x v->VD c'.bad c'.w x v):l7 lim c' i:=by
 obtain⟨h1,h2,h3,h4,h5,h6,h7,h8,h9⟩:=h;exact⟨hb,hr,h3,hw.trans h4,(by obtain⟨c0,k1,k0,k2⟩:=h5;exact⟨c0,k1,k0,uj.trans k2⟩),h6,h7,fun j k x m h1 h2=>⟨fR _ _ (h8 j k x m h1 h2).1,fR _ _ (h8 j k x m h1 h2).2⟩,h9⟩
theorem ja.ak{lim:Nat}{c:Cx}:∀ {g:bV},ja lim c g->∀ b∈g.cZ,c.ak b
 | .row r,h,b,hb=>by simp[bV.cZ]at hb;subst hb;exact qL.ak h
 | .iter i,h,b,hb=>by simp[bV.cZ]at hb;rcases hb with rfl|rfl;exact l7.ET h;exact l7.yR h
 | .loop i,h,b,hb=>by simp[bV.cZ]at hb;subst hb;exact oz.ak h
 | .mark d,h,b,hb=>by simp[bV.cZ]at hb;subst hb;exact sy.ak h
theorem ja.gen{lim:Nat}{c c':Cx}{g:bV}(h:ja lim c g)(hb:∀ b∈g.cZ,c'.ak b/\c'.w.heap[b]?=c.w.heap[b]?)(fR:∀ x v,VD c.bad c.w x v->VD c'.bad c'.w x v)(l6:∀ x v,VR c x v->VR c' x v):ja lim c' g:=by
 cases g with
 |loop i =>
  obtain⟨h1,h2,h3,h4⟩:=h;have:=hb i.l (by simp[bV.cZ]);exact⟨this.1,h2,this.2.trans h3,h4.1,fun j x v hx hv=>l6 x v (h4.2 j x v hx hv)⟩
 |mark d =>
  obtain⟨h1,h2,h3⟩:=h;have:=hb d (by simp[bV.cZ]);exact⟨this.1,h2,this.2.trans h3⟩
 |row r=>exact qL.gen h (hb _ (by simp[bV.cZ])).1 (hb _ (by simp[bV.cZ])).2 fR
 |iter i=>exact l7.gen h (hb i.bm (by simp[bV.cZ])).1 (hb i.r (by simp[bV.cZ])).1 (hb i.bm (by simp[bV.cZ])).2 (hb i.r (by simp[bV.cZ])).2 fR
theorem gN.step{G:List (Nat × DV)}{lim:Nat}{c c':Cx}{rows:List bV}(h:gN lim c rows)(ho:aE G c)(st:Step c c'):gN lim c' rows :=
 ⟨fun r hr=>(h.each r hr).gen (fun b hb=>by
  have h1:=(h.each r hr).ak b hb
  exact⟨by rw[st.ak];exact h1,st.keep b (ho.bE _ h1) (fun i n hi=>ho.sep i _ n hi h1)⟩) (fun _ _=>st.vd) (fun _ _=>st.vr),h.nodup⟩
def bV.flat:bV->Prop
 | .loop _=>False
 |_=>True
structure ev(lim:Nat)(c:Cx)(rows loops:List bV):Prop where
 all:gN lim c (rows++loops)
 flat:∀ g∈rows,g.flat
theorem ev.nil{lim:Nat}{c:Cx}:ev lim c [] []:=⟨.nil,fun g h=>by simp at h⟩
theorem ev.step{G:List (Nat × DV)}{lim:Nat}{c c':Cx}{rows loops:List bV}(h:ev lim c rows loops)(ho:aE G c)(st:Step c c'):ev lim c' rows loops:=⟨h.all.step ho st,h.flat⟩
structure FX where
 f0:FuncId
 cG:Option Nat
 aN:List Nat
 cls:List cu
 loops:List bV
 inl:List FuncId
structure bZ where
 n:Nat
 Q:AV->List af->Prop
 rows:List bV
 fx:FX
@[irreducible] def AW (E : Env) (f0 : FuncId) (cur : cu) (cls : List cu) (h : List af) (R : bZ) : Prop :=
 ∀ (c0 c:Cx) (t:Array Value) (ts:List (Array Value)),c0.heap.length=R.n->cur.ok->c.heap=h->aE E.G c->eZ c0 c->ev c0.w.heap.size c R.rows R.fx.loops->VS c cur.jv t->CR c cls ts->∀ cs,∃ (c':Cx) (fr:Frame) (r:AV) (v:Value),
  R.Q r c'.heap/\VR c' r v/\aE E.G c'/\eZ c0 c'/\Steps E.P (lone (cur.bS t) (fq cls ts++cs) c.w) (lone fr cs c'.w)/\fr.fn=f0/\fr.leaving E.P c'.w (.returned v)
def EU(E:Env)(cur:cu)(cls:List cu)(h:List af)(cur':cu)(cls':List cu)(h':List af):Prop :=
 ∀ (c:Cx) (t:Array Value) (ts:List (Array Value)),cur.ok->c.heap=h->aE E.G c->VS c cur.jv t->CR c cls ts->∃ (c':Cx) (t':Array Value) (ec:List (Array Value)),
  cur'.ok/\c'.heap=h'/\aE E.G c'/\VS c' cur'.jv t'/\CR c' cls' ec/\Step c c'/\∀ cs,Steps E.P (lone (cur.bS t) (fq cls ts++cs) c.w) (lone (cur'.bS t') (fq cls' ec++cs) c'.w)
theorem AW.jX{E:Env}{f0:FuncId}{cur cur':cu}{cls cls':List cu}{h h':List af}{R:bZ}(hl:EU E cur cls h cur' cls' h')(H:AW E f0 cur' cls' h' R):AW E f0 cur cls h R:=by
 unfold AW at H ⊢;intro c0 c t ts h0 h1 h2 h3 hr cb h4 h5 cs;obtain⟨c',t',ec,k1,k2,k3,k4,k5,k6,k7⟩:=hl c t ts h1 h2 h3 h4 h5;obtain⟨c2,fr,r,v,e1,e2,e3,e4,e5,e6⟩:=H c0 c' t' ec h0 k1 k2 k3 (hr.step k6) (cb.step h3 k6) k4 k5 cs;exact⟨c2,fr,r,v,e1,e2,e3,e4,(k7 cs).trans e5,e6⟩
section
variable {E:Env} {f0:FuncId} {ae:iE} {k:List aI} {s:List AV} {cls:List cu} {h:List af} {R:bZ}
theorem EU.todo{td EV:List aI}(aO:(∀ i∈td,i.ok)->∀ i∈EV,i.ok)(hs:∀ (a:Act) (cs:List Frame) (w:World),step E.P (lone ((bf ae).atR a (td.map aI.bS)) cs w)=.next (lone ((bf ae).atR a (EV.map aI.bS)) cs w)) :
  EU E ⟨ae,td,s⟩ cls h ⟨ae,EV,s⟩ cls h:=fun c t ts h1 h2 h3 h4 h5 =>
 ⟨c,t,ts,aO h1,h2,h3,h4,h5,Step.refl c h3.bE,fun _ => .one (hs _ _ _)⟩
theorem ee{i:aI}(h:∀ j∈i::k,j.ok):∀ j∈k,j.ok:=fun j hj=>h j (List.mem_cons_of_mem _ hj)
theorem wE{c:Code}:(aI.code c).ok:=trivial
theorem Si{n:Nat}:(aI.inBlock n).ok:=trivial
theorem J4{c:Code}:(aI.inLoop c).ok:=trivial
theorem gP{i:aI}(h:i.ok)(hk:∀ j∈k,j.ok):∀ j∈i::k,j.ok:=fun j hj=>by
 rcases List.mem_cons.1 hj with rfl|hj
 ·exact h
 ·exact hk j hj
theorem AW.skip(H:AW E f0 ⟨ae,k,s⟩ cls h R):AW E f0 ⟨ae,.code .skip::k,s⟩ cls h R := .jX (.todo ee fun _ _ _=>stepR_skip) H
theorem AW.inBlock{id:Nat}(H:AW E f0 ⟨ae,k,s⟩ cls h R):AW E f0 ⟨ae,.inBlock id::k,s⟩ cls h R := .jX (.todo ee fun _ _ _=>stepR_inBlock) H
theorem AW.seq{a b:Code}(H:AW E f0 ⟨ae,.code a :: .code b::k,s⟩ cls h R):AW E f0 ⟨ae,.code (.seq a b)::k,s⟩ cls h R := .jX (.todo (fun h=>gP wE (gP wE (ee h))) fun _ _ _=>stepR_seq) H
theorem AW.block{id:Nat}{b:Code}(H:AW E f0 ⟨ae,.code b :: .inBlock id::k,s⟩ cls h R):AW E f0 ⟨ae,.code (.block id b)::k,s⟩ cls h R := .jX (.todo (fun h=>gP wE (gP Si (ee h))) fun _ _ _=>stepR_block) H
theorem AW.loop{b:Code}(H:AW E f0 ⟨ae,.code b :: .inLoop b::k,s⟩ cls h R):AW E f0 ⟨ae,.code (.loop b)::k,s⟩ cls h R := .jX (.todo (fun h=>gP wE (gP J4 (ee h))) fun _ _ _=>stepR_loop) H
theorem AW.inLoop{b:Code}(H:AW E f0 ⟨ae,.code b :: .inLoop b::k,s⟩ cls h R):AW E f0 ⟨ae,.inLoop b::k,s⟩ cls h R := .jX (.todo (fun h=>gP wE (gP J4 (ee h))) fun _ _ _=>stepR_inLoop) H
theorem AW.region{id:Nat}{ops:Array Oper}(H:AW E f0 ⟨ae,.bF ops ops.toList::k,s⟩ cls h R):AW E f0 ⟨ae,.code (.region id ops false)::k,s⟩ cls h R :=
 .jX (.todo (fun h=>gP (i := .bF ops ops.toList) ⟨0,by simp,by simp⟩ (ee h)) fun a cs w=>by
  rw[List.map_cons,List.map_cons];simp only[aI.bS];rw[stepR_region]
  simp) H
theorem AW.Sj{ops:Array Oper}(H:AW E f0 ⟨ae,k,s⟩ cls h R):AW E f0 ⟨ae,.bF ops []::k,s⟩ cls h R :=
 .jX (.todo ee fun a cs w=>by
  rw[List.map_cons];simp only[aI.bS,List.length_nil,Nat.sub_zero]
  rw[List.drop_of_length_le (by simp),stepR_region_end]) H
def pC(id:Nat):List aI->Option (List aI)
 | .inBlock i::r=>match Nat.beq i id with
  |true=>some r
  |false=>pC id r
 |_::r=>pC id r
 |[]=>none
theorem uk{id:Nat}:∀ {l r:List aI},pC id l=some r->exitTo id (l.map aI.bS)=some (r.map aI.bS)
 | .inBlock i::l,r,hl=>by
  simp only[pC]at hl;simp only[List.map_cons,aI.bS,exitTo];split at hl
  ·rename_i q;cases hl;rw[if_pos (by simpa using Nat.eq_of_beq_eq_true q)]
  ·rename_i q
   rw[if_neg (by intro hh;have : i=id := by simpa using hh
                 rw[this, Nat.beq_refl]at q;cases q)]
   exact uk hl
 | .code c::l,r,hl=>uk (l:=l) hl
 | .inLoop c::l,r,hl=>uk (l:=l) hl
 | .qJ c::l,r,hl=>uk (l:=l) hl
 | .ui::l,r,hl=>uk (l:=l) hl
 | .bF ops q::l,r,hl=>uk (l:=l) hl
theorem um{id:Nat}:∀ {l r:List aI},pC id l=some r->(∀ i∈l,i.ok)->∀ i∈r,i.ok
 | .inBlock i::l,r,hl,hk=>by
  simp only[pC]at hl;split at hl
  ·cases hl;exact ee hk
  ·exact um hl (ee hk)
 | .code c::l,r,hl,hk=>um (l:=l) hl (ee hk)
 | .inLoop c::l,r,hl,hk=>um (l:=l) hl (ee hk)
 | .qJ c::l,r,hl,hk=>um (l:=l) hl (ee hk)
 | .ui::l,r,hl,hk=>um (l:=l) hl (ee hk)
 | .bF ops q::l,r,hl,hk=>um (l:=l) hl (ee hk)
theorem AW.exit{id:Nat}{r:List aI}(hr:pC id k=some r)(H:AW E f0 ⟨ae,r,s⟩ cls h R):AW E f0 ⟨ae,.code (.exit id)::k,s⟩ cls h R :=
 .jX (.todo (fun h=>um hr (ee h)) fun _ _ _=>stepR_exit (uk hr)) H
theorem AW.cond{x:Operand}{a b:Code}{t:Bool}(hx:bh E.G s x (.d (.bool t)))(H:AW E f0 ⟨ae,.code (if t then a else b)::k,s⟩ cls h R):AW E f0 ⟨ae,.code (.cond x a b)::k,s⟩ cls h R :=
 .jX (cur':=⟨ae,.code (if t then a else b)::k,s⟩) (cls':=cls) (h':=h) (fun c t' ts h1 h2 h3 h4 h5=>⟨c,t',ts,gP wE (ee h1),h2,h3,h4,h5,Step.refl c h3.bE,fun _ => .one (stepR_cond (tZ (hx c ⟨t',marks ae.aN⟩ h3 h4)))⟩) H
theorem mP{ops:Array Oper}{o:Oper}{l:List Oper}(hk:(aI.bF ops (o::l)).ok):∃ i,ops[i]?=some o/\(aI.bF ops (o::l)).bS=.inRegion ops (i::(List.range ops.size).drop (ops.size-l.length))/\(aI.bF ops l).ok:=by
 obtain⟨n,h1,h2⟩:=hk;have h3:(ops.toList.drop n).length=l.length+1:=by rw[<- h2];rfl
 have h4:ops.size-n=l.length+1:=by simpa using h3
 have hn:n<ops.size:=by omega
 refine⟨n,?_,?_,n+1,by omega,?_⟩
 ·have:=congrArg (·[0]?) h2;simp at this
  simpa using this.symm
 ·simp only[aI.bS,List.length_cons]
  congr 1
  rw[show ops.size-(l.length+1)=n by omega,show ops.size-l.length=n+1 by omega];rw[List.drop_eq_getElem_cons (by simpa using hn)];simp
 ·have:=congrArg List.tail h2
  simpa using this
theorem BM{P:Program}{o:Oper}{ρ : Operand->Value}{ro:Option Nat}{w w':World}{n:Next}(h:(execOp ρ o).run P w=.ok n w')(hn:∀ d,n ≠ .defer d):(o.semAt ro ρ).run P w=.ok n w':=by
 rw[Oper.semAt_eq]
 ·exact h
 ·intro c hc;simp only[execOp,hc,Sem.run_bind]at h;cases hr:(resolve ρ c o.type).run P w with
  |ok d w1 =>
   rw[hr]at h;simp only[Result.andThen_ok,Sem.run_pure]at h;cases h;exact hn d rfl
  |halt a b=>rw[hr]at h;cases h
theorem uo{P:Program}{b:Frame}{a:Act}{k:List Item}{cs:List Frame}{w w':World}{ops:Array Oper}{i:Nat}{rest:List Nat}{o:Oper}{v:Value}(ho:ops[i]?=some o)(hw:Region.wanted o (yielded ops a.tmps)=true)(hd:EC P o a w v w') :
  step P (lone (b.atR a (.inRegion ops (i::rest)::k)) cs w)=.next (lone (b.atR (a.put o.dst v) (.inRegion ops rest::k)) cs w'):=by
 have hg:=stepGR_op (P:=P) (b:=b) (k:=k) (cs:=cs) (w:=w) (rest:=rest) ho hw;have fJ:∀ v,(b.atR a (.inRegion ops (i::rest)::k)).finish v=b.atR (a.put o.dst v) (.inRegion ops rest::k):=by
  intro v;rw[Frame.finish_atR,ho];rfl
 rcases hd with hr|⟨hr,rfl⟩
 ·exact step_lone_go (by rw[hg,<- fJ];simp[stepG.apply,BM hr])
 ·exact step_lone_go (by rw[hg,<- fJ];simp[stepG.apply,BM hr])
def bM(s:List AV)(d:Option Nat)(v:AV):List AV:=match d with
 |some d=>s.set d v
 |none=>s
theorem df{α:Sort _}(s:List AV)(d:Option Nat)(v:AV)(k:List AV->α):bL s d v k=k (bM s d v):=by
 cases d with
 |none=>rfl
 |some d=>simp only[bL,gJ,bM]
theorem VS.bM{c:Cx}{a:Act}(hs:VS c s a.tmps)(d:Option Nat){x:AV}{v:Value}(hv:VR c x v):VS c (bM s d x) (a.put d v).tmps:=by
 cases d with
 |none=>exact hs
 |some d=>exact hs.put d hv
theorem put_defers(a:Act)(d:Option Nat)(v:Value):(a.put d v)=⟨(a.put d v).tmps,a.defers⟩:=by cases d<;>rfl
def iF(ops:Array Oper)(o:Oper)(s:List AV)(b:Bool):Prop:=∀ (c:Cx) (t:Array Value),VS c s t->Region.wanted o (yielded ops t)=b
theorem eK{ops:Array Oper}{o:Oper}(h:o.guard=none):iF ops o s true:=fun _ _ _=>by simp[Region.wanted,h]
theorem BN{ops:Array Oper}{o oj:Oper}{j d:Nat}{g b:Bool}(h:o.guard=some (j,g))(hj:ops.toList[j]?=some oj)(hd:oj.dst=some d)(hs:s[d]?=some (.d (.bool b))):iF ops o s (b==g):=fun c t hv=>by
 have eE:d<t.size:=by
  rw[<- hv.1];rcases Nat.lt_or_ge d s.length with h|h
  ·exact h
  ·rw[List.getElem?_eq_none h]at hs;cases hs
 have ht:t[d]?=some (.bool b):=by
  rw[Array.getElem?_eq_getElem eE,tZ (hv.2 d _ _ hs (Array.getElem?_eq_getElem eE))]
 have dL:ops[j]?=some oj:=by simpa using hj
 simp only[Region.wanted,h,yielded,dL,hd,Option.bind_some,ht];cases b<;>cases g<;>rfl
theorem yS{ops:Array Oper}{o oj:Oper}{j d:Nat}{g:Bool}(h:o.guard=some (j,g))(hj:ops.toList[j]?=some oj)(hd:oj.dst=some d)(hs:s[d]?=some (.d .undef)):iF ops o s false:=fun c t hv=>by
 have eE:d<t.size:=by
  rw[<- hv.1];rcases Nat.lt_or_ge d s.length with h|h
  ·exact h
  ·rw[List.getElem?_eq_none h]at hs;cases hs
 have ht:t[d]?=some Go.undef:=by
  have:=hv.2 d _ _ hs (Array.getElem?_eq_getElem eE);rw[Array.getElem?_eq_getElem eE];generalize t[d]=u at this;cases this with
  |d _ _ hx=>cases hx;rfl
 have dL:ops[j]?=some oj:=by simpa using hj
 simp only[Region.wanted,h,yielded,dL,hd,Option.bind_some,ht];rfl
theorem AW.op{ops:Array Oper}{o:Oper}{l:List Oper}{v:AV}{h':List af}(hw:iF ops o s true)(ho:aZ E o.op s h v h')(H:AW E f0 ⟨ae,.bF ops l::k,bM s o.dst v⟩ cls h' R):AW E f0 ⟨ae,.bF ops (o::l)::k,s⟩ cls h R :=
 .jX (fun c t ts h1 h2 h3 h4 h5=>by
  obtain⟨i,hi,hc,aO⟩:=mP (h1 _ (List.mem_cons_self ..));obtain⟨c',u,k1,k2,k3,k4,k5⟩:=ho o c ⟨t,marks ae.aN⟩ rfl h2 h3 h4;refine⟨c',((⟨t,marks ae.aN⟩:Act).put o.dst u).tmps,ts,gP aO (ee h1),k2,k3,VS.bM (a:=⟨t,marks ae.aN⟩) (k5.vs h4) o.dst k4,k5.cr h5,k5,fun cs => .one ?_⟩;simp only[cu.bS,List.map_cons,hc];rw[uo hi (hw c t h4) k1,put_defers]
  rfl) H
theorem AW.J5{ops:Array Oper}{o:Oper}{l:List Oper}(hw:iF ops o s false)(H:AW E f0 ⟨ae,.bF ops l::k,bM s o.dst (.d .undef)⟩ cls h R):AW E f0 ⟨ae,.bF ops (o::l)::k,s⟩ cls h R :=
 .jX (fun c t ts h1 h2 h3 h4 h5=>by
  obtain⟨i,hi,hc,aO⟩:=mP (h1 _ (List.mem_cons_self ..));refine⟨c,((⟨t,marks ae.aN⟩:Act).put o.dst Go.undef).tmps,ts,gP aO (ee h1),h2,h3,VS.bM (a:=⟨t,marks ae.aN⟩) h4 o.dst (.d _ _ .undef),h5,Step.refl c h3.bE,fun cs => .one ?_⟩;simp only[cu.bS,List.map_cons,hc];rw[stepR_op_skip (by simp[hi];exact hw c t h4)];simp only[hi,Option.bind_some];rw[put_defers]
  rfl) H
end
end Go.aA
end
section
namespace Go.aA
open Go Go.RowKit
def jY(bad:Nat->Prop)(w:World)(l:List DV)(vs:List Value):Prop:=l.length=vs.length/\∀ (j:Nat) (x:DV) (v:Value),l[j]?=some x->vs[j]?=some v->VD bad w x v
def uq(G:List (Nat × DV))(ak:Nat->Prop)(w:World):Prop:=∀ g e,(g,e)∈G->VR ⟨fun _=>none,[],ak,w⟩ (.b9 e 0) (.pointer (some ⟨g,0,none⟩))
def qN (P : Program) (f : FuncId) : Prop := ∃ fn, P.funcs[f]? = some fn /\ fn.body.isNone = false /\ (fn.name == "runtime.NumGoroutine") = false
@[irreducible] def az (E : Env) (f : FuncId) (args : List DV) (R : DV -> Prop) : Prop :=
 qN E.P f/\∀ (ak:Nat->Prop) (w:World) (vs:List Value),(∀ b,ak b->b<w.heap.size)->uq E.G ak w->jY ak w args vs ->
  Calls E.P f vs.toArray w fun e w'=>∃ v r,e=.returned v/\R r/\VD ak w' r v/\Proofs.YtcmnpelmmekdkaaGreatDoor.Ext w w'
theorem wF{ak:Nat->Prop}{w:World}{h:List af}{b:Nat}:(⟨fun _=>none,h,ak,w⟩:Cx).bad b↔ak b :=
 ⟨fun hb=>hb.elim id (fun⟨_,_,h⟩=>(by cases h)),.inl⟩
theorem wG{ak:Nat->Prop}{w:World}{h:List af}{x:DV}{v:Value}(hv:VD ak w x v):VD (⟨fun _=>none,h,ak,w⟩:Cx).bad w x v :=
 hv.mono fun _ _ hn=>⟨fun hb=>hn (wF.1 hb),rfl⟩
theorem az.mono{E:Env}{f:FuncId}{args:List DV}{R R':DV->Prop}(H:az E f args R)(hr:∀ r,R r->R' r):az E f args R':=by
 unfold az at H ⊢;exact⟨H.1,fun ak w vs h1 h2 h3=>(H.2 ak w vs h1 h2 h3).mono fun e w' ⟨v,r,k1,k2,k3,k4⟩=>⟨v,r,k1,hr r k2,k3,k4⟩⟩
def nC(args:List AV)(n:Nat):List AV:=args++List.replicate (n-args.length) (.d .undef)
theorem EW{c:Cx}{args:List AV}{vs:List Value}(n:Nat)(hv:VL c args vs):VS c (nC args n) (vs.toArray++Array.replicate (n-vs.toArray.size) undef):=by
 have hl:=hv.1;refine⟨by simp[nC,hl],fun i x v hx hu=>?_⟩;simp only[nC]at hx;rcases Nat.lt_or_ge i args.length with hi|hi
 ·rw[List.getElem?_append_left hi]at hx;rw[Array.getElem?_append_left (by simp;omega)]at hu;exact hv.2 i x v hx (by simpa using hu)
 ·rw[List.getElem?_append_right hi,List.getElem?_replicate]at hx;rw[Array.getElem?_append_right (by simp;omega)]at hu;split at hx
  ·cases hx;simp[Array.getElem?_replicate]at hu;obtain⟨-,rfl⟩:=hu;exact .d _ _ .undef
  ·cases hx
section
variable {E:Env} {f0:FuncId} {ae:iE} {k:List aI} {s:List AV} {cls:List cu} {h:List af} {R:bZ}
theorem Rel.ext{c0 c:Cx}(h:Rel c0 c)(hn:∀ i,c0.own i=none):Proofs.YtcmnpelmmekdkaaGreatDoor.Ext c0.w c.w:=⟨h.os,h.tape,h.output,h.size,fun b hb=>h.keep b hb (fun i n hi=>by rw[hn i]at hi;cases hi)⟩
@[irreducible] def aB (E : Env) (f : FuncId) (h : List af) (args : List AV) (Q : AV -> List af -> Prop) : Prop :=
 qN E.P f/\yQ h/\∀ (c:Cx) (vs:List Value),c.heap=h->aE E.G c->VL c args vs ->
  Calls E.P f vs.toArray c.w fun e w'=>∃ (c':Cx) (r:AV) (v:Value),e=.returned v/\c'.w=w'/\Q r c'.heap/\VR c' r v/\aE E.G c'/\Rel c c'
theorem aB.mono{E:Env}{f:FuncId}{h:List af}{args:List AV}{Q Q':AV->List af->Prop}(H:aB E f h args Q)(hq:∀ r h,Q r h->Q' r h):aB E f h args Q':=by
 unfold aB at H ⊢;exact⟨H.1,H.2.1,fun c vs h1 h2 h3=>(H.2.2 c vs h1 h2 h3).mono fun e w' ⟨c',r,v,k1,k2,k3,k4⟩=>⟨c',r,v,k1,k2,hq _ _ k3,k4⟩⟩
theorem aB.J6 {f : FuncId} {fn : Func} {body : Code} {args : List AV} {Q : AV -> List af -> Prop} (hf : E.P.funcs[f]? = some fn) (hb : fn.body = some body) (hn : (fn.name == "runtime.NumGoroutine") = false) (nD : yQ h)
  (H:AW E f ⟨⟨f,none,[]⟩,[.code body],nC args fn.ntmps⟩ [] h ⟨h.length,Q,[],⟨f,none,[],[],[],[]⟩⟩):aB E f h args Q:=by
 unfold AW at H;unfold aB;refine⟨⟨fn,hf,by rw[hb];rfl,hn⟩,nD,fun c vs h1 h2 h3=>?_⟩;intro cs;obtain⟨c',fr,r,v,e1,e2,e3,e4,e5,e6,e7⟩:=H c c _ [] (by rw[h1]) (fun i hi=>by simp at hi;subst hi;trivial) h1 h2 ((Rel.refl c (by rw[h1];exact nD)).x h2.bE h2.bI) .nil (EW fn.ntmps h3) trivial cs;refine⟨.returned v,c'.w,fr,⟨c'.oy c.ak,r,v,rfl,rfl,e1,ES e4.ak e2,e3.oy e4.ak,e4.clean⟩,?_,e6,e7⟩;have Sk:Frame.enter E.P f vs.toArray .normal=(⟨⟨f,none,[]⟩,[.code body],nC args fn.ntmps⟩:cu).bS (vs.toArray++Array.replicate (fn.ntmps-vs.toArray.size) undef):=by
  simp[Frame.enter,cu.bS,Frame.atR,hf,hb,bf,aI.bS,marks]
 show Steps E.P _ _;rw[Sk];exact e5
theorem yT{P:Program}{o:Oper}{a:Act}{w:World}{fx:Operand}{args:Array Operand}{ts:Array TypeId}{f:FuncId}{v1 v2:Array Value}(h1:o.op=.call { callee := .value fx,args:=args,argTypes:=ts })(hf:a.eval fx=.func (.func f) v1 v2)(hb:qN P f) :
  (execOp a.eval o).run P w=.ok (.enter f (v1++args.map a.eval++v2)) w:=by
 obtain⟨fn,g1,g2,g3⟩:=hb;simp only[execOp,h1,resolve,hf,Deferred.ofValue,invoke,callFunc,Sem.run_bind,Sem.run_pure,Result.andThen_ok,program,Sem.run,g1,g3,g2,Bool.false_eq_true,if_false]
theorem EX{P:Program}{b:Frame}{a:Act}{k:List Item}{cs:List Frame}{w:World}{ops:Array Oper}{i:Nat}{rest:List Nat}{o:Oper}{f:FuncId}{args:Array Value}(ho:ops[i]?=some o)(hw:Region.wanted o (yielded ops a.tmps)=true)
  (hr:(execOp a.eval o).run P w=.ok (.enter f args) w) :
  step P (lone (b.atR a (.inRegion ops (i::rest)::k)) cs w)=.next (lone (Frame.enter P f args .normal) (b.atR a (.inRegion ops (i::rest)::k)::cs) w):=by
 have hg:=stepGR_op (P:=P) (b:=b) (k:=k) (cs:=cs) (w:=w) (rest:=rest) ho hw;have ur:=BM (ro:=b.roundOf) hr (by simp);exact step_lone_go (by rw[hg];simp[stepG.apply,ur,Frame.atR])
theorem l8{c:Cx}{f:Fn}{a1 a2:List AV}{v:Value}(hv:VR c (.fn f a1 a2) v):∃ v1 v2:List Value,v=.func f v1.toArray v2.toArray/\VL c a1 v1/\VL c a2 v2:=by
 cases hv with
 |fn _ _ _ v1 v2 h1 h2 h3 h4=>exact⟨v1.toList,v2.toList,by simp,⟨by simpa using h1,fun j x v hx hu=>h3 j x v hx (by simpa using hu)⟩,⟨by simpa using h2,fun j x v hx hu=>h4 j x v hx (by simpa using hu)⟩⟩
theorem VL.append{c:Cx}{a1 a2:List AV}{v1 v2:List Value}(h1:VL c a1 v1)(h2:VL c a2 v2):VL c (a1++a2) (v1++v2):=by
 refine⟨by simp[h1.1,h2.1],fun j x v hx hv=>?_⟩;rcases Nat.lt_or_ge j a1.length with hj|hj
 ·rw[List.getElem?_append_left hj]at hx;rw[List.getElem?_append_left (by rw[<- h1.1];exact hj)]at hv;exact h1.2 j x v hx hv
 ·rw[List.getElem?_append_right hj]at hx;rw[List.getElem?_append_right (by rw[<- h1.1];exact hj),<- h1.1]at hv;exact h2.2 _ x v hx hv
theorem AW.call{ops:Array Oper}{o:Oper}{l:List Oper}{fx:Operand}{args:Array Operand}{ts:Array TypeId}{f:FuncId}{a1 a2 av:List AV}{ds:List DV}{R1:DV->Prop}(hw:iF ops o s true)(ho:o.op=.call { callee := .value fx,args:=args,argTypes:=ts })
  (hf:bh E.G s fx (.fn (.func f) a1 a2)) (ha:iw E.G s args.toList av) (hd:a1++av++a2=ds.map .d) (hc:az E f ds R1)
  (H:∀ r,R1 r->AW E f0 ⟨ae,.bF ops l::k,bM s o.dst (.d r)⟩ cls h R):AW E f0 ⟨ae,.bF ops (o::l)::k,s⟩ cls h R:=by
 unfold AW at H ⊢;unfold az at hc;intro c0 c t ts h0 h1 h2 h3 hr cb h4 h5 cs;obtain⟨i,hi,dW,aO⟩:=mP (h1 _ (List.mem_cons_self ..));obtain⟨v1,v2,e1,e2,e3⟩:=l8 (hf c ⟨t,marks ae.aN⟩ h3 h4);have e4:=ha c ⟨t,marks ae.aN⟩ h3 h4;have e5:=(e2.append e4).append e3;rw[hd]at e5;have eU:∀ b,c.bad b->b<c.w.heap.size:=fun b hb=>hb.elim (h3.bE b) fun⟨j,n,hj⟩=>(h3.bI j b n hj).1;have yU:uq E.G c.bad c.w:=fun g e hg=>by
  have hp:∀ p,VR c (.b9 e 0) p->VR ⟨fun _=>none,[],c.bad,c.w⟩ (.b9 e 0) p:=fun p hp=>by
   cases hp with
   |b9 _ _ blk o' fv k1 k2 k3 k4=>exact .b9 _ _ blk o' fv (fun hb=>k1 (wF.1 hb)) k2 k3 (fun j x hx=>wG (k4 j x hx))
  exact hp _ (h3.fB g e hg)
 obtain⟨e,w',fr,⟨v,r,rfl,hR,hv,hx⟩,EY,yV,EZ⟩:=hc.2 c.bad c.w _ eU yU ⟨by simpa using e5.1,e5.py⟩ ((bf ae).atR ⟨t,marks ae.aN⟩ (.inRegion ops (i::(List.range ops.size).drop (ops.size-l.length))::k.map aI.bS)::(fq cls ts++cs));obtain⟨k1,k2⟩:=h3.grow hx;have uu:VS (c.dI w') (bM s o.dst (.d r)) ((⟨t,marks ae.aN⟩:Act).put o.dst v).tmps:=VS.bM (a:=⟨t,marks ae.aN⟩) (k2.vs h4) o.dst (.d _ _ hv);obtain⟨c2,uv,r2,u2,q1,q2,q3,uw,q4,q5,q6⟩:=H r hR c0 (c.dI w') _ ts h0 (gP aO (ee h1)) h2 k1 (hr.step k2) (cb.step h3 k2) uu (k2.cr h5) cs;refine⟨c2,uv,r2,u2,q1,q2,q3,uw,?_,q5,q6⟩;have cW:=yT (P:=E.P) (w:=c.w) (a:=⟨t,marks ae.aN⟩) ho e1 hc.1;have jZ:(v1.toArray++args.map (⟨t,marks ae.aN⟩:Act).eval++v2.toArray)=(v1++args.toList.map (⟨t,marks ae.aN⟩:Act).eval++v2).toArray:=by
  apply Array.ext';simp
 rw[jZ]at cW;have s1:=EX (P:=E.P) (b:=bf ae) (k:=k.map aI.bS) (cs:=fq cls ts++cs) (rest:=(List.range ops.size).drop (ops.size-l.length)) hi (hw c t h4) cW;have s2:=step_leave_returned (c:=(bf ae).atR ⟨t,marks ae.aN⟩ (.inRegion ops (i::(List.range ops.size).drop (ops.size-l.length))::k.map aI.bS)) (cs:=fq cls ts++cs) EZ;rw[Frame.finish_atR,hi]at s2;have E2:(⟨ae,.bF ops (o::l)::k,s⟩:cu).bS t=(bf ae).atR ⟨t,marks ae.aN⟩ (.inRegion ops (i::(List.range ops.size).drop (ops.size-l.length))::k.map aI.bS):=by
  simp only[cu.bS,List.map_cons,dW]
 rw[E2];refine .head s1 (Steps.trans EY (.head s2 ?_));have bc:(bf ae).atR ((⟨t,marks ae.aN⟩:Act).put ((some o).bind (·.dst)) v) (.inRegion ops ((List.range ops.size).drop (ops.size-l.length))::k.map aI.bS)=(⟨ae,.bF ops l::k,bM s o.dst (.d r)⟩:cu).bS ((⟨t,marks ae.aN⟩:Act).put o.dst v).tmps:=by
  simp only[cu.bS,List.map_cons,aI.bS,Option.bind_some];rw[put_defers]
 rw[bc];exact q4
end
end Go.aA
end
section
namespace Go.aA
open Go Go.RowKit
section
variable {E:Env} {f0 ae:FuncId} {k:List aI} {s:List AV} {cls:List cu} {h:List af} {R:bZ}
def wH(G:List (Nat × DV))(h:List af)(x:AV)(r:DV):Prop:=∀ (c:Cx) (v:Value),aE G c->c.heap=h->VR c x v->VD c.ak c.w r v
theorem J7{c:Cx}{x:DV}{v:Value}(hv:VD c.bad c.w x v):VD c.ak c.w x v:=hv.mono fun _ _ hn=>⟨fun hb=>hn (.inl hb),rfl⟩
theorem Sl{G:List (Nat × DV)}(x:DV):wH G h (.d x) x:=fun c v _ _ hv=>by cases hv with|d _ _ hv=>exact J7 hv
theorem Sm{G:List (Nat × DV)}{b g:Nat}{ts:Nat × Nat}{l:List DV}(hb:h[b]?=some (.arr g ts l)):wH G h (.own b g) (.sl l):=fun c v ho hh hv=>by
 subst hh;obtain⟨q0,q1,q2⟩:=ho.box b _ hb;cases hv with
 |own _ _ _ l' blk cap k1 k2 =>
  rw[hb]at k1;cases k1;rcases q2 with⟨q2,-⟩|⟨lk,jS,vs,q2,q3,q4,q5,q6,q7⟩
  ·rw[k2]at q2;cases q2
  ·rw[k2]at q2;cases q2;have cb:=mJ q3;refine .sl l blk 0 cap ts.2 (fun i j=>vs.toList.getD (i*ts.2+j) undef) (fun _=>ho.sep b blk cap k2) q0 q5 q1 (fun i j e x he hx=>?_) (fun i j e x he hx=>?_) (fun i j e x he hx=>?_)
   ·obtain⟨v,g1,-,g2⟩:=q7 i j e x he hx;rw[cb (i*ts.2+j) v (by simpa using g1)];simp[List.getD,g1]
   ·obtain⟨v,g1,-,g2⟩:=q7 i j e x he hx;simp only[List.getD,Array.getElem?_toList,g1,Option.getD_some];exact J7 g2
   ·obtain⟨v,g1,g2,-⟩:=q7 i j e x he hx;simp only[List.getD,Array.getElem?_toList,g1,Option.getD_some];exact g2
 |iY _ _ _ k1 k2=>rw[hb]at k1;cases k1;exact .slnil
 |kB _ _ g' _ _ _ k1 k2 _=>rw[hb]at k1;cases k1;omega
 |jR _ _ _ k1 _=>rw[hb]at k1;cases k1
 |mF _ _ _ _ _ _ k1 _ _=>rw[hb]at k1;cases k1
def BO{α:Sort _}(h:List af)(x:AV)(stop:α)(k:DV->α):α :=
 match x with
 | .d x=>k x
 | .own b g=>aY h b stop fun
  | .arr g' _ l=>match Nat.beq g g' with
   |true=>k (.sl l)
   |false=>stop
  |_=>stop
 |_=>stop
theorem J8{G:List (Nat × DV)}{x:AV}{stop:Prop}{k:DV->Prop}(H:BO h x stop k):stop\/∃ r,wH G h x r/\k r:=by
 unfold BO at H;split at H
 ·exact .inr ⟨_,Sl _,H⟩
 ·rcases bp H with h|⟨bx,hb,H⟩
  ·exact .inl h
  split at H
  ·split at H
   ·rename_i q;have:=Nat.eq_of_beq_eq_true q;subst this;exact .inr ⟨_,Sm hb,H⟩
   ·exact .inl H
  ·exact .inl H
 ·exact .inl H
def yW{α:Sort _}(d:AV->α->(DV->α)->α):List AV->(stop:α)->(List DV->α)->α
 |[],_,k=>k []
 |x::l,stop,k=>d x stop fun r=>yW d l stop fun l'=>k (r::l')
def Sn(G:List (Nat × DV))(h:List af)(l:List AV)(r:List DV):Prop:=∀ (c:Cx) (vs:List Value),aE G c->c.heap=h->VL c l vs->jY c.ak c.w r vs
theorem E3{G:List (Nat × DV)}{d:AV->Prop->(DV->Prop)->Prop}(hd:∀ {x:AV} {stop:Prop} {k:DV->Prop},d x stop k->stop\/∃ r,wH G h x r/\k r){stop:Prop}:∀ {l:List AV} {k:List DV->Prop},yW d l stop k->stop\/∃ r,Sn G h l r/\k r
 |[],k,H => .inr ⟨[],fun c vs _ _ hv=>⟨by simpa using hv.1,fun j x v hx=>by simp at hx⟩,H⟩
 |x::l,k,H=>by
  simp only[yW]at H;rcases hd H with h|⟨r,hr,H⟩
  ·exact .inl h
  rcases E3 hd H with h|⟨rs,J9,H⟩
  ·exact .inl h
  refine .inr ⟨r::rs,fun c vs h1 h2 hv=>?_,H⟩;cases vs with
  |nil=>have:=hv.1;simp at this
  |cons v vs =>
   obtain⟨g1,g2⟩:=hv.head;have g3:=J9 c vs h1 h2 g2;refine⟨by simp[g3.1],fun j y u hy hu=>?_⟩;cases j with
   |zero=>simp at hy hu;subst hy;subst hu;exact hr c v h1 h2 g1
   |succ j=>exact g3.2 j y u (by simpa using hy) (by simpa using hu)
def BP{α:Sort _}(h:List af)(x:AV)(stop:α)(k:DV->α):α :=
 match x with
 | .agg l=>yW (BO h) l stop fun r=>k (.agg r)
 |x=>BO h x stop k
theorem J'{G:List (Nat × DV)}{x:AV}{stop:Prop}{k:DV->Prop}(H:BP h x stop k):stop\/∃ r,wH G h x r/\k r:=by
 unfold BP at H;split at H
 ·rcases E3 (G:=G) (h:=h) J8 H with h|⟨r,hr,H⟩
  ·exact .inl h
  refine .inr ⟨_,fun c v h1 h2 hv=>?_,H⟩;obtain⟨vs,rfl,gd⟩:=sr hv;have:=hr c vs h1 h2 gd;exact .agg _ _ (by simpa using this.1) fun j x v hx hu=>this.2 j x v hx (by simpa using hu)
 ·exact J8 H
def wI{α:Sort _}(T:List bD)(s:List AV)(h:List af):List ResultVar->(stop:α)->(List AV->α)->α
 |[],_,k=>k []
 | .tmp t::l,stop,k=>aY s t stop fun v=>wI T s h l stop fun l'=>k (v::l')
 | .cell a t::l,stop,k=>aY T t stop fun i=>aY s a stop fun
  | .ptr b off=>aY h b stop fun
   | .cells c=>lh i c off stop fun v=>wI T s h l stop fun l'=>k (v::l')
   |_=>stop
  |_=>stop
def uz(t:Array Value):ResultVar->Sem Value
 | .tmp t'=>pure (t.getD t' undef)
 | .cell a t'=>do loadVar t' (<- asAddr (t.getD a undef))
theorem BQ(hE:E.OK){stop:Prop}:∀ {l:List ResultVar} {k:List AV->Prop},wI E.T s h l stop k->stop\/∃ r,k r/\∀ (c:Cx) (t:Array Value),c.heap=h->aE E.G c->VS c s t->∃ vs:List Value,VL c r vs/\(l.mapM (uz t)).run E.P c.w=.ok vs c.w
 |[],k,H => .inr ⟨[],H,fun c t _ _ hs=>⟨[],.nil,by simp⟩⟩
 | .tmp n::l,k,H=>by
  simp only[wI]at H;rcases bp H with h|⟨x,hx,H⟩
  ·exact .inl h
  rcases BQ hE H with h|⟨r,hk,hr⟩
  ·exact .inl h
  refine .inr ⟨x::r,hk,fun c t hc ho hs=>?_⟩;obtain⟨vs,h1,h2⟩:=hr c t hc ho hs;have hl:n<t.size:=by
   rw[<- hs.1];rcases Nat.lt_or_ge n s.length with h|h
   ·exact h
   ·rw[List.getElem?_eq_none h]at hx;cases hx
  refine⟨t[n]::vs,.cons (hs.2 n x _ hx (by simp[hl])) h1,?_⟩;rw[List.mapM_cons];simp only[uz,Sem.run_bind,Sem.run_pure,Result.andThen_ok,h2];simp[hl]
 | .cell a ty::l,k,H=>by
  simp only[wI]at H;rcases bp H with h|⟨i,hi,H⟩
  ·exact .inl h
  rcases bp H with h|⟨x,hx,H⟩
  ·exact .inl h
  split at H
  ·rename_i b off;rcases bp H with h1|⟨bx,hb,H⟩
   ·exact .inl h1
   split at H
   ·rename_i cs;rcases BH H with h1|⟨v,H,hp⟩
    ·exact .inl h1
    rcases BQ hE H with h|⟨r,hk,hr⟩
    ·exact .inl h
    refine .inr ⟨v::r,hk,fun c t hc ho hs=>?_⟩;obtain⟨vs,h1,h2⟩:=hr c t hc ho hs;subst hc;have hl:a<t.size:=by
     rw[<- hs.1];rcases Nat.lt_or_ge a s.length with h|h
     ·exact h
     ·rw[List.getElem?_eq_none h]at hx;cases hx
    obtain⟨blk,cap,us,ty',g1,g2,g3⟩:=ho.cells hb;obtain⟨u,hu,qF⟩:=hp E.P ty c blk 0 us.toList (hE.types ty i hi) g3 (mJ g2);have ss:=hs.2 a _ t[a] hx (by simp[hl]);have Sq:t[a]=.pointer (some ⟨blk,0+off,none⟩):=by
     generalize t[a]=p at ss;cases ss with
     |ptr _ _ cs' lk jS cU cV=>rw[g1]at cV;cases cV;rw[Nat.zero_add]
     |jq _ _ _ cU _=>rw[hb]at cU;cases cU
    have qO:(loadVar ty ⟨blk,0+off,none⟩).run E.P c.w=.ok u c.w:=hu;refine⟨u::vs,.cons qF h1,?_⟩;rw[List.mapM_cons];have hg:t.getD a undef=.pointer (some ⟨blk,0+off,none⟩):=by simp[hl,Sq]
    simp only[uz,hg,asAddr,Sem.run_bind,Sem.run_pure,Result.andThen_ok,qO,h2]
   ·exact .inl H
  ·exact .inl H
def packed:List Value->Value
 |[v]=>v
 |vs => .tuple vs.toArray
theorem E4{P:Program}{fn:Func}{t:Array Value}{w:World}{vs:List Value}(h:(fn.results.toList.mapM (uz t)).run P w=.ok vs w) :
  (results fn t).run P w=.ok (packed vs) w:=by
 have e1:results fn t=(do let vs <- fn.results.mapM (uz t);pure (if h:vs.size=1 then vs[0]else .tuple vs)):=by
  rfl
 have e2:(fn.results.mapM (uz t):Sem (Array Value))=List.toArray <$> (fn.results.toList.mapM (uz t)):=by
  rw[Array.mapM_eq_mapM_toList]
 simp only[e1,e2,Sem.run_bind,map_eq_pure_bind,h,Result.andThen_ok,Sem.run_pure];cases vs with
 |nil=>rfl
 |cons v vs=>cases vs with
  |nil=>rfl
  |cons u vs=>simp[packed]
def nE{α:Sort _}(T:List bD)(s:List AV)(h:List af)(rs:List ResultVar)(stop:α)(k:AV->List af->α):α :=
 wI T s h rs stop fun
  |[x]=>k x h
  |l=>k (.aK l) h
theorem AW.Ka(hE:E.OK){td:List aI}(oA:∀ (a:Act) (cs:List Frame) (w:World),step E.P (lone ((bf ⟨ae,none,[]⟩).atR a (td.map aI.bS)) cs w)=.next (lone { (bf ⟨ae,none,[]⟩).atR a (td.map aI.bS)with mode := .returning } cs w))
  {fn:Func} (hf:E.P.funcs[ae]?=some fn) (H:nE E.T s h fn.results.toList False R.Q):AW E ae ⟨⟨ae,none,[]⟩,td,s⟩ [] h R:=by
 unfold AW;intro c0 c t ts h0 h1 h2 h3 hr cb h4 h5 cs;unfold nE at H;rcases BQ hE H with h'|⟨l,H,hl⟩
 ·cases h'
 obtain⟨vs,g1,g2⟩:=hl c t h2 h3 h4;have fin:∀ r v,packed vs=v->R.Q r h->VR c r v->∃ (c':Cx) (fr:Frame) (r:AV) (v:Value),
   R.Q r c'.heap/\VR c' r v/\aE E.G c'/\eZ c0 c'/\Steps E.P (lone ((⟨⟨ae,none,[]⟩,td,s⟩:cu).bS t) (fq [] ts++cs) c.w) (lone fr cs c'.w)/\fr.fn=ae/\fr.leaving E.P c'.w (.returned v):=fun r v e1 e2 e3=>by
  refine⟨c,_,r,v,by rw[h2];exact e2,e3,h3,hr,.one (oA ⟨t,[]⟩ cs c.w),rfl,rfl,rfl,rfl,fn,hf,?_⟩;rw[<- e1];exact E4 g2
 split at H
 ·rename_i x;cases vs with
  |nil=>have:=g1.1;simp at this
  |cons v vs=>cases vs with
   |cons u vs=>have:=g1.1;simp at this
   |nil=>exact fin x v rfl H g1.head.1
 ·rename_i aM;refine fin (.aK l) (.tuple vs.toArray) ?_ H (.aK _ _ (by simpa using g1.1) fun j x v hx hu=>g1.2 j x v hx (by simpa using hu));cases vs with
  |nil=>rfl
  |cons v vs=>cases vs with
   |nil =>
    have:=g1.1;cases l with
    |nil=>simp at this
    |cons x l=>cases l with
     |nil=>exact absurd rfl (aM x)
     |cons y l=>simp at this
   |cons u vs=>rfl
def yX(R:DV->Prop)(x:AV)(h:List af):Prop :=
 match x with
 | .aK l=>yW (BP h) l False fun r=>R (.aK r)
 |x=>BP h x False R
theorem Sr{G:List (Nat × DV)}{R:DV->Prop}{x:AV}(H:yX R x h):∃ r,wH G h x r/\R r:=by
 unfold yX at H;split at H
 ·rcases E3 (G:=G) (h:=h) J' H with h'|⟨r,hr,H⟩
  ·cases h'
  refine⟨_,fun c v h1 h2 hv=>?_,H⟩;cases hv with
  |aK _ vs hl bQ =>
   have:=hr c vs.toList h1 h2 ⟨by simpa using hl,fun j x v hx hv=>bQ j x v hx (by simpa using hv)⟩;exact .aK _ _ (by simpa using this.1) fun j x v hx hu=>this.2 j x v hx (by simpa using hu)
 ·rcases J' (G:=G) H with h'|h'
  ·cases h'
  ·exact h'
theorem az.Ss{f:FuncId}{args:List DV}{R:DV->Prop}(H:aB E f [] (args.map .d) (yX R)):az E f args R:=by
 unfold aB at H;unfold az;refine⟨H.1,fun ak w vs h1 h2 h3=>?_⟩
 let c:Cx:=⟨fun _=>none,[],ak,w⟩
 have hv:VL c (args.map .d) vs := .uc h3.1 fun j x v hx hu=>wG (h3.2 j x v hx hu);have ho:aE E.G c:=⟨h1,fun i b n hi=>(by cases hi),fun i j b n m hi=>(by cases hi),fun i b n hi=>(by cases hi),fun i bx hi=>(by simp[c]at hi),h2⟩;refine(H.2.2 c vs rfl ho hv).mono fun e w' ⟨c',r,v,k1,k2,k3,k4,k5,k6⟩=>?_;obtain⟨d,hd,hR⟩:=Sr (G:=E.G) k3;subst k2;have:=hd c' v k5 rfl k4;rw[k6.ak]at this;exact⟨v,d,k1,hR,this,k6.ext fun _=>rfl⟩
theorem AW.ret(hE:E.OK){fn:Func}(hf:E.P.funcs[ae]?=some fn)(H:nE E.T s h fn.results.toList False R.Q):AW E ae ⟨⟨ae,none,[]⟩,.code .ret::k,s⟩ [] h R := .Ka hE (fun _ _ _=>stepR_ret rfl) hf H
theorem AW.St(hE:E.OK){fn:Func}(hf:E.P.funcs[ae]?=some fn)(H:nE E.T s h fn.results.toList False R.Q):AW E ae ⟨⟨ae,none,[]⟩,[],s⟩ [] h R := .Ka hE (fun _ _ _=>stepR_end rfl) hf H
end
end Go.aA
end
section
namespace Go.aA
open Go Go.RowKit
@[irreducible] def need (C K : Prop) : Prop := C /\ K
theorem bB{C K:Prop}(h:C)(k:K):need C K:=by unfold need;exact⟨h,k⟩
theorem nF{C K:Prop}(h:need C K):C/\K:=by unfold need at h;exact h
def nG(b:UInt8):DV := .int .u8 b.toNat
def two{β:Type}(l:List β)(stop:Prop)(k:β->β->Prop):Prop :=
 match l with
 |[a,b]=>k a b
 |_=>stop
theorem Kb{β:Type}{l:List β}{stop:Prop}{k:β->β->Prop}(H:two l stop k):stop\/∃ a b,l=[a,b]/\k a b:=by
 unfold two at H;split at H
 ·exact .inr ⟨_,_,rfl,H⟩
 ·exact .inl H
def BR(e:Nat)(ei:bD)(h:List af)(a:AV)(m:List DV)(stop:Prop)(k:AV->List af->Prop):Prop :=
 match a with
 | .d .aW=>need (m.length<=2147483648/\∀ e∈m,e.cells.length=ei.size) (lY h (.arr 1 (e,ei.size) m) 0 fun h' n=>k (.own n 1) h')
 | .own b g=>aY h b stop fun
  | .arr g' ts l=>match Nat.beq g g',Nat.beq ts.1 e,Nat.beq ts.2 ei.size with
   |true,true,true=>need (l.length+m.length<=2147483648/\∀ e∈m,e.cells.length=ei.size) (fI h b (.arr (g+1) ts (l++m)) fun h'=>k (.own b (g+1)) h')
   |_,_,_=>stop
  |_=>stop
 |_=>stop
def nH(T:List bD)(G:List (Nat × DV))(o:Op)(s:List AV)(h:List af)(stop:Prop)(k:AV->List af->Prop):Prop :=
 match o with
 | .call { callee := .builtin .append,args:=args,argTypes:=ts }=>two args.toList stop fun x y=>two ts.toList stop fun t0 t1=>aY T t0 stop fun i0=>aY T t1 stop fun i1 =>
  match i0.k with
  | .slice e=>aY T e stop fun ei=>match Nat.beq ei.zero.length ei.size,Nat.blt 0 ei.size,Nat.ble ei.bytes 65536 with
   |true,true,true=>cK G s x stop fun a=>cK G s y stop fun b =>
    match i1.k,b with
    | .slice _,.d (.sl m)=>BR e ei h a m stop k
    | .string,.d (.str z)=>match ei.k with
     | .int .u8=>BR e ei h a (z.map nG) stop k
     |_=>stop
    |_,_=>stop
   |_,_,_=>stop
  |_=>stop
 | .makeSlice t n c=>aY T t stop fun i=>match i.k with
  | .slice e=>aY T e stop fun ei=>match Nat.beq ei.zero.length ei.size,Nat.blt 0 ei.size,Nat.ble ei.bytes 65536,ei.zero.all DV.fm with
   |true,true,true,true=>cK G s n stop fun
    | .d (.int _ a)=>cK G s c stop fun
     | .d (.int _ b) =>
      match ei.zero with
      |[z]=>need (0<=a/\a<=b/\b<=2147483648) (lY h (.arr 0 (e,ei.size) (List.replicate a.toNat z)) 0 fun h' n=>k (.own n 0) h')
      |zl=>need (0<=a/\a<=b/\b<=2147483648) (lY h (.arr 0 (e,ei.size) (List.replicate a.toNat (.agg zl))) 0 fun h' n=>k (.own n 0) h')
     |_=>stop
    |_=>stop
   |_,_,_,_=>stop
  |_=>stop
 |_=>stop
theorem a7{β:Type}{l:List β}{n:Nat}{e:β}(h:l[n]?=some e):n<l.length:=by
 rcases Nat.lt_or_ge n l.length with h'|h'
 ·exact h'
 ·rw[List.getElem?_eq_none h']at h;cases h
section
variable {E:Env} {s:List AV} {h:List af} {c:Cx} {G:List (Nat × DV)} {P:Program}
structure Src(P:Program)(size:Nat)(w:World)(x:Value)(n:Nat)(news:List Value):Prop where
 len:∀ w,(Builtin.lenOf x).run P w=.ok n w
 cells:∀ d:Nat,(Builtin.firstCells size n x).run P { w with drawn:=d }=.ok news.toArray { w with drawn:=d }
 one:∀ v∈news,v.oneCell'=true
 size:news.length=n*size
theorem Su{t0 t1 e:TypeId}{i:TypeInfo}{d1:TypeDesc}(h0:P.underlying t0=some (.slice e))(h1:P.underlying t1=some d1)(jb:∀ k,d1 ≠ .int k)(hi:P.info? e=some i){w:World}{g n m cap:Nat}{cur:Array Value}{x:Value}{news:List Value}
  (hg:w.heap[g]?=some (.cells cur e (0,0))) (hs:Src P i.size w x m news) (kD:n+m<=cap) (dJ:n*i.size+news.length<=cur.size) (ty:TypeId) :
  (Builtin.append_ #[t0,t1] ty #[.slice (some ⟨g,0,none⟩) n cap,x]).run P w=.ok (.slice (some ⟨g,0,none⟩) (n+m) cap) (w.setCells g (n*i.size) news):=by
 have aT:=run_storeCells_cells (P:=P) g (n*i.size) news 0 w (fun j hj=>by
   simp only[World.cell?,hg]
   simp;omega) (fun j hj=>by simp[World.frozen?,hg]) hs.one
 simp only[Nat.add_zero]at aT;have hc:=hs.cells w.drawn;simp[Builtin.append_,run_underlying h0,run_underlying h1,Go.sizeOf,typeInfo,hi,hs.len,kD,hc,lj,aT]
theorem Sv{t0 t1 e:TypeId}{i:TypeInfo}{d1:TypeDesc}(h0:P.underlying t0=some (.slice e))(h1:P.underlying t1=some d1)(jb:∀ k,d1 ≠ .int k)(hi:P.info? e=some i){w:World}{n cap:Nat}{b:Option Addr}{x:Value}
  (hs:Src P i.size w x 0 []) (kD:n<=cap) (ty:TypeId):(Builtin.append_ #[t0,t1] ty #[.slice b n cap,x]).run P w=.ok (.slice b n cap) w:=by
 have hc:=hs.cells w.drawn;cases b<;>simp[Builtin.append_,run_underlying h0,run_underlying h1,Go.sizeOf,typeInfo,hi,hs.len,kD,hc,storeCells]
theorem Kc{t0 t1 e:TypeId}{i:TypeInfo}{z:Value}{d1:TypeDesc}(h0:P.underlying t0=some (.slice e))(h1:P.underlying t1=some d1)(jb:∀ k,d1 ≠ .int k)(hi:P.info? e=some i)(hz:i.zero=some z){w:World}{n m cap:Nat}{b:Option Addr}{x:Value}{iM news:List Value}
  (hold:∀ d:Nat,(Builtin.firstCells i.size n (.slice b n cap)).run P { w with drawn:=d }=.ok iM.toArray { w with drawn:=d }) (hs:Src P i.size w x m news) (hg:cap<n+m) (Sw:n+m<=2147483648) (jc:i.bytes<=65536) (ty:TypeId) :
  (Builtin.append_ #[t0,t1] ty #[.slice b n cap,x]).run P w=.ok (.slice (some ⟨w.heap.size,0,none⟩) (n+m) (grownCap w (n+m) cap e)) (w.drew.alloc (.cells (iM.toArray++news.toArray++Builtin.zeroCells z.cells (grownCap w (n+m) cap e-(n+m))) e)):=by
 have hn:¬ (n+m<=cap):=by omega
 have Sx:¬ (9223372036854775807<((n:Int)+(m:Int))):=by omega
 have dJ:(n+m)*i.bytes<=140737488355328:=by
  calc (n+m)*i.bytes<=2147483648*65536:=Nat.mul_le_mul Sw jc
   _=140737488355328:=by decide
 have Sy:¬ (281474976710656<Builtin.nextslicecap (n+m) cap*i.bytes):=by
  have:=growslice_fits (old:=cap) (need:=n+m) (bytes:=i.bytes) (by omega) dJ;omega
 have hc:=hs.cells w.drew.drawn;have ho:=hold w.drew.drawn;have sA:(Builtin.firstCells i.size m x).run P w.drew=.ok news.toArray w.drew:=hc;have cV:(Builtin.firstCells i.size n (.slice b n cap)).run P w.drew=.ok iM.toArray w.drew:=ho;simp[Builtin.append_,run_underlying h0,run_underlying h1,Go.sizeOf,typeInfo,zeroValue,hi,hz,hs.len,hn,Sx,Sy,Question.forced,sA,cV,newRow,grownCap]
 congr 2
 apply Array.ext';simp[List.append_assoc]
theorem BS{c:Cx}{m:List DV}{x:Value}{sz:Nat}(bT:0<sz)(hm:∀ e∈m,e.cells.length=sz)(hv:VD c.bad c.w (.sl m) x):∃ news:List Value,Src P sz c.w x m.length news/\(∀ (j:Nat) (y:DV) (v:Value),(flat m)[j]?=some y->news[j]?=some v->VD c.bad c.w y v):=by
 have dN:gM sz m:=fun i e he=>hm e (List.mem_of_getElem? he);cases hv with
 |slnil=>exact⟨[],⟨fun _=>rfl,fun _=>rfl,fun v hv=>by simp at hv,by simp⟩,fun j y v hy=>by simp[flat]at hy⟩
 |lg a=>exact⟨[],⟨fun _=>rfl,fun _=>by simp[Builtin.firstCells,loadCells,loadCellsFrom],fun v hv=>by simp at hv,by simp⟩,fun j y v hy=>by simp[flat]at hy⟩
 |sl _ blk off cap dD f hb BU jo hlen dQ bQ cj =>
  by_cases aM:m=[]
  ·subst aM;exact⟨[],⟨fun _=>rfl,fun _=>by simp[Builtin.firstCells,loadCells,loadCellsFrom],fun v hv=>by simp at hv,by simp⟩,fun j y v hy=>by simp[flat]at hy⟩
  obtain⟨e0,r,hr⟩:=List.exists_cons_of_ne_nil aM;have kC:dD=sz:=(hlen 0 e0 (by rw[hr];rfl)).symm.trans (hm e0 (by rw[hr];simp));subst kC;have at_:∀ (idx:Nat),idx<m.length*dD->∃ (i j:Nat) (e y:DV),idx=i*dD+j/\j<dD/\m[i]?=some e/\e.cells[j]?=some y/\idx / dD=i/\idx % dD=j:=fun idx sB=>by
   have hd:idx / dD<m.length:=Nat.div_lt_of_lt_mul (by rw[Nat.mul_comm];exact sB);have wJ:idx % dD<dD:=Nat.mod_lt _ bT;have hl:idx % dD<m[idx / dD].cells.length:=by rw[hlen _ _ (List.getElem?_eq_getElem hd)];exact wJ
   exact⟨idx / dD,idx % dD,m[idx / dD],m[idx / dD].cells[idx % dD],by rw[Nat.mul_comm];exact(Nat.div_add_mod idx dD).symm,wJ,List.getElem?_eq_getElem hd,List.getElem?_eq_getElem hl,rfl,rfl⟩
  have fa:∀ (j:Nat) (v:Value),((List.range (m.length*dD)).map fun idx=>f (idx / dD) (idx % dD))[j]?=some v->j<m.length*dD/\v=f (j / dD) (j % dD):=fun j v hv=>by
   have hj:j<m.length*dD:=by have:=a7 hv;simpa using this
   simp[hj]at hv;exact⟨hj,hv.symm⟩
  refine⟨(List.range (m.length*dD)).map fun idx=>f (idx / dD) (idx % dD),⟨fun _=>rfl,fun d=>?_,fun v hv=>?_,by simp⟩,fun j y v hy hv=>?_⟩
  ·have:=run_loadCells_list (P:=P) { c.w with drawn:=d } ⟨blk,off,none⟩ ((List.range (m.length*dD)).map fun idx=>f (idx / dD) (idx % dD)) (fun j v hv=>by
    obtain⟨hj,rfl⟩:=fa j v hv;obtain⟨i,jj,e,y,e1,e2,e3,e4,e5,e6⟩:=at_ j hj;rw[lj,e5,e6,e1]
    exact dQ i jj e y e3 e4)
   simpa [Builtin.firstCells]using this
  ·obtain⟨j,Sz⟩:=List.getElem?_of_mem hv;obtain⟨hj,rfl⟩:=fa j v Sz;obtain⟨i,jj,e,y,e1,e2,e3,e4,e5,e6⟩:=at_ j hj;rw[e5,e6];exact cj i jj e y e3 e4
  ·obtain⟨hj,rfl⟩:=fa j v hv;obtain⟨i,jj,e,y',e1,e2,e3,e4,e5,e6⟩:=at_ j hj;have:=flat_get dN e3 e2;rw[<- e1,hy,e4]at this;cases this;rw[e5,e6];exact bQ i jj e y e3 e4
theorem Kd{c:Cx}{z:List UInt8}:Src P 1 c.w (.string ⟨z.toArray⟩) (z.map nG).length (z.map fun b=>Value.int .u8 b.toNat)/\(∀ (j:Nat) (y:DV) (v:Value),(flat (z.map nG))[j]?=some y->(z.map fun b=>Value.int .u8 b.toNat)[j]?=some v->VD c.bad c.w y v):=by
 have SA:flat (z.map nG)=z.map nG:=by
  induction z with
  |nil=>rfl
  |cons b z ih=>simp only[List.map_cons,flat,List.flatMap_cons]at ih ⊢;rw[ih];rfl
 refine⟨⟨fun _=>by simp[Builtin.lenOf,ByteArray.size],fun d=>?_,fun v hv=>?_,by simp⟩,fun j y v hy hv=>?_⟩
 ·simp[Builtin.firstCells]
 ·obtain⟨b,-,rfl⟩:=List.mem_map.1 hv;rfl
 ·rw[SA]at hy;rw[List.getElem?_map]at hy hv;cases hz:z[j]? with
  |none=>rw[hz]at hy;cases hy
  |some b=>rw[hz]at hy hv;cases hy;cases hv;exact .int _ _
def iN(c:Cx)(l:List DV)(vs:List Value):Prop:=∀ (idx:Nat) (y:DV),(flat l)[idx]?=some y->∃ v,vs[idx]?=some v/\v.oneCell'=true/\VD c.bad c.w y v
theorem iN.ij{c:Cx}{l:List DV}{vs:Array Value}{sz:Nat}(dN:gM sz l)(h:iN c l vs.toList):∀ (i j:Nat) (e x:DV),l[i]?=some e->e.cells[j]?=some x->∃ v,vs[i*sz+j]?=some v/\v.oneCell'=true/\VD c.bad c.w x v:=fun i j e x he hx=>by
 have hj:j<sz:=by rw[<- dN i e he];exact a7 hx
 obtain⟨v,h1,h2⟩:=h (i*sz+j) x (by rw[flat_get dN he hj];exact hx);exact⟨v,by simpa using h1,h2⟩
theorem iN.Ke{c:Cx}{l:List DV}{vs:Array Value}{sz:Nat}(bT:0<sz)(dN:gM sz l)(h:∀ (i j:Nat) (e x:DV),l[i]?=some e->e.cells[j]?=some x->∃ v,vs[i*sz+j]?=some v/\v.oneCell'=true/\VD c.bad c.w x v):iN c l vs.toList:=fun idx y hy=>by
 have ai:=a7 hy;rw[ln dN]at ai;have hd:idx / sz<l.length:=Nat.div_lt_of_lt_mul (by rw[Nat.mul_comm];exact ai);have wJ:idx % sz<sz:=Nat.mod_lt _ bT;have h1:=flat_get dN (List.getElem?_eq_getElem hd) wJ;have e1:idx / sz*sz+idx % sz=idx:=by rw[Nat.mul_comm];exact Nat.div_add_mod idx sz
 rw[e1,hy]at h1;obtain⟨v,h2,h3⟩:=h (idx / sz) (idx % sz) _ y (List.getElem?_eq_getElem hd) h1.symm;rw[e1]at h2;exact⟨v,by simpa using h2,h3⟩
theorem iN.append{c:Cx}{l m:List DV}{vs news:List Value}{tail:List Value}{sz:Nat}(dN:gM sz l)(hl:iN c l vs)(gK:l.length*sz<=vs.length)(cj:∀ v∈news,v.oneCell'=true)(hlen:news.length=(flat m).length)(hn:∀ (j:Nat) (y:DV) (v:Value),(flat m)[j]?=some y->news[j]?=some v->VD c.bad c.w y v) :
  iN c (l++m) (vs.take (l.length*sz)++news++tail):=fun idx y hy=>by
 rw[BJ]at hy;have gj:=ln dN;have SB:(vs.take (l.length*sz)).length=l.length*sz:=by simp;omega
 rcases Nat.lt_or_ge idx (l.length*sz)with h|h
 ·rw[List.getElem?_append_left (by omega)]at hy;obtain⟨v,h1,h2⟩:=hl idx y hy;refine⟨v,?_,h2⟩;rw[List.append_assoc,List.getElem?_append_left (by omega),List.getElem?_take,if_pos h];exact h1
 ·rw[List.getElem?_append_right (by omega),gj]at hy;have ai:=a7 hy;have sB:idx-l.length*sz<news.length:=by omega
  refine⟨news[idx-l.length*sz],?_,cj _ (List.getElem_mem sB),hn _ y _ hy (by simp[sB])⟩;rw[List.append_assoc,List.getElem?_append_right (by omega),SB,List.getElem?_append_left sB];simp[sB]
theorem iN.step{c c':Cx}(hs:Step c c'){l:List DV}{vs:List Value}(h:iN c l vs):iN c' l vs:=fun idx y hy=>by
 obtain⟨v,h1,h2,h3⟩:=h idx y hy;exact⟨v,h1,h2,hs.vd h3⟩
theorem E5{sz:Nat}{l m:List DV}(hl:gM sz l)(hm:∀ e∈m,e.cells.length=sz):gM sz (l++m):=fun i e he=>by
 rcases Nat.lt_or_ge i l.length with h|h
 ·rw[List.getElem?_append_left h]at he;exact hl i e he
 ·rw[List.getElem?_append_right h]at he;exact hm e (List.mem_of_getElem? he)
def Cx.gm(c:Cx)(b g:Nat)(ts:Nat × Nat)(l:List DV)(own:Option (Nat × Nat))(w:World):Cx:={ c with own:=fun i=>if i=b then own else c.own i,heap:=c.heap.set b (.arr g ts l),w:=w }
theorem aE.gm{G:List (Nat × DV)}(ho:aE G c){b g:Nat}{ts:Nat × Nat}{l l':List DV}(hb:c.heap[b]?=some (.arr g ts l)){w:World}(own:Option (Nat × Nat))(SC:w.os=c.w.os)(SD:w.tape=c.w.tape)(SE:w.output=c.w.output)(gQ:c.w.heap.size<=w.heap.size)
  (oB:∀ k,k<c.w.heap.size->(∀ n,c.own b≠some (k,n))->w.heap[k]?=c.w.heap[k]?) (bJ:∀ k n,own=some (k,n)->k<w.heap.size/\(k<c.w.heap.size->∃ m,c.own b=some (k,m))) :
  let c':=c.gm b (g+1) ts l' own w
  Step c c'/\((gM ts.2 l'/\((own=none/\l'=[])\/∃ (blk cap:Nat) (vs:Array Value),own=some (blk,cap)/\w.heap[blk]?=some (.cells vs ts.1 (0,0))/\vs.size=cap*ts.2/\l'.length<=cap/\cap<=maxLen/\iN c' l' vs.toList))->aE G c'):=by
 intro c';have eD:=a7 hb
 have aT:Step c c':={
  ak:=rfl
  bE:=ho.bE
  os:=SC
  tape:=SD
  output:=SE
  size:=gQ
  keep:=fun x hx hn=>oB x hx (fun n=>hn b n)
  dw:=fun i x n hi hx=>by
   simp only[c',Cx.gm]at hi;split at hi
   ·rename_i bR;subst bR;exact(bJ x n hi).2 hx
   ·exact⟨n,hi⟩
  boxes:=fun i bx hi=>by
   by_cases bR:i=b
   ·subst bR;rw[hb]at hi;cases hi;exact .inl ⟨g+1,l',by show(c.heap.set i _)[i]?=_;rw[List.getElem?_set_self eD],.inl (Nat.lt_succ_self _)⟩
   ·have h':c'.heap[i]?=some bx:=by show(c.heap.set b _)[i]?=_;rw[List.getElem?_set_ne (Ne.symm bR)];exact hi
    have qG:c'.own i=c.own i:=by simp only[c',Cx.gm];rw[if_neg bR]
    cases bx with
    |cells cs=>exact .inl ⟨cs,h',qG,rfl⟩
    |arr g sz l=>exact .inl ⟨g,l,h',.inr ⟨rfl,rfl,qG⟩⟩
    |map es=>exact .inl ⟨es,h',qG⟩
    |gone=>exact h' }
 refine⟨aT,fun dZ=>ho.next aT ?_ ?_ ?_⟩
 ·intro i x n hi;have hl:c'.heap.length=c.heap.length:=by simp[c',Cx.gm]
  rw[hl];simp only[c',Cx.gm]at hi;split at hi
  ·rename_i bR;subst bR;exact⟨(bJ x n hi).1,eD⟩
  ·have:=ho.bI i x n hi;exact⟨Nat.lt_of_lt_of_le this.1 gQ,this.2⟩
 ·intro i j x n m hi hj;simp only[c',Cx.gm]at hi hj;split at hi<;>split at hj
  ·omega
  ·rename_i h1 h2;have:=(ho.bI j x m hj).1;obtain⟨q,hq⟩:=(bJ x n hi).2 this;exact absurd (ho.inj j b x m q hj hq) h2
  ·rename_i h1 h2;have:=(ho.bI i x n hi).1;obtain⟨q,hq⟩:=(bJ x m hj).2 this;exact absurd (ho.inj i b x n q hi hq) h1
  ·exact ho.inj i j x n m hi hj
 ·intro i bx hi;by_cases bR:i=b
  ·subst bR;have cT:(c.heap.set i (.arr (g+1) ts l'))[i]?=some bx:=hi;rw[List.getElem?_set_self eD]at cT;cases cT;right;have ef:c'.own i=own:=by simp[c',Cx.gm]
   obtain⟨q0,-,-⟩:=ho.box i _ hb;obtain⟨dN,SF⟩:=dZ;refine⟨q0,dN,?_⟩;rcases SF with⟨h1,h2⟩|⟨blk,cap,vs,h1,h2,h3,h4,h5,h6⟩
   ·exact .inl ⟨ef.trans h1,h2⟩
   ·exact .inr ⟨blk,cap,vs,ef.trans h1,h2,h3,h4,h5,h6.ij dN⟩
  ·left;have cT:(c.heap.set b (.arr (g+1) ts l'))[i]?=some bx:=hi;rw[List.getElem?_set_ne (Ne.symm bR)]at cT;refine⟨cT,by simp only[c',Cx.gm];rw[if_neg bR],fun x n hn=>oB x (ho.bI i x n hn).1 (fun m hm=>bR (ho.inj i b x n m hn hm))⟩
theorem nI{b g:Nat}{ts:Nat × Nat}{l:List DV}(hb:c.heap[b]?=some (.arr g ts l)){v:Value}(hv:VR c (.own b g) v):(∃ blk cap,c.own b=some (blk,cap)/\v=.slice (some ⟨blk,0,none⟩) l.length cap)\/(l=[]/\v=.slice none 0 0/\c.own b=none):=by
 cases hv with
 |own _ _ _ l' blk cap k1 k2=>rw[hb]at k1;cases k1;exact .inl ⟨blk,cap,k2,rfl⟩
 |iY _ _ _ k1 k2=>rw[hb]at k1;cases k1;exact .inr ⟨rfl,rfl,k2⟩
 |kB _ _ g' _ _ _ k1 k2 _=>rw[hb]at k1;cases k1;omega
 |jR _ _ _ k1 _=>rw[hb]at k1;cases k1
 |mF _ _ _ _ _ _ k1 _ _=>rw[hb]at k1;cases k1
theorem Kg{β:Type}{vs news:List β}{o:Nat}(h:o+news.length<=vs.length):dG vs o news=vs.take o++news++vs.drop (o+news.length):=by
 have h1:vs=vs.take o++(vs.drop o).take news.length++vs.drop (o+news.length):=by
  rw[List.append_assoc,<- List.drop_drop,List.take_append_drop,List.take_append_drop]
 have h2:(vs.take o).length=o:=by simp;omega
 have:=EP news (vs.take o) ((vs.drop o).take news.length) (vs.drop (o+news.length)) (by simp;omega);rw[<- h1,h2]at this;exact this
theorem mQ{n:Nat}(h:n<=2147483648):n<=maxLen:=by unfold maxLen;omega
theorem Kh(aO:aE G c){t0 t1:TypeId}{i:TypeInfo}{z:Value}{d1:TypeDesc}{ts:Nat × Nat}(h0:P.underlying t0=some (.slice ts.1))(h1:P.underlying t1=some d1)(jb:∀ k,d1 ≠ .int k)(hi:P.info? ts.1=some i)(hz:i.zero=some z)(gL:z.cells.size=i.size)(gQ:i.size=ts.2)(jc:i.bytes<=65536)
  {b g:Nat} {l m:List DV} (hb:c.heap[b]?=some (.arr g ts l)) {v x:Value} (hv:VR c (.own b g) v) {news:List Value} (hs:Src P i.size c.w x m.length news) (hn:∀ (j:Nat) (y:DV) (v:Value),(flat m)[j]?=some y->news[j]?=some v->VD c.bad c.w y v) (hm:∀ e∈m,e.cells.length=ts.2) (lp:l.length+m.length<=2147483648) (ty:TypeId) :
  ∃ (c':Cx) (v':Value),(Builtin.append_ #[t0,t1] ty #[v,x]).run P c.w=.ok v' c'.w/\c'.heap=c.heap.set b (.arr (g+1) ts (l++m))/\aE G c'/\VR c' (.own b (g+1)) v'/\Step c c':=by
 obtain⟨q0,q1,q2⟩:=aO.box b _ hb;have eD:=a7 hb;have Ki:gM ts.2 (l++m):=E5 q1 hm;have qP:(flat m).length=m.length*ts.2:=ln (fun i e he=>hm e (List.mem_of_getElem? he));have nJ:news.length=(flat m).length:=by rw[hs.size,qP,gQ]
 have kE:∀ own w,(c.gm b (g+1) ts (l++m) own w).heap[b]?=some (.arr (g+1) ts (l++m)):=fun own w=>by show(c.heap.set b _)[b]?=_;rw[List.getElem?_set_self eD]
 have wK:∀ own w,(c.gm b (g+1) ts (l++m) own w).own b=own:=fun own w=>by simp[Cx.gm]
 have grown:∀ (iM:List Value) (cap:Nat) (bs:Option Addr),(∀ (idx:Nat) (y:DV),(flat l)[idx]?=some y->∃ v,iM[idx]?=some v/\v.oneCell'=true/\VD c.bad c.w y v)->iM.length=l.length*ts.2->(∀ d:Nat,(Builtin.firstCells i.size l.length (.slice bs l.length cap)).run P { c.w with drawn:=d }=.ok iM.toArray { c.w with drawn:=d })->cap<l.length+m.length->v=.slice bs l.length cap ->
   ∃ (c':Cx) (v':Value),(Builtin.append_ #[t0,t1] ty #[v,x]).run P c.w=.ok v' c'.w/\c'.heap=c.heap.set b (.arr (g+1) ts (l++m))/\aE G c'/\VR c' (.own b (g+1)) v'/\Step c c':=by
  intro iM cap bs hold yY E6 jo SG;subst SG;have hr:=Kc h0 h1 jb hi hz E6 hs jo lp jc ty;have aL:=grownCap_ge c.w (l.length+m.length) cap ts.1;have hle:=grownCap_le_maxLen c.w (l.length+m.length) cap ts.1 (mQ lp);generalize grownCap c.w (l.length+m.length) cap ts.1=nc at hr aL hle
  let cells:Array Value:=iM.toArray++news.toArray++Builtin.zeroCells z.cells (nc-(l.length+m.length))
  have hw:(c.w.drew.alloc (.cells cells ts.1)).heap[c.w.heap.size]?=some (.cells cells ts.1 (0,0)):=heap_alloc_new c.w.drew _;obtain⟨k1,k2⟩:=aO.gm (l':=l++m) hb (w:=c.w.drew.alloc (.cells cells ts.1)) (some (c.w.heap.size,nc)) rfl rfl rfl (by simp) (fun k hk _=>Below.heap_alloc c.w.drew _ k hk) (fun k n e=>by cases e;exact⟨by simp,fun h=>by omega⟩);refine⟨_,_,hr,rfl,k2 ⟨Ki,.inr ⟨c.w.heap.size,nc,cells,rfl,hw,?_,by simpa using aL,hle,?_⟩⟩,?_,k1⟩
  ·simp only[cells,Array.size_append,List.size_toArray,size_zeroCells,gL,yY,nJ,qP,gQ,<- Nat.add_mul]
   congr 1
   omega
  ·have:=iN.append (c:=c) (l:=l) (m:=m) (vs:=iM) (news:=news) (tail:=(Builtin.zeroCells z.cells (nc-(l.length+m.length))).toList) q1 hold (by omega) hs.one nJ hn;rw[List.take_of_length_le (by omega)]at this;have:=this.step k1
   simpa [cells]using this
  ·have:=VR.own (c:=c.gm b (g+1) ts (l++m) (some (c.w.heap.size,nc)) (c.w.drew.alloc (.cells cells ts.1))) b (g+1) ts (l++m) c.w.heap.size nc (kE _ _) (wK _ _);rw[List.length_append]at this;exact this
 rcases nI hb hv with⟨blk,cap,r1,rfl⟩|⟨rfl,rfl,r1⟩
 ·rcases q2 with⟨q2,-⟩|⟨lk,jS,vs,q2,q3,q4,q5,q6,q7⟩
  ·rw[r1]at q2;cases q2
  rw[r1]at q2;cases q2;have gj:=iN.Ke q0 q1 q7;have gK:l.length*ts.2<=vs.size:=by rw[q4];exact Nat.mul_le_mul_right _ q5
  by_cases kD:l.length+m.length<=cap
  ·have dJ:l.length*i.size+news.length<=vs.size:=by
    rw[nJ,qP,gQ,q4,<- Nat.add_mul];exact Nat.mul_le_mul_right _ kD
   have hr:=Su h0 h1 jb hi q3 hs kD dJ ty;obtain⟨e1,e2,e3,e4⟩:=yD blk news (l.length*i.size) c.w;obtain⟨k1,k2⟩:=aO.gm (l':=l++m) hb (w:=c.w.setCells blk (l.length*i.size) news) (some (blk,cap)) e1 e2 e3 (Nat.le_of_eq e4.symm) (fun k _ hk=>ud blk news _ c.w k (fun e=>hk cap (by rw[e];exact r1))) (fun k n e=>by cases e;exact⟨by rw[e4];exact(aO.bI b blk cap r1).1,fun _=>⟨cap,r1⟩⟩);refine⟨_,_,hr,rfl,k2 ⟨Ki,.inr ⟨blk,cap,(dG vs.toList (l.length*i.size) news).toArray,rfl,yE blk ts.1 (0,0) news _ c.w vs q3,by simp[wx,q4],by simpa using kD,q6,?_⟩⟩,?_,k1⟩
   ·have:=iN.append (c:=c) (l:=l) (m:=m) (vs:=vs.toList) (news:=news) (tail:=vs.toList.drop (l.length*ts.2+news.length)) q1 gj (by simpa using gK) hs.one nJ hn;have:=this.step k1;show iN _ (l++m) (dG vs.toList (l.length*i.size) news);rw[Kg (by simp;exact dJ)];rw[<- gQ]at this;exact this
   ·have:=VR.own (c:=c.gm b (g+1) ts (l++m) (some (blk,cap)) (c.w.setCells blk (l.length*i.size) news)) b (g+1) ts (l++m) blk cap (kE _ _) (wK _ _);rw[List.length_append]at this;exact this
  ·have cb:=mJ q3;refine grown (vs.toList.take (l.length*ts.2)) cap (some ⟨blk,0,none⟩) (fun idx y hy=>?_) (by simp;omega) (fun d=>?_) (by omega) rfl
   ·obtain⟨u,g1,g2⟩:=gj idx y hy;have ai:=a7 hy;rw[ln q1]at ai;exact⟨u,by rw[List.getElem?_take,if_pos ai];exact g1,g2⟩
   ·have:=run_loadCells_list (P:=P) { c.w with drawn:=d } ⟨blk,0,none⟩ (vs.toList.take (l.length*ts.2)) (fun j u hu=>by
     rw[List.getElem?_take]at hu;split at hu
     ·rw[lj];exact cb j u hu
     ·cases hu)
    have hlen:(vs.toList.take (l.length*ts.2)).length=l.length*i.size:=by simp;rw[gQ];omega
    rw[hlen]at this;exact this
 ·by_cases uA:m.length=0
  ·obtain rfl:m=[]:=List.eq_nil_of_length_eq_zero uA;have qQ:news=[]:=List.eq_nil_of_length_eq_zero (by rw[hs.size];simp);subst qQ;have hr:=Sv (b:=none) (n:=0) (cap:=0) h0 h1 jb hi hs (Nat.le_refl _) ty;obtain⟨k1,k2⟩:=aO.gm (l':=[]++[]) hb (w:=c.w) none rfl rfl rfl (Nat.le_refl _) (fun k _ _=>rfl) (fun k n e=>by cases e);exact⟨c.gm b (g+1) ts ([]++[]) none c.w,.slice none 0 0,hr,rfl,k2 ⟨fun i e he=>by simp at he,.inl ⟨rfl,rfl⟩⟩,.iY b (g+1) ts (kE _ _) (wK _ _),k1⟩
  ·exact grown [] 0 none (fun idx y hy=>by simp[flat]at hy) (by simp) (fun d=>by simp[Builtin.firstCells]) (by simp;omega) rfl
theorem aE.l9(aO:aE G c)(ts:Nat × Nat)(mR:0<ts.2):let c':Cx:={ c with heap:=c.heap++[.arr 0 ts []] }
  aE G c'/\Step c c'/\c'.heap[c.heap.length]?=some (.arr 0 ts [])/\VR c' (.own c.heap.length 0) (.slice none 0 0):=by
 intro c';have dR:c.own c.heap.length=none:=by
  cases ho:c.own c.heap.length with
  |none=>rfl
  |some p=>have:=(aO.bI _ p.1 p.2 ho).2;omega
 have aT:Step c c':=⟨rfl,aO.bE,rfl,rfl,rfl,Nat.le_refl _,fun _ _ _=>rfl,fun i b n hi _=>⟨n,hi⟩,fun i bx hi=>by
  have h':c'.heap[i]?=some bx:=by show(c.heap++_)[i]?=_;rw[List.getElem?_append_left (a7 hi)];exact hi
  cases bx with
  |cells cs=>exact .inl ⟨cs,h',rfl,rfl⟩
  |arr g sz l=>exact .inl ⟨g,l,h',.inr ⟨rfl,rfl,rfl⟩⟩
  |map es=>exact .inl ⟨es,h',rfl⟩
  |gone=>exact h'⟩
 have mS:c'.heap[c.heap.length]?=some (.arr 0 ts []):=by show(c.heap++_)[_]?=_;simp
 refine⟨aO.next aT (fun i b n hi=>⟨(aO.bI i b n hi).1,by have:=(aO.bI i b n hi).2;show i<(c.heap++_).length;simp;omega⟩) aO.inj (fun i bx hi=>?_),aT,mS,.iY _ _ ts mS dR⟩;by_cases iZ:i=c.heap.length
 ·subst iZ;rw[mS]at hi;cases hi;exact .inr ⟨mR,fun i e he=>by simp at he,.inl ⟨dR,rfl⟩⟩
 ·have ai:i<c.heap.length:=by
   have:=a7 hi;have h2:c'.heap.length=c.heap.length+1:=by show(c.heap++_).length=_;simp
   omega
  have cT:(c.heap++[.arr 0 ts []])[i]?=some bx:=hi;rw[List.getElem?_append_left ai]at cT;exact .inl ⟨cT,rfl,fun _ _ _=>rfl⟩
theorem E7{o:Oper}{ac:Act}{w w':World}{args:Array Operand}{ts:Array TypeId}{x y:Operand}{t0 t1:Nat}{v v0 v1:Value}(h1:o.op=.call { callee := .builtin .append,args:=args,argTypes:=ts })(hx:args.toList=[x,y])(ht:ts.toList=[t0,t1])(e0:ac.eval x=v0)(e1:ac.eval y=v1)
  (hr:(Builtin.append_ #[t0,t1] o.type #[v0,v1]).run P w=.ok v w'):(execOp ac.eval o).run P w=.ok (.value v) w':=by
 have ha:args.map ac.eval = #[v0,v1]:=by
  apply Array.ext';rw[Array.toList_map,hx];simp[e0,e1]
 have mR:ts = #[t0,t1]:=by apply Array.ext';rw[ht]
 simp only[execOp,h1,resolve,ha,mR,Sem.run_bind,Sem.run_pure,Result.andThen_ok,invoke,builtin,hr]
theorem E8(hE:E.OK){args:Array Operand}{kF:Array TypeId}{x y:Operand}{t0 t1 e:Nat}{i0 i1 ei:bD}(hx:args.toList=[x,y])(pD:kF.toList=[t0,t1])(fQ:E.T[t0]?=some i0)(jd:E.T[t1]?=some i1)(dh:i0.k=.slice e)(ea:∀ k,i1.k ≠ .int k)(cd:E.T[e]?=some ei)
  (hz:ei.zero.length=ei.size) (cD:0<ei.size) (jc:ei.bytes<=65536) {bv:AV} (hy:bh E.G s y bv) {m:List DV} (hm:∀ e∈m,e.cells.length=ei.size)
  (BV:∀ (c:Cx) (v:Value),VR c bv v->∃ news:List Value,Src E.P ei.size c.w v m.length news/\(∀ (j:Nat) (y:DV) (v:Value),(flat m)[j]?=some y->news[j]?=some v->VD c.bad c.w y v))
  {a:AV} (ha:bh E.G s x a) {r:AV} {h':List af}
  (E9:(∃ b g ts l,a=.own b g/\h[b]?=some (.arr g ts l)/\ts.1=e/\ts.2=ei.size/\l.length+m.length<=2147483648/\r=.own b (g+1)/\h'=h.set b (.arr (g+1) ts (l++m)))\/(a=.d .aW/\m.length<=2147483648/\r=.own h.length 1/\h'=h++[.arr 1 (e,ei.size) m])) :
  aZ E (.call { callee := .builtin .append,args:=args,argTypes:=kF }) s h r h':=fun o c ac h1 h2 h3 h4=>by
 subst h2;obtain⟨yG,d0,g1,g2,g3,-⟩:=cM (hE.types _ _ fQ);obtain rfl:=lZ (dh.symm.trans g3);obtain⟨Kj,d1,k1,k2,k3,-⟩:=cM (hE.types _ _ jd);obtain⟨ti,z,q1,q2,q3,q4⟩:=zeroOf (hE.types _ _ cd) hz cD;obtain⟨yN,d',p1,p2,p3,p4,p5,-⟩:=cM (hE.types _ _ cd);rw[q1]at p1;cases p1;have jb:∀ k,d1 ≠ .int k:=fun k e=>ea k (by rw[k3,e];rfl);have gL:z.cells.size=ti.size:=by
  obtain⟨vs,e1,e2⟩:=q4 c;rw[e1];have:=e2.1;simp at this;simp[<- this,hz,q3]
 rcases E9 with⟨b,g,ts,l,rfl,hb,rfl,oC,lp,rfl,rfl⟩|⟨rfl,lp,rfl,rfl⟩
 ·obtain⟨news,hs,hn⟩:=BV c _ (hy c ac h3 h4);rw[q3]at hs;obtain⟨c',v',r1,r2,r3,r4,r5⟩:=Kh h3 g2 k2 jb q1 q2 gL (by rw[<- q3];exact oC.symm) (by rw[<- p5];exact jc) hb (ha c ac h3 h4) hs hn (fun e he=>by rw[oC];exact hm e he) lp o.type;exact⟨c',v',.inl (E7 h1 hx pD rfl rfl r1),r2,r3,r4,r5⟩
 ·obtain⟨w1,w2,w3,w4⟩:=h3.l9 (e,ei.size) cD;have nK:=w2.vr (hy c ac h3 h4);obtain⟨news,hs,hn⟩:=BV _ _ nK;rw[q3]at hs;have di:ac.eval x=.slice none 0 0:=by
   have:=ha c ac h3 h4;generalize ac.eval x=u at this;cases this with
   |d _ _ hd=>cases hd;rfl
  obtain⟨c',v',r1,r2,r3,r4,r5⟩:=Kh (ts:=(e,ei.size)) w1 g2 k2 jb q1 q2 gL q3.symm (by rw[<- p5];exact jc) w3 w4 hs hn hm (by simpa using lp) o.type;refine⟨c',v',.inl (E7 h1 hx pD di rfl r1),?_,r3,r4,w2.trans r5⟩;rw[r2];simp
theorem Kk(hE:E.OK){t e:Nat}{n cc:Operand}{i ei:bD}(hi:E.T[t]?=some i)(hk:i.k=.slice e)(cd:E.T[e]?=some ei)(hz:ei.zero.length=ei.size)(cD:0<ei.size)(jc:ei.bytes<=65536)(mM:∀ y∈ei.zero,y.fm=true){j j':IntKind}{a b:Int}(hn:bh E.G s n (.d (.int j a)))(hc:bh E.G s cc (.d (.int j' b)))
  (ha:0<=a) (yZ:a<=b) (hb:b<=2147483648) {zd:DV} (Kl:zd.cells=ei.zero):aZ E (.makeSlice t n cc) s h (.own h.length 0) (h++[.arr 0 (e,ei.size) (List.replicate a.toNat zd)]):=fun o c ac h1 h2 h3 h4=>by
 subst h2;obtain⟨yG,d0,g1,g2,g3,-⟩:=cM (hE.types _ _ hi);obtain rfl:=lZ (hk.symm.trans g3);obtain⟨ti,z,q1,q2,q3,q4⟩:=zeroOf (hE.types _ _ cd) hz cD;obtain⟨yN,d',p1,p2,p3,p4,p5,-⟩:=cM (hE.types _ _ cd);rw[q1]at p1;cases p1;obtain⟨zs,gL,jV⟩:=q4 c;have l4:zs.length=ei.size:=by rw[<- jV.1];simpa using hz
 have SH:(ti.bytes:Int)*b<=281474976710656:=by
  have h5:(ti.bytes:Int)<=65536:=by rw[<- p5];omega
  calc (ti.bytes:Int)*b<=65536*2147483648:=Int.mul_le_mul h5 hb (by omega) (by omega)
   _<=281474976710656:=by decide
 have hr:=run_make (P:=E.P) c.w t e ti z g2 q1 q2 j j' a b ha yZ SH (by omega);have e1:=gb (hn c ac h3 h4);have e2:=gb (hc c ac h3 h4);obtain⟨k1,k2⟩:=h3.add (.arr 0 (e,ei.size) (List.replicate a.toNat zd)) b.toNat (.cells (madeCells z.cells (b.toNat*ti.size)) e);have dN:gM ei.size (List.replicate a.toNat zd):=fun i e he=>by
  rw[List.getElem?_replicate]at he;split at he
  ·cases he;rw[Kl,hz]
  ·cases he
 have bJ:(c.add (.arr 0 (e,ei.size) (List.replicate a.toNat zd)) b.toNat (.cells (madeCells z.cells (b.toNat*ti.size)) e)).own c.heap.length=some (c.w.heap.size,b.toNat):=by simp[Cx.add]
 have kE:(c.add (.arr 0 (e,ei.size) (List.replicate a.toNat zd)) b.toNat (.cells (madeCells z.cells (b.toNat*ti.size)) e)).heap[c.heap.length]?=some (.arr 0 (e,ei.size) (List.replicate a.toNat zd)):=by simp[Cx.add]
 refine⟨_,.slice (some ⟨c.w.heap.size,0,none⟩) a.toNat b.toNat,.inl ?_,rfl,k2 ⟨cD,dN,.inr ⟨c.w.heap.size,b.toNat,madeCells z.cells (b.toNat*ti.size),bJ,heap_alloc_new _ _,by rw[size_madeCells,q3],by simp;omega,mQ (by omega),?_⟩⟩,?_,k1⟩
 ·simp only[execOp,h1,e1,e2,Sem.run_bind,hr,Result.andThen_ok,Sem.run_pure];rfl
 ·intro i' j2 e' x he hx;have lr:j2<ei.size:=by rw[<- dN i' e' he];exact a7 hx
  rw[List.getElem?_replicate]at he;split at he
  ·rename_i ai;cases he;rw[Kl]at hx;have sB:i'*ei.size+j2<b.toNat*ti.size:=by
    rw[<- q3];have:(i'+1)*ei.size<=b.toNat*ei.size:=Nat.mul_le_mul_right _ (by omega);rw[Nat.add_mul,Nat.one_mul]at this;omega
   have wJ:(i'*ei.size+j2) % ei.size=j2:=by rw[Nat.mul_comm,Nat.mul_add_mod,Nat.mod_eq_of_lt lr]
   have bQ:(madeCells z.cells (b.toNat*ti.size))[i'*ei.size+j2]?=some (zs[j2]'(by omega)):=by
    simp[madeCells,sB,gL,l4,wJ,lr]
   have fR:=jV.py j2 x (zs[j2]'(by omega)) hx (by simp[l4,lr]);exact⟨_,bQ,yC fR (mM x (List.mem_of_getElem? hx)),k1.vd fR⟩
  ·cases he
 ·have:=VR.own (c:=c.add (.arr 0 (e,ei.size) (List.replicate a.toNat zd)) b.toNat (.cells (madeCells z.cells (b.toNat*ti.size)) e)) c.heap.length 0 (e,ei.size) _ c.w.heap.size b.toNat kE bJ;rw[List.length_replicate]at this;exact this
theorem SI(hE:E.OK){o:Op}{stop:Prop}{k:AV->List af->Prop}(H:nH E.T E.G o s h stop k):stop\/∃ v h',k v h'/\aZ E o s h v h':=by
 unfold nH at H;split at H
 ·rename_i args kF;rcases Kb H with h|⟨x,y,hx,H⟩
  ·exact .inl h
  rcases Kb H with h|⟨t0,t1,ht,H⟩
  ·exact .inl h
  rcases bp H with h|⟨i0,fQ,H⟩
  ·exact .inl h
  rcases bp H with h|⟨i1,jd,H⟩
  ·exact .inl h
  split at H
  ·rename_i e dh;rcases bp H with h|⟨ei,cd,H⟩
   ·exact .inl h
   split at H
   ·rename_i q1 q2 q3;rcases cL H with h|⟨a,ha,H⟩
    ·exact .inl h
    rcases cL H with h|⟨b,hb,H⟩
    ·exact .inl h
    have fin:∀ (m:List DV),(∀ k,i1.k ≠ .int k)->((∀ e∈m,e.cells.length=ei.size)->∀ (c:Cx) (v:Value),VR c b v->∃ news:List Value,Src E.P ei.size c.w v m.length news/\(∀ (j:Nat) (y:DV) (v:Value),(flat m)[j]?=some y->news[j]?=some v->VD c.bad c.w y v)) ->
      BR e ei h a m stop k->stop\/∃ v h',k v h'/\aZ E (.call { callee := .builtin .append,args:=args,argTypes:=kF }) s h v h':=by
     intro m ea BV H;have gen:=fun{r h'} (hm:∀ e∈m,e.cells.length=ei.size) E9=>E8 (h:=h) (r:=r) (h':=h') hE hx ht fQ jd dh ea cd (Nat.eq_of_beq_eq_true q1) (ix q2) (Nat.le_of_ble_eq_true q3) hb hm (BV hm) ha E9;unfold BR at H;split at H
     ·obtain⟨⟨h1,h2⟩,H⟩:=nF H;rw[nB,Nat.zero_add]at H;exact .inr ⟨_,_,H,gen h2 (.inr ⟨rfl,h1,rfl,rfl⟩)⟩
     ·rcases bp H with h|⟨bx,iu,H⟩
      ·exact .inl h
      split at H
      ·split at H
       ·rename_i p1 p2 p3;have p1:=Nat.eq_of_beq_eq_true p1;subst p1;obtain⟨⟨h1,h2⟩,H⟩:=nF H;rw[gJ]at H;exact .inr ⟨_,_,H,gen h2 (.inl ⟨_,_,_,_,rfl,iu,Nat.eq_of_beq_eq_true p2,Nat.eq_of_beq_eq_true p3,h1,rfl,rfl⟩)⟩
       ·exact .inl H
      ·exact .inl H
     ·exact .inl H
    split at H
    ·rename_i e' m ea;exact fin m (fun k hk=>by rw[ea]at hk;cases hk) (fun hm c v hv=>by cases hv with|d _ _ hv=>exact BS (ix q2) hm hv) H
    ·rename_i z ea;split at H
     ·refine fin (z.map nG) (fun k hk=>by rw[ea]at hk;cases hk) (fun hm c v hv=>?_) H;have ir:=px hv;subst ir;by_cases hz:z=[]
      ·subst hz;exact⟨[],⟨fun _=>by simp[Builtin.lenOf,ByteArray.size],fun d=>by simp[Builtin.firstCells],fun v hv=>by simp at hv,by simp⟩,fun j y v hy=>by simp[flat]at hy⟩
      ·obtain⟨b0,r,hr⟩:=List.exists_cons_of_ne_nil hz;have h1:1=ei.size:=hm (nG b0) (by rw[hr];simp);rw[<- h1];exact⟨_,Kd.1,(Kd (P:=E.P)).2⟩
     ·exact .inl H
    ·exact .inl H
   ·exact .inl H
  ·exact .inl H
 ·rcases bp H with h|⟨i,hi,H⟩
  ·exact .inl h
  split at H
  ·rename_i e hk;rcases bp H with h|⟨ei,cd,H⟩
   ·exact .inl h
   split at H
   ·rename_i q1 q2 q3 q4;rcases cL H with h|⟨a,ha,H⟩
    ·exact .inl h
    split at H
    ·rcases cL H with h|⟨b,hb,H⟩
     ·exact .inl h
     split at H
     ·split at H
      ·rename_i z jT;obtain⟨⟨h1,h2,h3⟩,H⟩:=nF H;rw[nB,Nat.zero_add]at H;have gL:z.fm=true:=by rw[jT]at q4;simpa using q4
       exact .inr ⟨_,_,H,Kk hE hi hk cd (Nat.eq_of_beq_eq_true q1) (ix q2) (Nat.le_of_ble_eq_true q3) (fun y hy=>List.all_eq_true.1 q4 y hy) ha hb h1 h2 h3 (zd:=z) (by rw[jT];cases z<;>first|rfl|cases gL)⟩
      ·obtain⟨⟨h1,h2,h3⟩,H⟩:=nF H;rw[nB,Nat.zero_add]at H;exact .inr ⟨_,_,H,Kk hE hi hk cd (Nat.eq_of_beq_eq_true q1) (ix q2) (Nat.le_of_ble_eq_true q3) (fun y hy=>List.all_eq_true.1 q4 y hy) ha hb h1 h2 h3 rfl⟩
     ·exact .inl H
    ·exact .inl H
   ·exact .inl H
  ·exact .inl H
 ·exact .inl H
end
end Go.aA
end
section
namespace Go.aA
open Go Go.RowKit
@[irreducible] def sC (l : List DV) (sz : Nat) (n : Int) (K : DV -> Prop) : Prop := ∃ e, 0 <= n /\ l[n.toNat]? = some e /\ e.cells.length = sz /\ K e
theorem fu{l:List DV}{sz:Nat}{n:Int}{K:DV->Prop}(e:DV)(h0:0<=n)(he:l[n.toNat]?=some e)(hs:e.cells.length=sz)(k:K e):sC l sz n K:=by unfold sC;exact⟨e,h0,he,hs,k⟩
theorem E'{l:List DV}{sz:Nat}{n:Int}{K:DV->Prop}(h:sC l sz n K):∃ e,0<=n/\l[n.toNat]?=some e/\e.cells.length=sz/\K e:=by unfold sC at h;exact h
@[irreducible] def y0 (s : List UInt8) (n : Int) (K : UInt8 -> Prop) : Prop := ∃ b, 0 <= n /\ s[n.toNat]? = some b /\ K b
theorem uB{s:List UInt8}{n:Int}{K:UInt8->Prop}(b:UInt8)(h0:0<=n)(hb:s[n.toNat]?=some b)(k:K b):y0 s n K:=by unfold y0;exact⟨b,h0,hb,k⟩
theorem SJ{s:List UInt8}{n:Int}{K:UInt8->Prop}(h:y0 s n K):∃ b,0<=n/\s[n.toNat]?=some b/\K b:=by unfold y0 at h;exact h
@[irreducible] def y5 (c : List DV) (len sz : Nat) (n : Int) (K : DV -> Prop) : Prop := ∃ e, 0 <= n /\ n < len /\ 0 < sz /\ (c.drop (n.toNat * sz)).take sz = e.cells /\ e.cells.length = sz /\ K e
theorem SK{c:List DV}{len sz:Nat}{n:Int}{K:DV->Prop}(e:DV)(h0:0<=n)(h1:n<len)(hz:0<sz)(he:(c.drop (n.toNat*sz)).take sz=e.cells)(hs:e.cells.length=sz)(k:K e):y5 c len sz n K:=by unfold y5;exact⟨e,h0,h1,hz,he,hs,k⟩
theorem SL{c:List DV}{len sz:Nat}{n:Int}{K:DV->Prop}(h:y5 c len sz n K):∃ e,0<=n/\n<len/\0<sz/\(c.drop (n.toNat*sz)).take sz=e.cells/\e.cells.length=sz/\K e:=by unfold y5 at h;exact h
def BW(G:List (Nat × DV))(s:List AV)(x:Option Operand)(stop:Prop)(k:Option Int->Prop):Prop :=
 match x with
 |none=>k none
 |some x=>cK G s x stop fun
  | .d (.int _ n)=>k (some n)
  |_=>stop
def BX(e:DV)(off:Nat)(ds:List DV)(stop:Prop)(k:DV->Prop):Prop :=
 match e with
 | .agg c=>match Nat.ble (off+ds.length) c.length with
  |true=>wo c off ds fun c'=>k (.agg c')
  |false=>stop
 |_=>match off,ds with
  |0,[d]=>match d.fm with
   |true=>k d
   |false=>stop
  |_,_=>stop
def Fa(e:DV)(off:Nat)(vs:List AV)(stop:Prop)(k:DV->Prop):Prop:=mI vs stop fun ds=>BX e off ds stop k
def ma(T:List bD)(G:List (Nat × DV))(o:Op)(s:List AV)(h:List af)(stop:Prop)(k:AV->List af->Prop):Prop :=
 match o with
 | .indexAddr t x i=>aY T t stop fun ti=>cK G s x stop fun a=>cK G s i stop fun
  | .d (.int _ n)=>match ti.k with
   | .slice e=>aY T e stop fun ei=>match a with
    | .d (.sl l)=>match Nat.blt 0 ei.size with
     |true=>sC l ei.size n fun e=>k (.b9 e 0) h
     |false=>stop
    | .own b g=>aY h b stop fun
     | .arr g' ts l=>match Nat.beq g g',Nat.beq ts.2 ei.size with
      |true,true=>need (0<=n/\n<l.length) (k (.cO b g n.toNat 0) h)
      |_,_=>stop
     |_=>stop
    |_=>stop
   | .array len e=>aY T e stop fun ei=>match a with
    | .b9 (.agg c) 0=>y5 c len ei.size n fun e'=>k (.b9 e' 0) h
    |_=>stop
   |_=>stop
  |_=>stop
 | .index t x i=>aY T t stop fun ti=>cK G s x stop fun a=>cK G s i stop fun
  | .d (.int _ n)=>match ti.k,a with
   | .string,.d (.str l)=>y0 l n fun b=>k (.d (.int .u8 b.toNat)) h
   |_,_=>stop
  |_=>stop
 | .slice t x lo hi none=>aY T t stop fun ti=>cK G s x stop fun a=>BW G s lo stop fun l=>BW G s hi stop fun u=>match ti.k,a with
  | .string,.d (.str z)=>need (0<=l.getD 0/\l.getD 0<=u.getD z.length/\u.getD z.length<=z.length) (k (.d (.str ((z.take (u.getD z.length).toNat).drop (l.getD 0).toNat))) h)
  | .slice e,.d (.sl z)=>aY T e stop fun ei=>need (0<=l.getD 0/\l.getD 0<=u.getD z.length/\u.getD z.length<=z.length/\∀ e∈z,e.cells.length=ei.size) (k (.d (.sl ((z.take (u.getD z.length).toNat).drop (l.getD 0).toNat))) h)
  |_,_=>stop
 | .load t x=>aY T t stop fun ti=>cK G s x stop fun
  | .cO b g i off=>aY h b stop fun
   | .arr g' ts l=>match Nat.beq g g' with
    |true=>sC l ts.2 i fun e=>match e with
     | .agg c=>oq .d c fun c'=>lh ti c' off stop fun v=>k v h
     |e=>lh ti [.d e] off stop fun v=>k v h
    |false=>stop
   |_=>stop
  |_=>stop
 | .store t x y=>aY T t stop fun ti=>cK G s y stop fun v=>cK G s x stop fun
  | .cO b g i off=>aY h b stop fun
   | .arr g' ts l=>match Nat.beq g g' with
    |true=>wu v stop fun vs=>match Nat.beq vs.length ti.size,vs.all AV.fm with
     |true,true=>sC l ts.2 i fun e=>Fa e off vs stop fun e'=>fI h b (.arr g ts (l.set i e')) fun h'=>k (.d .undef) h'
     |_,_=>stop
    |false=>stop
   |_=>stop
  |_=>stop
 |o=>nH T G o s h stop k
section
variable {E:Env} {s:List AV} {h:List af} {c:Cx}
theorem BY{P:Program}{t e:Nat}{i ei:bD}(ht:eR P t=some i)(SM:eR P e=some ei)(hk:i.k=.slice e){j:IntKind}{n:Int}{b o len cap:Nat}{w:World}(h0:0<=n)(h1:n<len) :
  (Instr.indexAt t (.slice (some ⟨b,o,none⟩) len cap) (.int j n)).run P w=.ok (.pointer (some ⟨b,o+n.toNat*ei.size,none⟩)) w:=by
 obtain⟨ti,d,g1,g2,g3,-⟩:=cM ht;obtain rfl:=lZ (hk.symm.trans g3);simp only[Instr.indexAt,asIntOf,Sem.run_bind,Sem.run_pure,Result.andThen_ok,run_underlying g2,h0,h1,and_self,if_true,run_sizeOf SM,lj]
theorem wL{P:Program}{o:Oper}{ac:Act}{w:World}{t:Nat}{x i:Operand}{v:Value}(h1:o.op=.indexAddr t x i)(hr:(Instr.indexAt t (ac.eval x) (ac.eval i)).run P w=.ok v w):(execOp ac.eval o).run P w=.ok (.value v) w:=by
 simp only[execOp,h1,Sem.run_bind,hr,Result.andThen_ok,Sem.run_pure]
theorem SN{l:List DV}{v:Value}(hv:VR c (.d (.sl l)) v){n sz:Nat}{e:DV}(he:l[n]?=some e)(hs:e.cells.length=sz)(cD:0<sz):∃ blk off cap,v=.slice (some ⟨blk,off,none⟩) l.length cap/\VR c (.b9 e 0) (.pointer (some ⟨blk,off+n*sz,none⟩)):=by
 cases hv with
 |d _ _ hd=>cases hd with
  |slnil=>simp at he
  |lg=>simp at he
  |sl _ blk off cap dD f hb bT jo hlen dQ bQ cj =>
   obtain rfl:dD=sz:=(hlen n e he).symm.trans hs;refine⟨blk,off,cap,rfl,?_⟩;have aM:l≠[]:=fun h0=>by subst h0;simp at he
   have:=VR.b9 (c:=c) e 0 blk (off+n*dD) (fun j=>f n j) (hb aM) (fun h0=>by rw[h0]at hs;simp at hs;omega) (fun j x hx=>by rw[Nat.add_assoc];exact dQ n j e x he hx) (fun j x hx=>bQ n j e x he hx);exact this
theorem SO(hE:E.OK){t e:Nat}{x i:Operand}{ti ei:bD}(cm:E.T[t]?=some ti)(cd:E.T[e]?=some ei)(hk:ti.k=.slice e){l:List DV}{j:IntKind}{n:Int}(hx:bh E.G s x (.d (.sl l)))(hi:bh E.G s i (.d (.int j n)))(cD:0<ei.size){y:DV}(h0:0<=n)(hy:l[n.toNat]?=some y)(hs:y.cells.length=ei.size) :
  aZ E (.indexAddr t x i) s h (.b9 y 0) h := .quiet fun o c ac h1 _ h3 h4=>by
 obtain⟨blk,off,cap,e1,e2⟩:=SN (hx c ac h3 h4) hy hs cD;refine⟨_,wL h1 ?_,e2⟩;rw[e1,gb (hi c ac h3 h4)];have:=a7 hy;exact BY (hE.types t ti cm) (hE.types e ei cd) hk h0 (by omega)
theorem Km{b g i off:Nat}{ts:Nat × Nat}{l:List DV}(hb:c.heap[b]?=some (.arr g ts l)){v:Value}(hv:VR c (.cO b g i off) v):∃ blk cap,c.own b=some (blk,cap)/\v=.pointer (some ⟨blk,i*ts.2+off,none⟩)/\i<l.length:=by
 cases hv with
 |cO _ _ _ _ _ l' blk cap k1 k2 k3=>rw[hb]at k1;cases k1;exact⟨blk,cap,k2,rfl,k3⟩
 |lW _ _ g' _ _ _ _ _ k1 k2 _=>rw[hb]at k1;cases k1;omega
 |lX _ _ _ _ _ k1 _=>rw[hb]at k1;cases k1
theorem SP(hE:E.OK){t e:Nat}{x i:Operand}{ti ei:bD}(cm:E.T[t]?=some ti)(cd:E.T[e]?=some ei)(hk:ti.k=.slice e){b g:Nat}{ts:Nat × Nat}{l:List DV}(hb:h[b]?=some (.arr g ts l))(mR:ts.2=ei.size){j:IntKind}{n:Int}(hx:bh E.G s x (.own b g))(hi:bh E.G s i (.d (.int j n)))(h0:0<=n)(h1:n<l.length) :
  aZ E (.indexAddr t x i) s h (.cO b g n.toNat 0) h := .quiet fun o c ac e1 e2 h3 h4=>by
 subst e2;rcases nI hb (hx c ac h3 h4)with⟨blk,cap,q1,q2⟩|⟨rfl,-,-⟩
 ·refine⟨_,wL e1 (v := .pointer (some ⟨blk,0+n.toNat*ei.size,none⟩)) ?_,?_⟩
  ·rw[q2,gb (hi c ac h3 h4)];exact BY (hE.types t ti cm) (hE.types e ei cd) hk h0 h1
  ·have:=VR.cO (c:=c) b g n.toNat 0 ts l blk cap hb q1 (by omega);rw[mR]at this
   simpa using this
 ·simp at h1;omega
theorem SQ(hE:E.OK){t e len:Nat}{x i:Operand}{ti ei:bD}(cm:E.T[t]?=some ti)(cd:E.T[e]?=some ei)(hk:ti.k=.array len e){cs:List DV}{j:IntKind}{n:Int}(hx:bh E.G s x (.b9 (.agg cs) 0))(hi:bh E.G s i (.d (.int j n))){y:DV}(h0:0<=n)(h1:n<len)(cD:0<ei.size)(hy:(cs.drop (n.toNat*ei.size)).take ei.size=y.cells)(hs:y.cells.length=ei.size) :
  aZ E (.indexAddr t x i) s h (.b9 y 0) h := .quiet fun o c ac e1 _ h3 h4=>by
 obtain⟨nL,d,g1,g2,g3,-⟩:=cM (hE.types t ti cm);obtain rfl:=yF (hk.symm.trans g3);have key:∀ p,VR c (.b9 (.agg cs) 0) p->∃ blk o',p=.pointer (some ⟨blk,o',none⟩)/\VR c (.b9 y 0) (.pointer (some ⟨blk,o'+n.toNat*ei.size,none⟩)):=fun p hp=>by
  cases hp with
  |b9 _ _ blk o' f k1 k2 k3 k4 =>
   have fa:∀ (jj:Nat) (z:DV),y.cells[jj]?=some z->cs[n.toNat*ei.size+jj]?=some z:=fun jj z hz=>by
    rw[<- hy,List.getElem?_take]at hz;split at hz
    ·simpa using hz
    ·cases hz
   exact⟨blk,o'+0,rfl,VR.b9 y 0 blk (o'+0+n.toNat*ei.size) (fun jj=>f (n.toNat*ei.size+jj)) k1 (fun hh=>by rw[hh]at hs;simp at hs;omega) (fun jj z hz=>by rw[Nat.add_zero,Nat.add_assoc];exact k3 _ z (fa jj z hz)) (fun jj z hz=>k4 _ z (fa jj z hz))⟩
 obtain⟨blk,o',q1,q2⟩:=key _ (hx c ac h3 h4);refine⟨_,wL e1 ?_,q2⟩;rw[q1,gb (hi c ac h3 h4)];simp only[Instr.indexAt,asIntOf,Sem.run_bind,Sem.run_pure,Result.andThen_ok,run_underlying g2,Instr.sureAddr,h0,h1,and_self,if_true,run_sizeOf (hE.types e ei cd),lj]
theorem SR(hE:E.OK){t:Nat}{x i:Operand}{ti:bD}(cm:E.T[t]?=some ti)(hk:ti.k=.string){l:List UInt8}{j:IntKind}{n:Int}(hx:bh E.G s x (.d (.str l)))(hi:bh E.G s i (.d (.int j n))){b:UInt8}(h0:0<=n)(hb:l[n.toNat]?=some b) :
  aZ E (.index t x i) s h (.d (.int .u8 b.toNat)) h := .quiet fun o c ac e1 _ h3 h4=>by
 obtain⟨nL,d,g1,g2,g3,-⟩:=cM (hE.types t ti cm);obtain rfl:=sx (hk.symm.trans g3);have ai:=a7 hb;have fa:(ByteArray.mk l.toArray)[n.toNat]?=some b:=by
  have hs:n.toNat<(ByteArray.mk l.toArray).size:=by simpa [ByteArray.size]using ai
  rw[getElem?_pos (ByteArray.mk l.toArray) n.toNat hs];have:=List.getElem?_eq_getElem ai;rw[hb]at this
  simpa [ByteArray.getElem_eq_getElem_data]using this.symm
 refine⟨.int .u8 b.toNat,?_,.d _ _ (.int _ _)⟩;simp only[execOp,e1,px (hx c ac h3 h4),gb (hi c ac h3 h4),Instr.index,asIntOf,Sem.run_bind,Sem.run_pure,Result.andThen_ok,run_underlying g2,h0,if_true,fa]
def y6(G:List (Nat × DV))(s:List AV)(x:Option Operand)(n:Option Int):Prop:=∀ (c:Cx) (a:Act),aE G c->VS c s a.tmps->match n with
 |none=>x.map a.eval=none
 |some n=>∃ j,x.map a.eval=some (.int j n)
theorem Kn{x:Option Operand}{stop:Prop}{k:Option Int->Prop}(H:BW E.G s x stop k):stop\/∃ n,y6 E.G s x n/\k n:=by
 unfold BW at H;split at H
 ·exact .inr ⟨none,fun _ _ _ _=>rfl,H⟩
 ·rcases cL H with h|⟨v,hv,H⟩
  ·exact .inl h
  split at H
  ·rename_i j n;refine .inr ⟨some n,fun c a h1 h2=>?_,H⟩;show ∃ j,_=some (Value.int j n);exact⟨j,by simp[gb (hv c a h1 h2)]⟩
  ·exact .inl H
theorem Fb{P:Program}{w:World}{isSlice:Bool}{len cap:Nat}{lo hi:Option Value}{l u:Option Int}(hl:match l with|none=>lo=none|some n=>∃ j,lo=some (.int j n))(hu:match u with|none=>hi=none|some n=>∃ j,hi=some (.int j n))
  (h0:0<=l.getD 0) (h1:l.getD 0<=u.getD len) (h2:u.getD len<=len) (hc:len<=cap) :
  (Instr.sliceBounds isSlice len cap lo hi none).run P w=.ok ((l.getD 0).toNat,(u.getD len).toNat,cap) w:=by
 cases l with
 |none =>
  simp only at hl;subst hl;cases u with
  |none =>
   simp only at hu;subst hu;simp only[Instr.sliceBounds,Sem.run_bind,Sem.run_pure,Result.andThen_ok,Option.getD_none,Int.toNat_natCast,Int.toNat_zero]
  |some n =>
   obtain⟨j,rfl⟩:=hu;simp only[Option.getD_some,Option.getD_none]at h1 h2;simp only[Instr.sliceBounds,Sem.run_bind,Sem.run_pure,Result.andThen_ok,Option.getD_none,Option.getD_some,Int.toNat_zero,run_sliceBound w j n cap _ h1 (by omega)]
 |some m =>
  obtain⟨i,rfl⟩:=hl;cases u with
  |none =>
   simp only at hu;subst hu;simp only[Option.getD_some,Option.getD_none]at h0 h1;simp only[Instr.sliceBounds,Sem.run_bind,Sem.run_pure,Result.andThen_ok,Option.getD_none,Option.getD_some,Int.toNat_natCast,run_sliceBound w i m len _ h0 h1]
  |some n =>
   obtain⟨j,rfl⟩:=hu;simp only[Option.getD_some]at h0 h1 h2;simp only[Instr.sliceBounds,Sem.run_bind,Sem.run_pure,Result.andThen_ok,Option.getD_some,run_sliceBound w j n cap _ (by omega) (by omega),run_sliceBound w i m n.toNat _ h0 (by omega)]
theorem SS(l:List UInt8)(a b:Nat):(ByteArray.mk l.toArray).extract a b=ByteArray.mk ((l.take b).drop a).toArray:=by
 apply ByteArray.ext;simp[List.extract_eq_take_drop,List.drop_take]
theorem SU(hE:E.OK){t:Nat}{x:Operand}{lo hi:Option Operand}{ti:bD}(cm:E.T[t]?=some ti)(hk:ti.k=.string){z:List UInt8}{l u:Option Int}(hx:bh E.G s x (.d (.str z)))(hl:y6 E.G s lo l)(hu:y6 E.G s hi u)
  (h0:0<=l.getD 0) (h1:l.getD 0<=u.getD z.length) (h2:u.getD z.length<=z.length):aZ E (.slice t x lo hi none) s h (.d (.str ((z.take (u.getD z.length).toNat).drop (l.getD 0).toNat))) h := .quiet fun o c ac e1 _ h3 h4=>by
 obtain⟨nL,d,g1,g2,g3,-⟩:=cM (hE.types t ti cm);obtain rfl:=sx (hk.symm.trans g3);have bT:(ByteArray.mk z.toArray).size=z.length:=by simp[ByteArray.size]
 have hb:=Fb (P:=E.P) (w:=c.w) (isSlice:=false) (len:=z.length) (cap:=z.length) (hl c ac h3 h4) (hu c ac h3 h4) h0 h1 h2 (Nat.le_refl _);refine⟨_,?_,.d _ _ (.str _)⟩;simp only[execOp,e1,px (hx c ac h3 h4),Instr.sliceAt,Instr.slice,Sem.run_bind,Sem.run_pure,Result.andThen_ok,run_underlying g2,Option.map_none,Option.isSome_none,Bool.false_eq_true,if_false,bT,hb,SS]
theorem SV{bad:Nat->Prop}{w:World}{z:List DV}{v:Value}(hv:VD bad w (.sl z) v){lo hi sz:Nat}(h1:lo<=hi)(h2:hi<=z.length)(bT:∀ e∈z,e.cells.length=sz):∃ a cap,v=.slice a z.length cap/\z.length<=cap/\VD bad w (.sl ((z.take hi).drop lo)) (.slice (if cap=lo then a else a.map (·.add (lo*sz))) (hi-lo) (cap-lo)):=by
 have hlen:((z.take hi).drop lo).length=hi-lo:=by simp;omega
 cases hv with
 |slnil =>
  simp at h2;subst h2;simp at h1;subst h1;exact⟨none,0,rfl,Nat.le_refl _,by simpa using VD.slnil⟩
 |lg a =>
  simp at h2;subst h2;simp at h1;subst h1;exact⟨some a,0,rfl,Nat.le_refl _,by simpa using VD.lg a⟩
 |sl _ blk off cap dD f hb BU jo lu dQ bQ cj =>
  refine⟨some ⟨blk,off,none⟩,cap,rfl,jo,?_⟩;by_cases hc:cap=lo
  ·have:hi=lo:=by omega
   subst this;have e:(z.take hi).drop hi=[]:=by simp
   rw[e,if_pos hc,Nat.sub_self];exact .sl [] blk off (cap-hi) dD f (fun h=>absurd rfl h) BU (Nat.zero_le _) (fun i e he=>by simp at he) (fun i j e x he=>by simp at he) (fun i j e x he=>by simp at he) (fun i j e x he=>by simp at he)
  ·rw[if_neg hc,<- hlen];simp only[Option.map_some,lj];have fa:∀ (i:Nat) (e:DV),((z.take hi).drop lo)[i]?=some e->z[lo+i]?=some e:=fun i e he=>by
    simp only[List.getElem?_drop,List.getElem?_take]at he;split at he
    ·exact he
    ·cases he
   by_cases aM:(z.take hi).drop lo=[]
   ·rw[aM];exact .sl [] blk _ (cap-lo) dD f (fun h=>absurd rfl h) BU (Nat.zero_le _) (fun i e he=>by simp at he) (fun i j e x he=>by simp at he) (fun i j e x he=>by simp at he) (fun i j e x he=>by simp at he)
   ·obtain⟨e0,r,hr⟩:=List.exists_cons_of_ne_nil aM;have Fc:=fa 0 e0 (by rw[hr];rfl);have kC:dD=sz:=(lu _ _ Fc).symm.trans (bT e0 (List.mem_of_getElem? Fc));subst kC;refine .sl _ blk (off+lo*dD) (cap-lo) dD (fun i j=>f (lo+i) j) (fun _=>hb (fun h=>by subst h;simp at Fc)) BU (by rw[hlen];omega) (fun i e he=>lu _ _ (fa i e he)) (fun i j e x he hx=>?_) (fun i j e x he hx=>bQ _ _ _ _ (fa i e he) hx) (fun i j e x he hx=>cj _ _ _ _ (fa i e he) hx);have:=dQ _ _ _ _ (fa i e he) hx;rw[Nat.add_mul]at this;rw[show off+lo*dD+(i*dD+j)=off+(lo*dD+i*dD+j) by omega];exact this
theorem SX(hE:E.OK){t e:Nat}{x:Operand}{lo hi:Option Operand}{ti ei:bD}(cm:E.T[t]?=some ti)(cd:E.T[e]?=some ei)(hk:ti.k=.slice e){z:List DV}{l u:Option Int}(hx:bh E.G s x (.d (.sl z)))(hl:y6 E.G s lo l)(hu:y6 E.G s hi u)
  (h0:0<=l.getD 0) (h1:l.getD 0<=u.getD z.length) (h2:u.getD z.length<=z.length) (bT:∀ e∈z,e.cells.length=ei.size):aZ E (.slice t x lo hi none) s h (.d (.sl ((z.take (u.getD z.length).toNat).drop (l.getD 0).toNat))) h := .quiet fun o c ac e1 _ h3 h4=>by
 obtain⟨nL,d,g1,g2,g3,-⟩:=cM (hE.types t ti cm);obtain rfl:=lZ (hk.symm.trans g3);have hv:=hx c ac h3 h4;generalize SY:ac.eval x=v at hv;cases hv with
 |d _ _ hv =>
  obtain⟨a,cap,rfl,jo,hd⟩:=SV hv (lo:=(l.getD 0).toNat) (hi:=(u.getD z.length).toNat) (by omega) (by omega) bT;have hb:=Fb (P:=E.P) (w:=c.w) (isSlice:=true) (len:=z.length) (cap:=cap) (hl c ac h3 h4) (hu c ac h3 h4) h0 h1 h2 jo;refine⟨_,?_,.d _ _ hd⟩;simp only[execOp,e1,SY,Instr.sliceAt,Instr.slice,Sem.run_bind,Sem.run_pure,Result.andThen_ok,run_underlying g2,Option.map_none,hb,run_sizeOf (hE.types e ei cd)]
theorem aE.elem{G:List (Nat × DV)}(ho:aE G c){b g:Nat}{ts:Nat × Nat}{l:List DV}(hb:c.heap[b]?=some (.arr g ts l)){blk cap:Nat}(bJ:c.own b=some (blk,cap)){i:Nat}{e:DV}(he:l[i]?=some e) :
  ∃ (vs:Array Value) (us:List Value),c.w.heap[blk]?=some (.cells vs ts.1 (0,0))/\us.length=ts.2/\BG c.w blk (i*ts.2) us/\VL c (e.cells.map .d) us/\i*ts.2+ts.2<=vs.size:=by
 obtain⟨q0,q1,q2⟩:=ho.box b _ hb;rcases q2 with⟨q2,-⟩|⟨lk,jS,vs,q2,q3,q4,q5,q6,q7⟩
 ·rw[bJ]at q2;cases q2
 ·rw[bJ]at q2;cases q2;have hlen:=q1 i e he;have hi:=a7 he;have dJ:i*ts.2+ts.2<=vs.size:=by
   rw[q4]
   calc i*ts.2+ts.2=(i+1)*ts.2:=by rw[Nat.add_mul,Nat.one_mul]
    _<=cap*ts.2:=Nat.mul_le_mul_right _ (by omega)
  refine⟨vs,(vs.toList.drop (i*ts.2)).take ts.2,q3,by simp;omega,fun j v hv=>?_,.uc (by simp[hlen];omega) (fun j x v hx hv=>?_),dJ⟩
  ·rw[List.getElem?_take]at hv;split at hv
   ·rw[List.getElem?_drop]at hv;have:=mJ q3 (i*ts.2+j) v hv
    simpa using this
   ·cases hv
  ·obtain⟨u,k1,-,k2⟩:=q7 i j e x he hx;rw[List.getElem?_take]at hv;split at hv
   ·rw[List.getElem?_drop]at hv;have:vs[i*ts.2+j]?=some v:=by simpa using hv
    rw[k1]at this;cases this;exact k2
   ·cases hv
theorem Ko(hE:E.OK){t:Nat}{x:Operand}{ti:bD}(cm:E.T[t]?=some ti){b g i off:Nat}{ts:Nat × Nat}{l:List DV}(hb:h[b]?=some (.arr g ts l))(hx:bh E.G s x (.cO b g i off)){e:DV}(he:l[i]?=some e){stop:Prop}{k:AV->Prop}{cs:List AV}(lv:cs=e.cells.map .d)(H:lh ti cs off stop k) :
  stop\/∃ v,k v/\aZ E (.load t x) s h v h:=by
 rcases BH H with h1|⟨v,hk,hp⟩
 ·exact .inl h1
 refine .inr ⟨v,hk,.quiet fun o c ac h1 h2 h3 h4=>?_⟩;subst h2;obtain⟨blk,cap,q1,q2,q3⟩:=Km hb (hx c ac h3 h4);obtain⟨vs,us,r1,r2,r3,r4,r5⟩:=h3.elem hb q1 he;obtain⟨u,hu,qF⟩:=hp E.P t c blk (i*ts.2) us (hE.types t ti cm) (by rw[lv];exact r4) r3;refine⟨u,?_,qF⟩;simp only[execOp,h1,q2,Sem.run_bind,hu,Result.andThen_ok,Sem.run_pure]
theorem aE.SZ{G:List (Nat × DV)}(ho:aE G c){b g blk cap:Nat}{ts:Nat × Nat}{l:List DV}{vs:Array Value}(hb:c.heap[b]?=some (.arr g ts l))(bJ:c.own b=some (blk,cap))(hblk:c.w.heap[blk]?=some (.cells vs ts.1 (0,0)))
  {i off:Nat} {e e':DV} (he:l[i]?=some e) (hs:e'.cells.length=ts.2) {us:List Value} (dJ:off+us.length<=ts.2) (cj:∀ u∈us,u.oneCell'=true)
  (hv:∀ (j:Nat) (x:DV),e'.cells[j]?=some x->(off<=j/\∃ v,us[j-off]?=some v/\VD c.bad c.w x v)\/((j<off\/off+us.length<=j)/\e.cells[j]?=some x)) :
  let c':Cx:={ c with heap:=c.heap.set b (.arr g ts (l.set i e')),w:=c.w.setCells blk (i*ts.2+off) us }
  aE G c'/\Step c c':=by
 intro c';obtain⟨e1,e2,e3,e4⟩:=yD blk us (i*ts.2+off) c.w;have eD:b<c.heap.length:=(ho.bI b blk cap bJ).2
 have aT:Step c c':={
  ak:=rfl
  bE:=ho.bE
  os:=e1
  tape:=e2
  output:=e3
  size:=Nat.le_of_eq e4.symm
  keep:=fun x _ hn=>ud blk us _ c.w x (fun e=>hn b cap (by rw[e];exact bJ))
  dw:=fun i x n hi _=>⟨n,hi⟩
  boxes:=fun k bx hk=>by
   by_cases qR:k=b
   ·subst qR;rw[hb]at hk;cases hk;exact .inl ⟨g,l.set i e',by show(c.heap.set k _)[k]?=_;rw[List.getElem?_set_self eD],.inr ⟨rfl,by simp,rfl⟩⟩
   ·have h':c'.heap[k]?=some bx:=by show(c.heap.set b _)[k]?=_;rw[List.getElem?_set_ne (Ne.symm qR)];exact hk
    cases bx with
    |cells cs=>exact .inl ⟨cs,h',rfl,rfl⟩
    |arr g sz l=>exact .inl ⟨g,l,h',.inr ⟨rfl,rfl,rfl⟩⟩
    |map es=>exact .inl ⟨es,h',rfl⟩
    |gone=>exact h' }
 refine⟨ho.next aT (fun k x n hk=>⟨by show x<(c.w.setCells blk _ us).heap.size;rw[e4];exact(ho.bI k x n hk).1,by show k<(c.heap.set b _).length;rw[List.length_set];exact(ho.bI k x n hk).2⟩) ho.inj (fun k bx hk=>?_),aT⟩;by_cases qR:k=b
 ·subst qR;have gp:(c.heap.set k (.arr g ts (l.set i e')))[k]?=some bx:=hk;rw[List.getElem?_set_self eD]at gp;cases gp;right;obtain⟨q0,q1,q2⟩:=ho.box k _ hb;rcases q2 with⟨q2,-⟩|⟨lk,jS,cQ,q2,q3,q4,q5,q6,q7⟩
  ·rw[bJ]at q2;cases q2
  ·rw[bJ]at q2;cases q2;rw[hblk]at q3;cases q3;have iZ:=a7 he;have y7:gM ts.2 (l.set i e'):=gM.set q1 i hs;refine⟨q0,y7,.inr ⟨blk,cap,(dG vs.toList (i*ts.2+off) us).toArray,bJ,yE blk ts.1 (0,0) us _ c.w vs hblk,by simp[wx,q4],by simpa using q5,q6,fun i' j e2 x h2 hx=>?_⟩⟩;have hj:j<ts.2:=by rw[<- y7 i' e2 h2];exact a7 hx
   have fa:∀ (p:Nat),(dG vs.toList (i*ts.2+off) us)[p]?=if i*ts.2+off<=p/\p<i*ts.2+off+us.length/\p<vs.size then us[p-(i*ts.2+off)]? else vs[p]? := by
    intro p;have gen:∀ (us:List Value) (o:Nat) (q:List Value),(dG q o us)[p]?=if o<=p/\p<o+us.length/\p<q.length then us[p-o]? else q[p]? := by
     intro us
     induction us with
     |nil=>intro o q;rw[if_neg (by simp;omega)];rfl
     |cons u us ih =>
      intro o q;rw[dG,ih];by_cases hp:o=p
      ·subst hp;rw[if_neg (by omega)];by_cases hq:o<q.length
       ·rw[if_pos (by simp;omega),List.getElem?_set_self hq];simp
       ·rw[if_neg (by omega),List.getElem?_eq_none (by simp;omega),List.getElem?_eq_none (by omega)]
      ·by_cases hc:o+1<=p/\p<o+1+us.length/\p<q.length
       ·rw[if_pos (by simpa using hc),if_pos (by simp;omega)];rw[show p-o=(p-(o+1))+1 by omega];simp
       ·rw[if_neg (by simpa using hc),if_neg (by simp;omega),List.getElem?_set_ne hp]
    have:=gen us (i*ts.2+off) vs.toList
    simpa using this
   have adg:i*ts.2+ts.2<=vs.size:=by
    rw[q4]
    calc i*ts.2+ts.2=(i+1)*ts.2:=by rw[Nat.add_mul,Nat.one_mul]
     _<=cap*ts.2:=Nat.mul_le_mul_right _ (by omega)
   show ∃ v,(dG vs.toList (i*ts.2+off) us).toArray[i'*ts.2+j]?=some v/\_;rw[List.getElem?_toArray,fa];by_cases Fe:i'=i
   ·subst Fe;rw[List.getElem?_set_self iZ]at h2;cases h2;rcases hv j x hx with⟨k1,v,k2,k3⟩|⟨k1,k2⟩
    ·have:=a7 k2;rw[if_pos (by omega)];exact⟨v,by rw[show i'*ts.2+j-(i'*ts.2+off)=j-off by omega];exact k2,cj v (List.mem_of_getElem? k2),aT.vd k3⟩
    ·rw[if_neg (by omega)];obtain⟨v,r1,r2,r3⟩:=q7 i' j e x he k2;exact⟨v,r1,r2,aT.vd r3⟩
   ·rw[List.getElem?_set_ne (Ne.symm Fe)]at h2;obtain⟨v,r1,r2,r3⟩:=q7 i' j e2 x h2 hx;rw[if_neg ?_]
    ·exact⟨v,r1,r2,aT.vd r3⟩
    ·rintro⟨k1,k2,-⟩;rcases Nat.lt_or_gt_of_ne Fe with ai|qS
     ·have:(i'+1)*ts.2<=i*ts.2:=Nat.mul_le_mul_right _ ai;rw[Nat.add_mul,Nat.one_mul]at this;omega
     ·have:(i+1)*ts.2<=i'*ts.2:=Nat.mul_le_mul_right _ qS;rw[Nat.add_mul,Nat.one_mul]at this;omega
 ·left;have gp:(c.heap.set b (.arr g ts (l.set i e')))[k]?=some bx:=hk;rw[List.getElem?_set_ne (Ne.symm qR)]at gp;exact⟨gp,rfl,fun x n hn=>ud blk us _ c.w x (fun e=>qR (ho.inj k b blk n cap (by rw[<- e];exact hn) bJ))⟩
theorem S0{β:Type}(us:List β)(o:Nat)(q:List β)(p:Nat):(dG q o us)[p]?=if o<=p/\p<o+us.length/\p<q.length then us[p-o]? else q[p]? := by
 induction us generalizing o q with
 |nil=>rw[if_neg (by simp;omega)];rfl
 |cons u us ih =>
  rw[dG,ih];by_cases hp:o=p
  ·subst hp;rw[if_neg (by omega)];by_cases hq:o<q.length
   ·rw[if_pos (by simp;omega),List.getElem?_set_self hq];simp
   ·rw[if_neg (by omega),List.getElem?_eq_none (by simp;omega),List.getElem?_eq_none (by omega)]
  ·by_cases hc:o+1<=p/\p<o+1+us.length/\p<q.length
   ·rw[if_pos (by simpa using hc),if_pos (by simp;omega)];rw[show p-o=(p-(o+1))+1 by omega];simp
   ·rw[if_neg (by simpa using hc),if_neg (by simp;omega),List.getElem?_set_ne hp]
theorem Kq{e:DV}(h:e.fm=true):e.cells=[e]:=by cases e<;>first|rfl|cases h
def Ff(e:DV)(off:Nat)(ds:List DV)(e':DV):Prop:=e'.cells.length=e.cells.length/\off+ds.length<=e.cells.length /\
 ∀ (j:Nat) (x:DV),e'.cells[j]?=some x->(off<=j/\ds[j-off]?=some x)\/((j<off\/off+ds.length<=j)/\e.cells[j]?=some x)
theorem S1{e:DV}{off:Nat}{ds:List DV}{stop:Prop}{k:DV->Prop}(H:BX e off ds stop k):stop\/∃ e',k e'/\Ff e off ds e':=by
 unfold BX at H;split at H
 ·rename_i cs;split at H
  ·rename_i q;rw[Ew]at H;have hq:=Nat.le_of_ble_eq_true q;refine .inr ⟨.agg (dG cs off ds),H,by simp[DV.cells,wx],hq,fun j x hx=>?_⟩;simp only[DV.cells]at hx;rw[S0]at hx;split at hx
   ·rename_i hc;exact .inl ⟨hc.1,hx⟩
   ·rename_i hc;refine .inr ⟨?_,hx⟩;have hj:=a7 hx;omega
  ·exact .inl H
 ·rename_i ue;split at H
  ·rename_i d;split at H
   ·rename_i hd;have jW:e.cells=[e]:=by cases e<;>first|rfl|exact absurd rfl (ue _)
    refine .inr ⟨d,H,by rw[jW,Kq hd];rfl,by rw[jW];simp,fun j x hx => .inl ⟨Nat.zero_le _,by rw[Kq hd]at hx;simpa using hx⟩⟩
   ·exact .inl H
  ·exact .inl H
theorem S2{e:DV}{off:Nat}{vs:List AV}{stop:Prop}{k:DV->Prop}(H:Fa e off vs stop k):stop\/∃ (ds:List DV) (e':DV),vs=ds.map .d/\k e'/\Ff e off ds e':=by
 unfold Fa at H;rcases tV vs stop (fun ds=>BX e off ds stop k)with⟨ds,h1,h2⟩|h2
 ·rw[h2]at H;rcases S1 H with h|⟨e',h3,h4⟩
  ·exact .inl h
  ·exact .inr ⟨ds,e',h1,h3,h4⟩
 ·rw[h2]at H;exact .inl H
theorem S3(hE:E.OK){t:Nat}{x y:Operand}{ti:bD}(cm:E.T[t]?=some ti){b g i off:Nat}{ts:Nat × Nat}{l:List DV}(hb:h[b]?=some (.arr g ts l))(hx:bh E.G s x (.cO b g i off)){v:AV}(hy:bh E.G s y v){ds:List DV}(hv:EF v (ds.map .d))(bT:ds.length=ti.size)(S4:(ds.map AV.d).all AV.fm=true)
  {e e':DV} (he:l[i]?=some e) (jt:e.cells.length=ts.2) (hp:Ff e off ds e'):aZ E (.store t x y) s h (.d .undef) (h.set b (.arr g ts (l.set i e'))):=fun o c ac h1 h2 h3 h4=>by
 subst h2;obtain⟨blk,cap,q1,q2,q3⟩:=Km hb (hx c ac h3 h4);obtain⟨vs,us0,r1,r2,r3,r4,r5⟩:=h3.elem hb q1 he;obtain⟨us,pA,js⟩:=hv c _ (hy c ac h3 h4);have hlen:us.length=ds.length:=by rw[<- js.1];simp
 obtain⟨p1,p2,p3⟩:=hp;have cj:∀ u∈us,u.oneCell'=true:=fun u hu=>by
  obtain⟨j,hj,rfl⟩:=List.getElem_of_mem hu;have mK:j<(ds.map AV.d).length:=by rw[js.1];exact hj
  exact EE (js.2 j _ us[j] (List.getElem?_eq_getElem mK) (by simp[hj])) (List.all_eq_true.1 S4 _ (List.getElem_mem mK))
 have cW:=JO (P:=E.P) (w:=c.w) (b:=blk) (o:=i*ts.2+off) (hE.types t ti cm) pA (by omega) r1 (by omega) cj
 obtain⟨w1,w2⟩:=h3.SZ (i:=i) (off:=off) (e':=e') (us:=us) hb q1 r1 he (by omega) (by omega) cj (fun j x hx=>by
  rcases p3 j x hx with⟨k1,k2⟩|⟨k1,k2⟩
  ·have ai:=a7 k2;exact .inl ⟨k1,us[j-off]'(by omega),by simp[show j-off<us.length by omega],js.py (j-off) x _ k2 (by simp[show j-off<us.length by omega])⟩
  ·exact .inr ⟨by omega,k2⟩)
 refine⟨_,Go.undef,.inr ⟨?_,rfl⟩,rfl,w1,.d _ _ .undef,w2⟩;simp only[execOp,h1,q2,Sem.run_bind,cW,Result.andThen_ok,Sem.run_pure]
theorem S5(hE:E.OK){o:Op}{stop:Prop}{k:AV->List af->Prop}(H:ma E.T E.G o s h stop k):stop\/∃ v h',k v h'/\aZ E o s h v h':=by
 unfold ma at H;split at H
 ·
  rcases bp H with h|⟨ti,cm,H⟩
  ·exact .inl h
  rcases cL H with h|⟨a,ha,H⟩
  ·exact .inl h
  rcases cL H with h|⟨b,hb,H⟩
  ·exact .inl h
  split at H
  ·split at H
   ·rename_i e hk;rcases bp H with h|⟨ei,cd,H⟩
    ·exact .inl h
    split at H
    ·split at H
     ·rename_i q;obtain⟨y,h0,h1,h2,H⟩:=E' H;exact .inr ⟨_,_,H,SO hE cm cd hk ha hb (ix q) h0 h1 h2⟩
     ·exact .inl H
    ·rcases bp H with h|⟨bx,iu,H⟩
     ·exact .inl h
     split at H
     ·split at H
      ·rename_i q1 q2;have:=Nat.eq_of_beq_eq_true q1;subst this;obtain⟨⟨h0,h1⟩,H⟩:=nF H;exact .inr ⟨_,_,H,SP hE cm cd hk iu (Nat.eq_of_beq_eq_true q2) ha hb h0 h1⟩
      ·exact .inl H
     ·exact .inl H
    ·exact .inl H
   ·rename_i len e hk;rcases bp H with h|⟨ei,cd,H⟩
    ·exact .inl h
    split at H
    ·obtain⟨y,h0,h1,h2,h3,h4,H⟩:=SL H;exact .inr ⟨_,_,H,SQ hE cm cd hk ha hb h0 h1 h2 h3 h4⟩
    ·exact .inl H
   ·exact .inl H
  ·exact .inl H
 ·
  rcases bp H with h|⟨ti,cm,H⟩
  ·exact .inl h
  rcases cL H with h|⟨a,ha,H⟩
  ·exact .inl h
  rcases cL H with h|⟨b,hb,H⟩
  ·exact .inl h
  split at H
  ·split at H
   ·have hk:ti.k=.string:=by assumption
    obtain⟨y,h0,h1,H⟩:=SJ H;exact .inr ⟨_,_,H,SR hE cm hk ha hb h0 h1⟩
   ·exact .inl H
  ·exact .inl H
 ·
  rcases bp H with h|⟨ti,cm,H⟩
  ·exact .inl h
  rcases cL H with h|⟨a,ha,H⟩
  ·exact .inl h
  rcases Kn H with h|⟨l,hl,H⟩
  ·exact .inl h
  rcases Kn H with h|⟨u,hu,H⟩
  ·exact .inl h
  split at H
  ·have hk:ti.k=.string:=by assumption
   obtain⟨⟨h0,h1,h2⟩,H⟩:=nF H;exact .inr ⟨_,_,H,SU hE cm hk ha hl hu h0 h1 h2⟩
  ·rcases bp H with h|⟨ei,cd,H⟩
   ·exact .inl h
   obtain⟨⟨h0,h1,h2,h3⟩,H⟩:=nF H;exact .inr ⟨_,_,H,SX hE cm cd (by assumption) ha hl hu h0 h1 h2 h3⟩
  ·exact .inl H
 ·
  rcases bp H with h|⟨ti,cm,H⟩
  ·exact .inl h
  rcases cL H with h|⟨a,ha,H⟩
  ·exact .inl h
  split at H
  ·rcases bp H with h|⟨bx,iu,H⟩
   ·exact .inl h
   split at H
   ·split at H
    ·rename_i q;have:=Nat.eq_of_beq_eq_true q;subst this;obtain⟨e,h0,h1,h2,H⟩:=E' H;rw[Int.toNat_natCast]at h1;split at H
     ·rw[qE]at H;rcases Ko hE cm iu ha h1 rfl H with h|⟨v,H,hv⟩
      ·exact .inl h
      ·exact .inr ⟨_,_,H,hv⟩
     ·rename_i ue;rcases Ko hE cm iu ha h1 (by cases e<;>first|rfl|exact absurd rfl (ue _)) H with h|⟨v,H,hv⟩
      ·exact .inl h
      ·exact .inr ⟨_,_,H,hv⟩
    ·exact .inl H
   ·exact .inl H
  ·exact .inl H
 ·
  rcases bp H with h|⟨ti,cm,H⟩
  ·exact .inl h
  rcases cL H with h|⟨v,hv,H⟩
  ·exact .inl h
  rcases cL H with h|⟨a,ha,H⟩
  ·exact .inl h
  split at H
  ·rcases bp H with h|⟨bx,iu,H⟩
   ·exact .inl h
   split at H
   ·split at H
    ·rename_i q;have:=Nat.eq_of_beq_eq_true q;subst this;rcases BE H with h|⟨vs,gK,H⟩
     ·exact .inl h
     split at H
     ·rename_i q1 q2;obtain⟨e,h0,h1,h2,H⟩:=E' H;rw[Int.toNat_natCast]at h1;rcases S2 H with h|⟨ds,e',rfl,H,hp⟩
      ·exact .inl h
      rw[gJ]at H;exact .inr ⟨_,_,H,S3 hE cm iu ha hv gK (by have:=Nat.eq_of_beq_eq_true q1;simpa using this) q2 h1 h2 hp⟩
     ·exact .inl H
    ·exact .inl H
   ·exact .inl H
  ·exact .inl H
 ·exact SI hE H
end
end Go.aA
end
section
namespace Go.aA
open Go Go.RowKit
def Fg(op:BinOp)(j:IntKind)(a b:Int):Int :=
 let x:=BitVec.ofInt j.bits a
 let y:=BitVec.ofInt j.bits b
 match op with
 | .and=>j.wrap (x &&& y).toNat
 | .or=>j.wrap (x ||| y).toNat
 | .xor=>j.wrap (x ^^^ y).toNat
 |_=>j.wrap (x &&& ~~~y).toNat
def qT(op:BinOp)(j:IntKind)(a:Int)(n:Nat):Int:=match op with
 | .shl=>j.wrap (a*2 ^ min n j.bits)
 |_=>a.fdiv (2 ^ min n j.bits)
def Kr:BinOp->Bool
 | .and | .or | .xor | .andNot=>true
 |_=>false
def Ks:BinOp->Bool
 | .shl | .shr=>true
 |_=>false
def Kt:BinOp->Bool
 | .quo | .rem=>true
 |_=>false
def Fh(op:BinOp)(j:IntKind)(a b:Int):Int:=match op with
 | .quo=>j.wrap (a.tdiv b)
 |_=>a.tmod b
def y8(d:Nat):List Nat->Bool
 |[]=>false
 |a::l=>match Nat.beq a d with
  |true=>true
  |false=>y8 d l
theorem sD{a b:Nat}(h:Nat.blt a b=true):a<b:=Nat.le_of_ble_eq_true h
theorem BZ{d:Nat}:∀ {l:List Nat},y8 d l=true->d∈l
 |[],h=>by cases h
 |a::l,h=>by
  unfold y8 at h;split at h
  ·rename_i q;rw[Nat.eq_of_beq_eq_true q];exact List.mem_cons_self ..
  ·exact List.mem_cons_of_mem _ (BZ h)
section
variable {E:Env} {s:List AV} {h:List af} {c:Cx} {G:List (Nat × DV)}
theorem S6{op:BinOp}(bX:Kr op=true){t t':TypeId}{x y:Operand}{j:IntKind}{a b:Int}(hx:bh E.G s x (.d (.int j a)))(hy:bh E.G s y (.d (.int j b))):aZ E (.binOp op t x y t') s h (.d (.int j (Fg op j a b))) h :=
 .quiet fun o c ac h1 _ h3 h4=>by
  have e1:=gb (hx c ac h3 h4);have e2:=gb (hy c ac h3 h4);refine⟨.int j (Fg op j a b),qH h1 (by rw[e1,e2];exact wy ..) ?_,.d _ _ (.int _ _)⟩;rw[e1,e2];cases op<;>first|(simp only[binOp,ne_eq,not_true_eq_false,if_false,Op.intBits];rfl)|cases bX
theorem S7{op:BinOp}(bX:Ks op=true){t t':TypeId}{x y:Operand}{j j':IntKind}{a:Int}{b:Int}(hb:0<=b)(hx:bh E.G s x (.d (.int j a)))(hy:bh E.G s y (.d (.int j' b))):aZ E (.binOp op t x y t') s h (.d (.int j (qT op j a b.toNat))) h :=
 .quiet fun o c ac h1 _ h3 h4=>by
  have e1:=gb (hx c ac h3 h4);have e2:=gb (hy c ac h3 h4);refine⟨.int j (qT op j a b.toNat),qH h1 (by rw[e1,e2];exact wy ..) ?_,.d _ _ (.int _ _)⟩;rw[e1,e2];have hn:¬ (b<0):=by omega
  cases op<;>first|(simp only[binOp,Op.shift,hn,if_false];rfl)|cases bX
def pE{α:Sort _}(kd:TK)(a b:DV)(stop:α)(k:Bool->α):α :=
 match kd,a,b with
 | .int _,.int j m,.int j' n=>match IntKind.same j j' with
  |true=>k (m==n)
  |false=>stop
 | .string,.str m,.str n=>k (m==n)
 | .bool,.bool m,.bool n=>k (m==n)
 |_,_,_=>stop
def lA{α:Sort _}(T:List bD):Nat->List (Nat × Nat)->List DV->List DV->(stop:α)->(Bool->α)->α
 |_,[],[],[],_,k=>k true
 |n,f::fs,a::l,b::m,stop,k=>match Nat.beq f.1 n with
  |true=>aY T f.2 stop fun i=>pE i.k a b stop fun p=>lA T (n+1) fs l m stop fun q=>k (p&&q)
  |false=>stop
 |_,_,_,_,stop,_=>stop
theorem S8{kd:TK}{a b:DV}{stop:Prop}{k:Bool->Prop}(H:pE kd a b stop k):stop\/∃ p,k p:=by
 unfold pE at H;split at H
 ·split at H
  ·exact .inr ⟨_,H⟩
  ·exact .inl H
 ·exact .inr ⟨_,H⟩
 ·exact .inr ⟨_,H⟩
 ·exact .inl H
theorem Ku{T:List bD}{stop:Prop}:∀ {n:Nat} {fs:List (Nat × Nat)} {l m:List DV} {k:Bool->Prop},lA T n fs l m stop k->stop\/∃ p,k p
 |_,[],[],[],_,H => .inr ⟨_,H⟩
 |_,[],[],_::_,_,H => .inl H
 |_,[],_::_,_,_,H => .inl H
 |_,_::_,[],_,_,H => .inl H
 |_,_::_,_::_,[],_,H => .inl H
 |n,f::fs,a::l,b::m,k,H=>by
  simp only[lA]at H;split at H
  ·rcases bp H with H|⟨i,-,H⟩
   ·exact .inl H
   rcases S8 H with H|⟨p,H⟩
   ·exact .inl H
   rcases Ku H with H|⟨q,H⟩
   ·exact .inl H
   ·exact .inr ⟨_,H⟩
  ·exact .inl H
theorem Kv{P:Program}{ft:Nat}{i:bD}(ht:eR P ft=some i){a b:DV}{stop:Prop}{k:Bool->Prop}(H:pE i.k a b stop k):stop\/∃ p,k p/\i.k.agg=false /\
  ∀ (bad:Nat->Prop) (w w':World) (u v:Value) (d:Nat),VD bad w a u->VD bad w b v->(Op.equalIn (d+1) ft u v).run P w'=.ok p w':=by
 obtain⟨ti,td,g1,g2,g3,-⟩:=cM ht;unfold pE at H;split at H
 ·rename_i hk;split at H
  ·rename_i hs;obtain rfl:=su hs;refine .inr ⟨_,H,by rw[hk];rfl,fun bad w w' u v d hu hv=>?_⟩;cases hu;cases hv;obtain rfl:=wz (hk.symm.trans g3);exact run_equalIn_int w' d ft _ _ _ _ g2
  ·exact .inl H
 ·rename_i hk;refine .inr ⟨_,H,by rw[hk];rfl,fun bad w w' u v d hu hv=>?_⟩;cases hu;cases hv;obtain rfl:=sx (hk.symm.trans g3);rw[run_equalIn_string w' d ft _ _ g2];simp
 ·rename_i hk;refine .inr ⟨_,H,by rw[hk];rfl,fun bad w w' u v d hu hv=>?_⟩;cases hu;cases hv;have:td=.bool:=by rw[hk]at g3;cases td<;>first|rfl|cases g3
  subst this;exact run_equalIn_bool' w' _ ft _ _ g2
 ·exact .inl H
theorem Fi {P : Program} {T : List bD} (hT : ∀ (t : Nat) (i : bD), T[t]? = some i -> eR P t = some i) {stop : Prop} : ∀ {n : Nat} {fl : List Field} {l m : List DV} {k : Bool -> Prop}, lA T n (fl.map fun f => (f.offset, f.type)) l m stop k -> (∀ f ∈ fl, f.name ≠ "_") -> stop \/ ∃ p, k p /\
  ∀ (bad:Nat->Prop) (w w':World) (xs ys:List Value) (d:Nat),(∀ (j:Nat) (x:DV),l[j]?=some x->∃ u,xs[n+j]?=some u/\VD bad w x u)->(∀ (j:Nat) (x:DV),m[j]?=some x->∃ u,ys[n+j]?=some u/\VD bad w x u)->(Op.eqFields (d+1) xs.toArray ys.toArray fl).run P w'=.ok p w':=by
 intro n fl
 induction fl generalizing n with
 |nil =>
  intro l m k H _;cases l with
  |nil=>cases m with
   |nil=>exact .inr ⟨true,H,fun bad w w' xs ys d _ _=>by simp only[Op.eqFields,Sem.run_pure]⟩
   |cons b m=>exact .inl H
  |cons a l=>exact .inl H
 |cons f fl ih =>
  intro l m k H hn;cases l with
  |nil=>exact .inl H
  |cons a l=>cases m with
   |nil=>exact .inl H
   |cons b m =>
    simp only[List.map_cons,lA]at H;split at H
    ·rename_i q;have q:=Nat.eq_of_beq_eq_true q;rcases bp H with H|⟨i,hi,H⟩
     ·exact .inl H
     rcases Kv (hT _ i hi) H with H|⟨p,H,fp,hp⟩
     ·exact .inl H
     rcases ih H (fun g hg=>hn g (List.mem_cons_of_mem _ hg))with H|⟨p',H,ss⟩
     ·exact .inl H
     refine .inr ⟨p&&p',H,fun bad w w' xs ys d hx hy=>?_⟩;obtain⟨u,u1,u2⟩:=hx 0 a rfl;obtain⟨v,v1,v2⟩:=hy 0 b rfl;rw[Nat.add_zero]at u1 v1;have B0:=hn f (List.mem_cons_self ..);simp only[Op.eqFields,ne_eq,B0,not_false_eq_true,if_true,Sem.run_bind];rw[q,wB (hT _ i hi) w' xs n u u1 fp,Result.andThen_ok,wB (hT _ i hi) w' ys n v v1 fp,Result.andThen_ok,hp bad w w' u v d u2 v2,Result.andThen_ok];cases p with
     |false=>simp
     |true =>
      simp only[Bool.not_true,Bool.false_eq_true,if_false,Bool.true_and];exact ss bad w w' xs ys d (fun j x hj=>by rw[show n+1+j=n+(j+1) by omega];exact hx (j+1) x (by simpa using hj)) (fun j x hj=>by rw[show n+1+j=n+(j+1) by omega];exact hy (j+1) x (by simpa using hj))
    ·exact .inl H
theorem Kw(hE:E.OK){op:BinOp}{t:Nat}{t':TypeId}{x y:Operand}{i:bD}(hi:E.T[t]?=some i)(hQ:t∈E.Q){fs:List (Nat × Nat)}(hk:i.k=.struct fs){l m:List DV}(hx:bh E.G s x (.d (.agg l)))(hy:bh E.G s y (.d (.agg m))){stop:Prop}{k:Bool->Prop}(H:lA E.T 0 fs l m stop k) :
  stop\/∃ p,k p/\(op=.eql->∀ h,aZ E (.binOp op t x y t') s h (.d (.bool p)) h)/\(op=.neq->∀ h,aZ E (.binOp op t x y t') s h (.d (.bool !p)) h):=by
 obtain⟨ti,d,g1,g2,g3,-⟩:=cM (hE.types t i hi);obtain⟨fl,rfl,rfl⟩:=ou (hk.symm.trans g3);have hq:=hE.eqs t hQ;simp only[pt,g2,Bool.and_eq_true,Bool.not_eq_true',List.all_eq_true,bne_iff_ne,ne_eq]at hq;obtain⟨⟨q1,q2⟩,q3⟩:=hq;rcases Fi hE.types H q3 with h|⟨p,H,hp⟩
 ·exact .inl h
 have gR:E.P.fieldsOf t=fl:=by simp[Program.fieldsOf,g2]
 have val:∀ (c:Cx) (ac:Act),aE E.G c->VS c s ac.tmps->∃ xs ys:List Value,ac.eval x=.agg xs.toArray/\ac.eval y=.agg ys.toArray/\(Op.equalIn 10000 t (.agg xs.toArray) (.agg ys.toArray)).run E.P c.w=.ok p c.w:=by
  intro c ac h3 h4;have eS:=hx c ac h3 h4;have gq:=hy c ac h3 h4;generalize ac.eval x=u at eS;generalize ac.eval y=v at gq;cases eS with
  |d _ _ eS=>cases eS with
   |agg _ xs x1 x2=>cases gq with
    |d _ _ gq=>cases gq with
     |agg _ ys y1 y2 =>
      refine⟨xs.toList,ys.toList,by simp,by simp,?_⟩;rw[run_equalIn_struct c.w 9999 t _ _ (by rw[gR];exact g2) q1,gR];refine hp c.bad c.w c.w xs.toList ys.toList 9998 (fun j z hz=>?_) (fun j z hz=>?_)
      ·have hj:=a7 hz;rw[x1]at hj;exact⟨xs[j],by simp[hj],x2 j z _ hz (by simp[hj])⟩
      ·have hj:=a7 hz;rw[y1]at hj;exact⟨ys[j],by simp[hj],y2 j z _ hz (by simp[hj])⟩
 have guard:∀ (op:BinOp) (xs ys:Array Value) (w:World),(eqGuard op t x y (.agg xs) (.agg ys)).run E.P w=.ok () w:=fun op xs ys w=>run_eqGuard_agg w op t x y xs ys q2;refine .inr ⟨p,H,fun e h=>?_,fun e h=>?_⟩
 ·subst e;refine .quiet fun o c ac h1 _ h3 h4=>⟨.bool p,?_,.d _ _ (.bool _)⟩;obtain⟨xs,ys,e1,e2,e3⟩:=val c ac h3 h4;simp only[execOp,h1,e1,e2,Sem.run_bind,guard,Result.andThen_ok,run_eql_struct,e3,Sem.run_pure]
 ·subst e;refine .quiet fun o c ac h1 _ h3 h4=>⟨.bool !p,?_,.d _ _ (.bool _)⟩;obtain⟨xs,ys,e1,e2,e3⟩:=val c ac h3 h4;simp only[execOp,h1,e1,e2,Sem.run_bind,guard,Result.andThen_ok,run_neq_struct,e3,Sem.run_pure]
theorem S9(hE:E.OK){t0 t e:Nat}{x:Operand}{i0 i ei:bD}(fQ:E.T[t0]?=some i0)(hi:E.T[t]?=some i)(cd:E.T[e]?=some ei)(hk:i.k=.slice e)(Fj:ei.k=.int .u8){l:List UInt8}(hx:bh E.G s x (.d (.str l))) :
  aZ E (.convert t0 t x) s h (.d (.sl (l.map nG))) h:=fun o c ac h1 h2 h3 h4=>by
 obtain⟨yG,d0,k1,k2,-⟩:=cM (hE.types t0 i0 fQ);obtain⟨ti,d,g1,g2,g3,-⟩:=cM (hE.types t i hi);obtain rfl:=lZ (hk.symm.trans g3);obtain⟨tie,de,q1,q2,q3,-⟩:=cM (hE.types e ei cd);obtain rfl:=wz (Fj.symm.trans q3);have ex:=px (hx c ac h3 h4);have cW:=Lib.run_convert_string_bytes (P:=E.P) c.w t0 t e ⟨l.toArray⟩ k2 g2 q2;have S':Proofs.YtcmnpelmmekdkaaGreatDoor.Ext c.w (Lib.bytesWorld c.w e ⟨l.toArray⟩):=⟨rfl,rfl,rfl,by rw[Lib.bytesWorld_size];omega,fun b hb=>Lib.bytesWorld_at_old c.w e _ b hb⟩;obtain⟨r1,r2⟩:=h3.grow S';refine⟨c.dI (Lib.bytesWorld c.w e ⟨l.toArray⟩),_,.inl (by simp only[execOp,h1,ex,Sem.run_bind,cW,Result.andThen_ok,Sem.run_pure];rfl),h2,r1,.d _ _ ?_,r2⟩;have bT:(ByteArray.mk l.toArray).size=(l.map nG).length:=by simp[ByteArray.size]
 rw[bT];have dQ:∀ (j:Nat) (b:UInt8),l[j]?=some b->(Lib.bytesWorld c.w e ⟨l.toArray⟩).cell? ⟨c.w.heap.size,0+(j*1+0),none⟩=some (.int .u8 b.toNat):=fun j b hb=>by
  have hj:=a7 hb;rw[show 0+(j*1+0)=j by omega,Lib.bytesWorld_cell c.w e _ j (by simp[ByteArray.size];exact hj)];simp[List.getD,hb]
 have key:∀ (i j:Nat) (a y:DV),(l.map nG)[i]?=some a->a.cells[j]?=some y->∃ b,l[i]?=some b/\j=0/\y=.int .u8 b.toNat:=fun i j a y ha hy=>by
  rw[List.getElem?_map]at ha;cases hb:l[i]? with
  |none=>rw[hb]at ha;cases ha
  |some b =>
   rw[hb]at ha;cases ha;simp only[nG,DV.cells]at hy;cases j with
   |zero=>simp at hy;exact⟨b,rfl,rfl,hy.symm⟩
   |succ j=>simp at hy
 refine .sl _ c.w.heap.size 0 _ 1 (fun i _ => .int .u8 (l.getD i 0).toNat) (fun _ hb=>?_) (by omega) ?_ (fun i a ha=>?_) (fun i j a y ha hy=>?_) (fun i j a y ha hy=>?_) (fun i j a y ha hy=>rfl)
 ·rcases hb with hb|⟨i,n,hi⟩
  ·have:=h3.bE _ hb;omega
  ·have:=(h3.bI i _ n hi).1;omega
 ·rw[List.length_map];have:=grownCap_ge c.w l.length 0 e
  simpa [ByteArray.size]using this
 ·rw[List.getElem?_map]at ha;cases hb:l[i]? with
  |none=>rw[hb]at ha;cases ha
  |some b=>rw[hb]at ha;cases ha;rfl
 ·obtain⟨b,hb,rfl,rfl⟩:=key i j a y ha hy;refine(dQ i b hb).trans ?_;simp[List.getD,hb]
 ·obtain⟨b,hb,rfl,rfl⟩:=key i j a y ha hy;simp only[List.getD,hb,Option.getD_some];exact .int _ _
theorem Ta{op:BinOp}(bX:Kt op=true){t t':TypeId}{x y:Operand}{j:IntKind}{a b:Int}(hb:b≠0)(hx:bh E.G s x (.d (.int j a)))(hy:bh E.G s y (.d (.int j b))):aZ E (.binOp op t x y t') s h (.d (.int j (Fh op j a b))) h :=
 .quiet fun o c ac h1 _ h3 h4=>by
  have e1:=gb (hx c ac h3 h4);have e2:=gb (hy c ac h3 h4);refine⟨.int j (Fh op j a b),qH h1 (by rw[e1,e2];exact wy ..) ?_,.d _ _ (.int _ _)⟩;rw[e1,e2];cases op<;>first|(simp only[binOp,ne_eq,not_true_eq_false,if_false,Op.intDiv,hb];rfl)|cases bX
theorem Tb{t t':TypeId}{x y:Operand}{a b:List UInt8}(hl:a.length+b.length<=9223372036854775807)(hx:bh E.G s x (.d (.str a)))(hy:bh E.G s y (.d (.str b))):aZ E (.binOp .add t x y t') s h (.d (.str (a++b))) h :=
 .quiet fun o c ac h1 _ h3 h4=>by
  have e1:=px (hx c ac h3 h4);have e2:=px (hy c ac h3 h4);have e:(⟨a.toArray⟩:ByteArray)++⟨b.toArray⟩=⟨(a++b).toArray⟩:=by
   apply ByteArray.ext;simp
  refine⟨.string ⟨(a++b).toArray⟩,qH h1 (by rw[e1,e2];rfl) ?_,.d _ _ (.str _)⟩;rw[e1,e2];have hn:¬ (((ByteArray.mk a.toArray).size+(ByteArray.mk b.toArray).size:Nat):Int)>IntKind.i64.max:=by
   simp[ByteArray.size,IntKind.max,IntKind.bits,IntKind.signed];omega
  simp only[binOp,Op.stringOp,hn,if_false,e];rfl
def kG(E:Env)(o:Op)(s:List AV)(stop:Prop)(k:AV->Prop):Prop :=
 match o with
 | .binOp op t x y _=>aY E.T t stop fun i=>cK E.G s x stop fun a=>cK E.G s y stop fun b =>
  match a,b with
  | .d (.int j m),.d (.int j' n)=>match Kr op with
   |true=>match IntKind.same j j' with
    |true=>k (.d (.int j (Fg op j m n)))
    |false=>stop
   |false=>stop
  | .d (.agg l),.d (.agg m)=>match i.k,y8 t E.Q with
   | .struct fs,true=>lA E.T 0 fs l m stop fun p=>match op with
    | .eql=>k (.d (.bool p))
    | .neq=>k (.d (.bool !p))
    |_=>stop
   |_,_=>stop
  |_,_=>stop
 | .convert t0 t x=>aY E.T t0 stop fun _=>aY E.T t stop fun i=>cK E.G s x stop fun v=>match i.k,v with
  | .slice e,.d (.str l)=>aY E.T e stop fun ei=>match ei.k with
   | .int .u8=>k (.d (.sl (l.map nG)))
   |_=>stop
  |_,_=>stop
 |_=>stop
theorem Fk(hE:E.OK){o:Op}{stop:Prop}{k:AV->Prop}(H:kG E o s stop k):stop\/∃ v,k v/\∀ h,aZ E o s h v h:=by
 unfold kG at H;split at H
 ·rename_i op t x y t';rcases bp H with h|⟨i,hi,H⟩
  ·exact .inl h
  rcases cL H with h|⟨a,ha,H⟩
  ·exact .inl h
  rcases cL H with h|⟨b,hb,H⟩
  ·exact .inl h
  split at H
  ·split at H
   ·rename_i q;split at H
    ·rename_i p;obtain rfl:=su p;exact .inr ⟨_,H,fun h=>S6 q ha hb⟩
    ·exact .inl H
   ·exact .inl H
  ·split at H
   ·rename_i fs hk hq;by_cases he:op=.eql
    ·subst he;rcases Kw (op := .eql) (t':=t') (s:=s) hE hi (BZ hq) hk ha hb H with h|⟨p,H,h1,-⟩
     ·exact .inl h
     ·exact .inr ⟨_,H,fun h=>h1 rfl h⟩
    ·by_cases wM:op=.neq
     ·subst wM;rcases Kw (op := .neq) (t':=t') (s:=s) hE hi (BZ hq) hk ha hb H with h|⟨p,H,-,h1⟩
      ·exact .inl h
      ·exact .inr ⟨_,H,fun h=>h1 rfl h⟩
     ·refine .inl ?_;rcases Ku H with h|⟨p,h⟩
      ·exact h
      ·split at h
       ·exact absurd rfl he
       ·exact absurd rfl wM
       ·exact h
   ·exact .inl H
  ·exact .inl H
 ·rename_i t0 t x;rcases bp H with h|⟨i0,fQ,H⟩
  ·exact .inl h
  rcases bp H with h|⟨i,hi,H⟩
  ·exact .inl h
  rcases cL H with h|⟨v,hv,H⟩
  ·exact .inl h
  split at H
  ·rename_i e l hk;rcases bp H with h|⟨ei,cd,H⟩
   ·exact .inl h
   split at H
   ·rename_i Fj;exact .inr ⟨_,H,fun h=>S9 hE fQ hi cd hk Fj hv⟩
   ·exact .inl H
  ·exact .inl H
 ·exact .inl H
def sE(E:Env)(o:Op)(s:List AV)(stop:Prop)(k:AV->Prop):Prop :=
 match o with
 | .binOp op _ x y _=>cK E.G s x stop fun a=>cK E.G s y stop fun b =>
  match a,b with
  | .d (.int j m),.d (.int j' n)=>match Ks op with
   |true=>need (0<=n) (k (.d (.int j (qT op j m n.toNat))))
   |false=>match Kt op,IntKind.same j j' with
    |true,true=>need (n≠0) (k (.d (.int j (Fh op j m n))))
    |_,_=>stop
  | .d (.str l),.d (.str m)=>match op with
   | .add=>need (l.length+m.length<=9223372036854775807) (k (.d (.str (l++m))))
   |_=>stop
  |_,_=>stop
 |_=>stop
theorem Tc{o:Op}{stop:Prop}{k:AV->Prop}(H:sE E o s stop k):stop\/∃ v,k v/\∀ h,aZ E o s h v h:=by
 unfold sE at H;split at H
 ·rename_i op t x y t';rcases cL H with h|⟨a,ha,H⟩
  ·exact .inl h
  rcases cL H with h|⟨b,hb,H⟩
  ·exact .inl h
  split at H
  ·split at H
   ·rename_i q;obtain⟨h0,H⟩:=nF H;exact .inr ⟨_,H,fun h=>S7 q h0 ha hb⟩
   ·split at H
    ·rename_i q p;obtain rfl:=su p;obtain⟨h0,H⟩:=nF H;exact .inr ⟨_,H,fun h=>Ta q h0 ha hb⟩
    ·exact .inl H
  ·split at H
   ·obtain⟨h0,H⟩:=nF H;exact .inr ⟨_,H,fun h=>Tb h0 ha hb⟩
   ·exact .inl H
  ·exact .inl H
 ·exact .inl H
theorem Td(hE:E.OK){t e len:Nat}{x i:Operand}{ti ei:bD}(cm:E.T[t]?=some ti)(cd:E.T[e]?=some ei)(hk:ti.k=.array len e){b off:Nat}{cs:List AV}(hb:h[b]?=some (.cells cs)){j:IntKind}{m:Nat}(hx:bh E.G s x (.ptr b off))(hi:bh E.G s i (.d (.int j (.ofNat m))))(h1:m<len) :
  aZ E (.indexAddr t x i) s h (.ptr b (off+m*ei.size)) h := .quiet fun o c ac e1 e2 h3 h4=>by
 subst e2;obtain⟨nL,d,g1,g2,g3,-⟩:=cM (hE.types t ti cm);obtain rfl:=yF (hk.symm.trans g3);have key:∀ p,VR c (.ptr b off) p->∃ blk,p=.pointer (some ⟨blk,off,none⟩)/\VR c (.ptr b (off+m*ei.size)) (.pointer (some ⟨blk,off+m*ei.size,none⟩)):=fun p hp=>by
  cases hp with
  |ptr _ _ cs' blk cap k1 k2=>exact⟨blk,rfl,.ptr _ _ cs' blk cap k1 k2⟩
  |jq _ _ _ k1 _=>rw[hb]at k1;cases k1
 obtain⟨blk,q1,q2⟩:=key _ (hx c ac h3 h4);refine⟨_,wL e1 ?_,q2⟩;rw[q1,gb (hi c ac h3 h4)];have h0:(0:Int)<=Int.ofNat m:=Int.natCast_nonneg m;have gr:Int.ofNat m<(len:Int):=by simpa using h1
 simp only[Instr.indexAt,asIntOf,Sem.run_bind,Sem.run_pure,Result.andThen_ok,run_underlying g2,Instr.sureAddr,h0,gr,and_self,if_true,run_sizeOf (hE.types e ei cd),lj];rfl
theorem Te(hE:E.OK){t e len:Nat}{x:Operand}{ti ei:bD}(cm:E.T[t]?=some ti)(cd:E.T[e]?=some ei)(hk:ti.k=.array len e)(cD:0<len){b:Nat}{ds:List DV}(hb:h[b]?=some (.cells (ds.map .d)))(hlen:ds.length=len)(mM:ds.all DV.fm=true)(hx:bh E.G s x (.ptr b 0)) :
  aZ E (.slice t x none none none) s h (.d (.sl ds)) (h.set b .gone):=fun o c ac h1 h2 h3 h4=>by
 subst h2;obtain⟨nL,d,g1,g2,g3,-⟩:=cM (hE.types t ti cm);obtain rfl:=yF (hk.symm.trans g3);have eD:=a7 hb;have key:∀ p,VR c (.ptr b 0) p->∃ blk cap,p=.pointer (some ⟨blk,0,none⟩)/\c.own b=some (blk,cap):=fun p hp=>by
  cases hp with
  |ptr _ _ cs' blk cap k1 k2=>exact⟨blk,cap,rfl,k2⟩
  |jq _ _ _ k1 _=>rw[hb]at k1;cases k1
 obtain⟨blk,cap,q1,q2⟩:=key _ (hx c ac h3 h4);obtain⟨lk,jS,vs,ty,p1,p2,p3⟩:=h3.cells hb;rw[q2]at p1;cases p1
 let c':Cx:={ c with own:=fun i=>if i=b then none else c.own i,heap:=c.heap.set b .gone }
 have fK:c'.heap[b]?=some .gone:=by show(c.heap.set b .gone)[b]?=_;rw[List.getElem?_set_self eD]
 have oD:∀ i,i≠b->c'.heap[i]?=c.heap[i]? := fun i hi=>by show(c.heap.set b .gone)[i]?=_;rw[List.getElem?_set_ne (Ne.symm hi)]
 have bJ:∀ i,i≠b->c'.own i=c.own i:=fun i hi=>by simp only[c',if_neg hi]
 have jw:∀ i p,c'.own i=some p->i≠b/\c.own i=some p:=fun i p hp=>by
  simp only[c']at hp;split at hp
  ·cases hp
  ·rename_i q;exact⟨q,hp⟩
 have aT:Step c c':=⟨rfl,h3.bE,rfl,rfl,rfl,Nat.le_refl _,fun _ _ _=>rfl,fun i x n hi _=>⟨n,(jw i _ hi).2⟩,fun i bx hi=>by
  by_cases bR:i=b
  ·subst bR;cases bx with
   |cells cs=>exact .inr fK
   |arr g sz l=>exact .inr fK
   |map es=>exact .inr fK
   |gone=>exact fK
  ·rw[<- oD i bR]at hi;cases bx with
   |cells cs=>exact .inl ⟨cs,hi,bJ i bR,rfl⟩
   |arr g sz l=>exact .inl ⟨g,l,hi,.inr ⟨rfl,rfl,bJ i bR⟩⟩
   |map es=>exact .inl ⟨es,hi,bJ i bR⟩
   |gone=>exact hi⟩
 have aO:aE E.G c':=by
  refine h3.next aT (fun i x n hi=>?_) (fun i j x n m hi hj=>h3.inj i j x n m (jw i _ hi).2 (jw j _ hj).2) (fun i bx hi=>?_)
  ·have:=h3.bI i x n (jw i _ hi).2;refine⟨this.1,?_⟩;show i<(c.heap.set b .gone).length;rw[List.length_set];exact this.2
  ·by_cases bR:i=b
   ·subst bR;rw[fK]at hi;cases hi;right;show c'.own i=none;simp[c']
   ·rw[oD i bR]at hi;exact .inl ⟨hi,bJ i bR,fun _ _ _=>rfl⟩
 have bQ:∀ (j:Nat) (y:DV),ds[j]?=some y->∃ v,vs[j]?=some v/\v.oneCell'=true/\VD c.bad c.w y v:=fun j y hy=>by
  have hj:=a7 hy;have hl:=p3.1;simp at hl;have hv:vs.toList[j]?=some vs[j]:=by simp
  have:=p3.2 j (.d y) _ (by simp[hy]) hv;cases this with
  |d _ _ hd=>exact⟨_,by simp,yC hd (List.all_eq_true.1 mM y (List.mem_of_getElem? hy)),hd⟩
 refine⟨c',.slice (some ⟨blk,0,none⟩) ds.length ds.length,.inl ?_,rfl,aO,.d _ _ ?_,aT⟩
 ·have iy:(Instr.sliceBounds false len len none none none).run E.P c.w=.ok (0,len,len) c.w:=rfl;have aM:¬ (len=0):=by omega
  simp only[execOp,h1,q1,Instr.sliceAt,Sem.run_bind,Sem.run_pure,Result.andThen_ok,run_underlying g2,Instr.sureAddr,Option.map_none,iy,run_sizeOf (hE.types e ei cd),aM,if_false,Nat.zero_mul,lj,Nat.sub_zero,hlen];rfl
 ·have one:∀ (i j:Nat) (y z:DV),ds[i]?=some y->y.cells[j]?=some z->j=0/\z=y:=fun i j y z hy hz=>by
   have:=List.all_eq_true.1 mM y (List.mem_of_getElem? hy);have hc:y.cells=[y]:=by cases y<;>first|rfl|cases this
   rw[hc]at hz;cases j with
   |zero=>simp at hz;exact⟨rfl,hz.symm⟩
   |succ j=>simp at hz
  refine .sl ds blk 0 ds.length 1 (fun i j=>(vs[i]?).getD undef) (fun _ gZ=>?_) (by omega) (Nat.le_refl _) (fun i y hy=>?_) (fun i j y z hy hz=>?_) (fun i j y z hy hz=>?_) (fun i j y z hy hz=>?_)
  ·rcases gZ with gZ|⟨i,n,hi⟩
   ·exact h3.sep b blk cap q2 gZ
   ·obtain⟨k1,k2⟩:=jw i _ hi;exact k1 (h3.inj i b blk n cap k2 q2)
  ·have:=List.all_eq_true.1 mM y (List.mem_of_getElem? hy);cases y<;>first|rfl|cases this
  ·obtain⟨rfl,rfl⟩:=one i j y z hy hz;obtain⟨v,r1,r2,r3⟩:=bQ i z hy;rw[r1,Option.getD_some];have:=mJ p2 i v (by simpa using r1)
   simpa using this
  ·obtain⟨rfl,rfl⟩:=one i j y z hy hz;obtain⟨v,r1,r2,r3⟩:=bQ i z hy;simp only[r1,Option.getD_some];exact aT.vd r3
  ·obtain⟨rfl,rfl⟩:=one i j y z hy hz;obtain⟨v,r1,r2,r3⟩:=bQ i z hy;simp only[r1,Option.getD_some];exact r2
theorem Tf(hE:E.OK){t e:Nat}{ti ei:bD}(cm:E.T[t]?=some ti)(cd:E.T[e]?=some ei)(hk:ti.k=.slice e)(cD:0<ei.size){parts:Array (Nat × Operand)}(hp:parts.toList=[]) :
  aZ E (.buildSlice t 0 parts) s h (.own h.length 0) (h++[.arr 0 (e,ei.size) []]):=fun o c ac h1 h2 h3 h4=>by
 subst h2;obtain⟨nL,d,g1,g2,g3,-⟩:=cM (hE.types t ti cm);obtain rfl:=lZ (hk.symm.trans g3);obtain⟨k1,k2⟩:=h3.add (.arr 0 (e,ei.size) []) 0 (.cells #[] e);have bJ:(c.add (.arr 0 (e,ei.size) []) 0 (.cells #[] e)).own c.heap.length=some (c.w.heap.size,0):=by simp[Cx.add]
 have kE:(c.add (.arr 0 (e,ei.size) []) 0 (.cells #[] e)).heap[c.heap.length]?=some (.arr 0 (e,ei.size) []):=by simp[Cx.add]
 refine⟨_,.slice (some ⟨c.w.heap.size,0,none⟩) 0 0,.inl ?_,rfl,k2 ⟨cD,fun i e he=>by simp at he,.inr ⟨c.w.heap.size,0,#[],bJ,heap_alloc_new _ _,by simp,by simp,by simp,fun i j e x he=>by simp at he⟩⟩,.own c.heap.length 0 (e,ei.size) [] c.w.heap.size 0 kE bJ,k1⟩;have ss:parts = #[]:=by apply Array.ext';simpa using hp
 subst ss;have hn:¬ ((0:Nat)>2 ^ 24):=by decide
 simp only[execOp,h1,Instr.buildSlice,Sem.run_bind,Sem.run_pure,Result.andThen_ok,run_underlying g2,run_sizeOf (hE.types e ei cd),Nat.zero_mul,Array.map_empty,hn,if_false,if_true];simp[Instr.fill,newRow,show Array.range 0 = #[]from rfl];rfl
def y9(E:Env)(o:Op)(s:List AV)(h:List af)(stop:Prop)(k:AV->List af->Prop):Prop :=
 match o with
 | .indexAddr t x i=>aY E.T t stop fun ti=>match ti.k with
  | .array len e=>aY E.T e stop fun ei=>cK E.G s x stop fun
   | .ptr b off=>aY h b stop fun
    | .cells _=>cK E.G s i stop fun
     | .d (.int _ n)=>match n with
      | .ofNat m=>match Nat.blt m len with
       |true=>k (.ptr b (off+m*ei.size)) h
       |false=>stop
      |_=>stop
     |_=>stop
    |_=>stop
   |_=>stop
  |_=>stop
 | .slice t x none none none=>aY E.T t stop fun ti=>match ti.k with
  | .array len e=>aY E.T e stop fun _=>match Nat.blt 0 len with
   |true=>cK E.G s x stop fun
    | .ptr b 0=>aY h b stop fun
     | .cells cs=>mI cs stop fun ds=>match Nat.beq ds.length len,ds.all DV.fm with
      |true,true=>fI h b .gone fun h'=>k (.d (.sl ds)) h'
      |_,_=>stop
     |_=>stop
    |_=>stop
   |_=>stop
  |_=>stop
 | .buildSlice t len parts=>match len with
  |0=>aY E.T t stop fun ti=>match ti.k with
   | .slice e=>aY E.T e stop fun ei=>match Nat.blt 0 ei.size,parts.toList with
    |true,[]=>lY h (.arr 0 (e,ei.size) []) 0 fun h' n=>k (.own n 0) h'
    |_,_=>stop
   |_=>stop
  |_=>stop
 |_=>stop
theorem Tg(hE:E.OK){o:Op}{stop:Prop}{k:AV->List af->Prop}(H:y9 E o s h stop k):stop\/∃ v h',k v h'/\aZ E o s h v h':=by
 unfold y9 at H;split at H
 ·rename_i t x i;rcases bp H with h|⟨ti,cm,H⟩
  ·exact .inl h
  split at H
  ·rename_i len e hk;rcases bp H with h|⟨ei,cd,H⟩
   ·exact .inl h
   rcases cL H with h|⟨a,ha,H⟩
   ·exact .inl h
   split at H
   ·rename_i b off;rcases bp H with h|⟨bx,hb,H⟩
    ·exact .inl h
    split at H
    ·rcases cL H with h|⟨n,hn,H⟩
     ·exact .inl h
     split at H
     ·split at H
      ·split at H
       ·rename_i q;exact .inr ⟨_,_,H,Td hE cm cd hk hb ha hn (sD q)⟩
       ·exact .inl H
      ·exact .inl H
     ·exact .inl H
    ·exact .inl H
   ·exact .inl H
  ·exact .inl H
 ·rename_i t x;rcases bp H with h|⟨ti,cm,H⟩
  ·exact .inl h
  split at H
  ·rename_i len e hk;rcases bp H with h|⟨ei,cd,H⟩
   ·exact .inl h
   split at H
   ·rename_i q2;rcases cL H with h|⟨a,ha,H⟩
    ·exact .inl h
    split at H
    ·rename_i b;rcases bp H with h|⟨bx,hb,H⟩
     ·exact .inl h
     split at H
     ·rename_i cs
      rcases tV cs stop (fun ds=>match Nat.beq ds.length len,ds.all DV.fm with
       |true,true=>fI h b .gone fun h'=>k (.d (.sl ds)) h'
       |_,_=>stop)with⟨ds,e1,e2⟩|e2
      ·rw[e2]at H;split at H
       ·rename_i p1 p2;rw[gJ]at H;subst e1;exact .inr ⟨_,_,H,Te hE cm cd hk (sD q2) hb (Nat.eq_of_beq_eq_true p1) p2 ha⟩
       ·exact .inl H
      ·rw[e2]at H;exact .inl H
     ·exact .inl H
    ·exact .inl H
   ·exact .inl H
  ·exact .inl H
 ·rename_i t len parts;split at H
  ·rcases bp H with h|⟨ti,cm,H⟩
   ·exact .inl h
   split at H
   ·rename_i e hk;rcases bp H with h|⟨ei,cd,H⟩
    ·exact .inl h
    split at H
    ·rename_i q1 q2;rw[nB,Nat.zero_add]at H;exact .inr ⟨_,_,H,Tf hE cm cd hk (sD q1) q2⟩
    ·exact .inl H
   ·exact .inl H
  ·exact .inl H
 ·exact .inl H
def oE(E:Env)(o:Op)(s:List AV)(h:List af)(stop:Prop)(k:AV->List af->Prop):Prop:=kG E o s (y9 E o s h stop k) fun v=>k v h
theorem zb(hE:E.OK){o:Op}{stop:Prop}{k:AV->List af->Prop}(H:oE E o s h stop k):stop\/∃ v h',k v h'/\aZ E o s h v h':=by
 rcases Fk hE H with H|⟨v,H,ho⟩
 ·exact Tg hE H
 ·exact .inr ⟨v,h,H,ho h⟩
end
end Go.aA
end
section
namespace Go.aA
open Go Go.RowKit
def qU:DV->DV->Bool
 | .int j m,.int k n=>IntKind.same j k&&(m==n)
 | .str a,.str b=>a==b
 | .bool a,.bool b=>a==b
 |_,_=>false
def uC:List DV->List DV->Bool
 |[],[]=>true
 |a::l,b::m=>qU a b&&uC l m
 |_,_=>false
def fc:DV->DV->Bool
 | .agg l,.agg m=>uC l m
 |a,b=>qU a b
def je(k:DV):List (DV × DV)->Option Nat
 |[]=>none
 |p::l=>if fc k p.1 then some 0 else(je k l).map (· + 1)
def findD(k:DV):List (DV × DV)->Option DV
 |[]=>none
 |p::l=>if fc k p.1 then some p.2 else findD k l
def cx(k v:DV):List (DV × DV)->List (DV × DV)
 |[]=>[(k,v)]
 |p::l=>if fc k p.1 then(k,v)::l else p::cx k v l
def nM:TK->DV->Prop
 | .int j,x=>∃ n,x=.int j n
 | .string,x=>∃ s,x=.str s
 | .bool,x=>∃ b,x=.bool b
 |_,_=>False
def uD(T:List bD):Nat->List (Nat × Nat)->List DV->Prop
 |_,[],[]=>True
 |n,f::fs,a::l=>f.1=n/\(∃ i,T[f.2]?=some i/\nM i.k a)/\uD T (n+1) fs l
 |_,_,_=>False
def eh(T:List bD)(k:TK)(x:DV):Prop:=match k with
 | .struct fs=>∃ l,x=.agg l/\uD T 0 fs l
 |k=>nM k x
def gT:DV->Value
 | .int j n => .int j n
 | .str s => .string ⟨s.toArray⟩
 | .bool b => .bool b
 | .agg l => .agg (l.map fun
  | .int j n => .int j n
  | .str s => .string ⟨s.toArray⟩
  | .bool b => .bool b
  |_=>undef).toArray
 |_=>undef
def wN:DV->Prop
 | .int _ _=>True
 | .str _=>True
 | .bool _=>True
 |_=>False
theorem nM.flat{k:TK}{x:DV}(h:nM k x):wN x:=by
 cases k<;>first|(obtain⟨_,rfl⟩:=h;trivial)|exact h.elim
theorem uD.flat{T:List bD}:∀ {n:Nat} {fs:List (Nat × Nat)} {l:List DV},uD T n fs l->∀ x∈l,wN x
 |_,[],[],_,x,hx=>by simp at hx
 |_,_::_,[],h,_,_=>h.elim
 |_,[],_::_,h,_,_=>h.elim
 |n,f::fs,a::l,h,x,hx=>by
  rcases List.mem_cons.1 hx with rfl|hx
  ·obtain⟨-,⟨i,-,h⟩,-⟩:=h;exact h.flat
  ·exact h.2.2.flat x hx
theorem B1{bad:Nat->Prop}{w:World}{x:DV}{v:Value}(hf:wN x)(h:VD bad w x v):v=gT x:=by
 cases x<;>first|exact hf.elim|(cases h;rfl)
theorem eh.cases{T:List bD}{k:TK}{x:DV}(h:eh T k x):wN x\/∃ l,x=.agg l/\∀ y∈l,wN y:=by
 unfold eh at h;split at h
 ·obtain⟨l,rfl,h⟩:=h;exact .inr ⟨l,rfl,h.flat⟩
 ·exact .inl h.flat
theorem zc{T:List bD}{k:TK}{bad:Nat->Prop}{w:World}{x:DV}{v:Value}(hf:eh T k x)(h:VD bad w x v):v=gT x:=by
 rcases hf.cases with pF|⟨l,rfl,pF⟩
 ·exact B1 pF h
 ·cases h with
  |agg _ vs hl hv =>
   simp only[gT]
   congr 1
   apply Array.ext
   ·simpa using hl.symm
   ·intro j h1 h2;have hj:j<l.length:=by omega
    have e:=hv j l[j] vs[j] (by simp) (by simp[h1]);have:=B1 (pF _ (List.getElem_mem hj)) e;rw[this];simp only[List.getElem_toArray,List.getElem_map];have gj:=pF _ (List.getElem_mem hj);generalize l[j]=y at gj;cases y<;>first|rfl|exact gj.elim
theorem Fl(j:IntKind):IntKind.same j j=true:=by cases j<;>rfl
theorem Kx{a b:DV}(h:qU a b=true):a=b:=by
 unfold qU at h;split at h
 ·simp only[Bool.and_eq_true,beq_iff_eq]at h;obtain rfl:=su h.1;rw[h.2]
 ·simp at h;rw[h]
 ·simp at h;rw[h]
 ·cases h
theorem Ky:∀ {a b:List DV},uC a b=true->a=b
 |[],[],_=>rfl
 |[],_::_,h=>by cases h
 |_::_,[],h=>by cases h
 |x::a,y::b,h=>by
  simp only[uC,Bool.and_eq_true]at h;rw[Kx h.1,Ky h.2]
theorem Th{a b:DV}(h:fc a b=true):a=b:=by
 unfold fc at h;split at h
 ·rw[Ky h]
 ·exact Kx h
theorem Fm(a b:List UInt8):((⟨a.toArray⟩:ByteArray)==⟨b.toArray⟩)=(a==b):=by
 show(a.toArray==b.toArray)=_;simp
theorem Fp{α:Type}:∀ {l:List α} {p:α × α},p∈l.zip l->p.1=p.2/\p.1∈l
 |[],p,h=>by simp at h
 |a::l,p,h=>by
  rcases List.mem_cons.1 h with rfl|h
  ·exact⟨rfl,List.mem_cons_self ..⟩
  ·exact⟨(Fp h).1,List.mem_cons_of_mem _ (Fp h).2⟩
theorem Ti(n:Nat){x:DV}(h:wN x):Instr.sameBits n (gT x) (gT x)=true:=by
 cases x<;>first|exact h.elim|(cases n<;>simp[gT,Instr.sameBits,Fm])
theorem Tj{T:List bD}{k:TK}{x:DV}(h:eh T k x):Instr.sameBits 10000 (gT x) (gT x)=true:=by
 rcases h.cases with h1|⟨l,rfl,h1⟩
 ·exact Ti _ h1
 ·show Instr.sameBits (9999+1) _ _=true;simp only[gT,Instr.sameBits,beq_self_eq_true,Bool.true_and,List.all_eq_true];intro p hp;obtain⟨e1,e2⟩:=Fp hp;obtain⟨p1,p2⟩:=p;simp only at e1 e2;subst e1;obtain⟨y,hy,rfl⟩:=List.mem_map.1 e2;have:=h1 y hy;cases y<;>first|exact this.elim|simp[Instr.sameBits,Fm]
def ze(bad:Nat->Prop)(w:World)(es:List (DV × DV))(en:List MapEntry):Prop:=en.length=es.length/\∀ (j:Nat) (k x:DV) (m:MapEntry),es[j]?=some (k,x)->en[j]?=some m->VD bad w k m.key/\VD bad w x m.val
theorem ze.cons{bad:Nat->Prop}{w:World}{p:DV × DV}{m:MapEntry}{es:List (DV × DV)}{en:List MapEntry}(h:ze bad w (p::es) (m::en)):VD bad w p.1 m.key/\VD bad w p.2 m.val/\ze bad w es en:=by
 obtain⟨h1,h2⟩:=h;have:=h2 0 p.1 p.2 m rfl rfl;exact⟨this.1,this.2,by simpa using h1,fun j k x m' hk hm=>h2 (j+1) k x m' (by simpa using hk) (by simpa using hm)⟩
theorem Fq{k:DV}:∀ {es:List (DV × DV)} {j:Nat},je k es=some j->∃ p,es[j]?=some p/\fc k p.1=true/\findD k es=some p.2
 |[],_,h=>by cases h
 |p::es,j,h=>by
  unfold je at h;split at h
  ·rename_i q;cases h;exact⟨p,rfl,q,by simp[findD,q]⟩
  ·rename_i q;cases hf:je k es with
   |none=>rw[hf]at h;cases h
   |some i =>
    rw[hf]at h;cases h;obtain⟨p',h1,h2,h3⟩:=Fq hf;exact⟨p',by simpa using h1,h2,by simp[findD,q,h3]⟩
theorem Kz{k:DV}:∀ {es:List (DV × DV)},je k es=none->findD k es=none
 |[],_=>rfl
 |p::es,h=>by
  unfold je at h;split at h
  ·cases h
  ·rename_i q;cases hf:je k es with
   |none=>simp[findD,q,Kz hf]
   |some i=>rw[hf]at h;cases h
theorem Fs{k v:DV}:∀ {es:List (DV × DV)} {j:Nat},je k es=some j->cx k v es=es.set j (k,v)
 |[],_,h=>by cases h
 |p::es,j,h=>by
  unfold je at h;split at h
  ·rename_i q;cases h;simp[cx,q]
  ·rename_i q;cases hf:je k es with
   |none=>rw[hf]at h;cases h
   |some i =>
    rw[hf]at h;cases h;simp[cx,q,Fs hf]
theorem Ft{k v:DV}:∀ {es:List (DV × DV)},je k es=none->cx k v es=es++[(k,v)]
 |[],_=>rfl
 |p::es,h=>by
  unfold je at h;split at h
  ·cases h
  ·rename_i q;cases hf:je k es with
   |none=>simp[cx,q,Ft hf]
   |some i=>rw[hf]at h;cases h
theorem wO{P:Program}{w:World}{r:Nat}{es:Array MapEntry}{clock:Nat}(hb:w.heap[r]?=some (.map es clock)):(getObj r).run P w=.ok (.map es clock) w:=by
 simp[getObj,Sem.run,hb]
theorem KA{P:Program}{w:World}{r:Nat}{es:Array MapEntry}{clock:Nat}(o:Obj)(hb:w.heap[r]?=some (.map es clock)):(setObj r o).run P w=.ok () { w with heap:=w.heap.setIfInBounds r o }:=by
 simp[setObj,Sem.run,hb]
theorem Tk{P:Program}{w:World}{kt:TypeId}{d:TypeDesc}{k:Value}{l:List MapEntry}{a:Option (Nat × Value)}(hd:P.underlying kt=some d)(h:Instr.findNow d k l 0=some a):(Instr.findKey kt k l).run P w=.ok a w:=by
 simp[Instr.findKey,run_underlying hd,Result.andThen,h]
section
variable {E:Env}
def Fu:TK->Prop
 | .int _=>True
 | .string=>True
 | .bool=>True
 |_=>False
inductive uE (E:Env) (t:Nat):TK->Prop
 |plain (i:bD) (hi:E.T[t]?=some i) (h:Fu i.k):uE E t i.k
 |struct (i:bD) (hi:E.T[t]?=some i) (fs:List (Nat × Nat)) (hk:i.k=.struct fs) (hq:t∈E.Q):uE E t (.struct fs)
theorem KB{T:List bD}:∀ {n:Nat} {fs:List (Nat × Nat)} {l m:List DV},uD T n fs l->uD T n fs m->lA T n fs l m False (· = uC l m)
 |_,[],[],[],_,_=>rfl
 |_,_::_,[],_,h,_=>h.elim
 |_,[],_::_,_,h,_=>h.elim
 |_,_::_,_::_,[],_,h=>h.elim
 |_,[],[],_::_,_,h=>h.elim
 |n,f::fs,a::l,b::m,h,h'=>by
  obtain⟨e1,⟨i,hi,ha⟩,hl⟩:=h;obtain⟨-,⟨i',cT,hb⟩,hm⟩:=h';rw[hi]at cT;cases cT;simp only[lA];have:Nat.beq f.1 n=true:=by rw[e1];exact Nat.beq_refl n
  rw[this];simp only;rw[By hi];have key:∀ (K:Bool->Prop),K (qU a b)->pE i.k a b False K:=fun K hK=>by
   unfold nM at ha hb;split at ha
   ·rename_i j hk;obtain⟨x,rfl⟩:=ha;rw[hk]at hb ⊢;obtain⟨y,rfl⟩:=hb;simp only[pE,Fl]
    simpa [qU,Fl]using hK
   ·rename_i hk;obtain⟨x,rfl⟩:=ha;rw[hk]at hb ⊢;obtain⟨y,rfl⟩:=hb;exact hK
   ·rename_i hk;obtain⟨x,rfl⟩:=ha;rw[hk]at hb ⊢;obtain⟨y,rfl⟩:=hb;exact hK
   ·exact ha.elim
  refine key _ ?_;have ih:=KB hl hm;have mono:∀ {n:Nat} {fs:List (Nat × Nat)} {l m:List DV} {K K':Bool->Prop},(∀ p,K p->K' p)->lA T n fs l m False K->lA T n fs l m False K':=by
   intro n fs
   induction fs generalizing n with
   |nil=>intro l m K K' hk H;cases l<;>cases m<;>first|exact hk _ H|exact H
   |cons f fs Fv =>
    intro l m K K' hk H;cases l with
    |nil=>exact H
    |cons a l=>cases m with
     |nil=>exact H
     |cons b m =>
      simp only[lA]at H ⊢;split at H
      ·rcases bp H with H|⟨i,hi,H⟩
       ·exact H.elim
       rw[By hi];unfold pE at H ⊢;split at H
       ·split at H
        ·exact Fv (fun p hp=>hk _ hp) H
        ·exact H
       ·exact Fv (fun p hp=>hk _ hp) H
       ·exact Fv (fun p hp=>hk _ hp) H
       ·exact H
      ·exact H
  refine mono (fun p hp=>?_) ih;rw[hp,uC]
theorem Tl(hE:E.OK){t:Nat}{i:bD}(hi:E.T[t]?=some i){fs:List (Nat × Nat)}(hk:i.k=.struct fs)(hq:t∈E.Q){x y:DV}(hx:eh E.T (.struct fs) x)(hy:eh E.T (.struct fs) y){bad:Nat->Prop}{w:World}{u v:Value}(hu:VD bad w x u)(hv:VD bad w y v) :
  (Op.equal t u v).run E.P w=.ok (fc x y) w:=by
 obtain⟨l,rfl,hl⟩:=hx;obtain⟨m,rfl,hm⟩:=hy;obtain⟨ti,d,g1,g2,g3,-⟩:=cM (hE.types t i hi);obtain⟨fl,rfl,rfl⟩:=ou (hk.symm.trans g3);have pG:=hE.eqs t hq;simp only[pt,g2,Bool.and_eq_true,Bool.not_eq_true',List.all_eq_true,bne_iff_ne,ne_eq]at pG;obtain⟨⟨q1,q2⟩,q3⟩:=pG;rcases Fi hE.types (KB hl hm) q3 with h|⟨p,rfl,hp⟩
 ·exact h.elim
 have gR:E.P.fieldsOf t=fl:=by simp[Program.fieldsOf,g2]
 cases hu with
 |agg _ xs x1 x2=>cases hv with
  |agg _ ys y1 y2 =>
   show(Op.equalIn (9999+1) t _ _).run E.P w=_;rw[run_equalIn_struct w 9999 t _ _ (by rw[gR];exact g2) q1,gR];have:=hp bad w w xs.toList ys.toList 9998 (fun j z hz=>?_) (fun j z hz=>?_)
   ·simpa [fc]using this
   ·have hj:=a7 hz;rw[x1]at hj;exact⟨xs[j],by simp[hj],x2 j z _ hz (by simp[hj])⟩
   ·have hj:=a7 hz;rw[y1]at hj;exact⟨ys[j],by simp[hj],y2 j z _ hz (by simp[hj])⟩
theorem Tm{td:TypeDesc}{k:TK}(hk:k=tk td)(hp:Fu k){x y:DV}(hx:nM k x)(hy:nM k y):Instr.sameNow td (gT x) (gT y)=some (fc x y):=by
 subst hk;cases td<;>simp only[tk,Fu]at hp hx hy
 ·obtain⟨a,rfl⟩:=hx;obtain⟨b,rfl⟩:=hy;rfl
 ·obtain⟨a,rfl⟩:=hx;obtain⟨b,rfl⟩:=hy;simp[Instr.sameNow,gT,fc,qU,Fl]
 ·obtain⟨a,rfl⟩:=hx;obtain⟨b,rfl⟩:=hy;simp[Instr.sameNow,gT,fc,qU,Fm]
def nN(k:DV)(es:List (DV × DV))(en:List MapEntry)(i:Nat):Option (Nat × Value):=(je k es).bind fun j=>(en[j]?).map fun m=>(i+j,m.val)
theorem KC{k:DV}{p:DV × DV}{m:MapEntry}{es:List (DV × DV)}{en:List MapEntry}{i:Nat}:nN k (p::es) (m::en) i=if fc k p.1 then some (i,m.val)else nN k es en (i+1):=by
 simp only[nN,je];split
 ·simp
 ·cases je k es with
  |none=>rfl
  |some j =>
   simp;cases en[j]? with
   |none=>rfl
   |some m=>simp;omega
theorem KD(hE:E.OK){t:Nat}{k:TK}(hT:uE E t k){x:DV}(hx:eh E.T k x){bad:Nat->Prop}{w:World}{u:Value}(hu:VD bad w x u){es:List (DV × DV)}{en:List MapEntry}(jt:∀ p∈es,eh E.T k p.1)(wP:ze bad w es en) :
  (Instr.findKey t u en).run E.P w=.ok (nN x es en 0) w:=by
 cases hT with
 |plain i hi h =>
  obtain⟨ti,d,g1,g2,g3,-⟩:=cM (hE.types t i hi);refine Tk g2 ?_;have hF:∀ y,eh E.T i.k y->nM i.k y:=fun y hy=>by
   unfold eh at hy;split at hy
   ·rename_i q;rw[q]at h;exact h.elim
   ·exact hy
  obtain rfl:=zc hx hu;generalize 0=n
  induction es generalizing en n with
  |nil =>
   obtain rfl:en=[]:=List.eq_nil_of_length_eq_zero (by simpa using wP.1);rfl
  |cons p es ih=>cases en with
   |nil=>have:=wP.1;simp at this
   |cons m en =>
    obtain⟨h1,h2,h3⟩:=wP.cons;have hp:=jt p (List.mem_cons_self ..);have e1:=zc hp h1;rw[KC,Instr.findNow,e1,Tm g3 h (hF _ hx) (hF _ hp)];cases fc x p.1 with
    |true=>rfl
    |false =>
     have ha:∀ q∈es,eh E.T i.k q.1:=fun q hq=>jt q (List.mem_cons_of_mem _ hq);first|exact ih ha h3 (n+1)|exact ih h3 ha (n+1)|exact ih h3 (n+1) ha
 |struct i hi fs hk hq =>
  obtain⟨ti,d,g1,g2,g3,-⟩:=cM (hE.types t i hi);obtain⟨fl,rfl,-⟩:=ou (hk.symm.trans g3);rw[run_findKey_eq w (by rw[g2]) u en];generalize 0=n
  induction es generalizing en n with
  |nil =>
   obtain rfl:en=[]:=List.eq_nil_of_length_eq_zero (by simpa using wP.1);simp[Instr.findAsking,nN,je]
  |cons p es ih=>cases en with
   |nil=>have:=wP.1;simp at this
   |cons m en =>
    obtain⟨h1,h2,h3⟩:=wP.cons;have hp:=jt p (List.mem_cons_self ..);rw[KC];simp only[Instr.findAsking,Sem.run_bind,Tl hE hi hk hq hx hp hu h1,Result.andThen_ok];cases fc x p.1 with
    |true=>simp
    |false =>
     simp only[Bool.false_eq_true,if_false];have ha:∀ q∈es,eh E.T (.struct _) q.1:=fun q hq=>jt q (List.mem_cons_of_mem _ hq);first|exact ih ha h3 (n+1)|exact ih h3 ha (n+1)|exact ih h3 (n+1) ha
theorem KE(hE:E.OK){t:Nat}{k:TK}(hT:uE E t k){x:DV}(hx:eh E.T k x){bad:Nat->Prop}{w:World}{u:Value}(hu:VD bad w x u)(em:Bool):(Instr.checkKey em 10000 t u).run E.P w=.ok () w:=by
 have one:∀ (n:Nat) (t:Nat) (i:bD) (hi:E.T[t]?=some i) (y:DV),nM i.k y->(Instr.checkKey em (n+1) t (gT y)).run E.P w=.ok () w:=fun n t i hi y hy=>by
  obtain⟨ti,d,g1,g2,g3,-⟩:=cM (hE.types t i hi);unfold Instr.checkKey;simp only[Sem.run_bind,run_underlying g2,Result.andThen];unfold nM at hy;split at hy
  ·rename_i q;obtain⟨a,rfl⟩:=hy;obtain rfl:=wz (q.symm.trans g3);simp[gT]
  ·rename_i q;obtain⟨a,rfl⟩:=hy;obtain rfl:=sx (q.symm.trans g3);simp[gT]
  ·rename_i q;obtain⟨a,rfl⟩:=hy;have:d=.bool:=by rw[q]at g3;cases d<;>first|rfl|cases g3
   subst this;simp[gT]
  ·exact hy.elim
 obtain rfl:=zc hx hu;cases hT with
 |plain i hi h =>
  have hF:nM i.k x:=by
   unfold eh at hx;split at hx
   ·rename_i q;rw[q]at h;exact h.elim
   ·exact hx
  exact one 9999 t i hi x hF
 |struct i hi fs hk hq =>
  obtain⟨ti,d,g1,g2,g3,-⟩:=cM (hE.types t i hi);obtain⟨fl,rfl,rfl⟩:=ou (hk.symm.trans g3);obtain⟨l,rfl,hl⟩:=hx;show(Instr.checkKey em (9999+1) t _).run E.P w=_;rw[Instr.checkKey];simp only[Sem.run_bind,run_underlying g2,Result.andThen_ok,gT];rw[<- Array.forIn_toList]
  generalize lv:(l.map fun
   | .int j n=>Value.int j n
   | .str s => .string ⟨s.toArray⟩
   | .bool b => .bool b
   |_=>undef)=cs
  have bQ:∀ (j:Nat) (y:DV),l[j]?=some y->cs[0+j]?=some (gT y):=fun j y hy=>by
   rw[<- lv];have:=hl.flat y (List.mem_of_getElem? hy);simp[hy];cases y<;>first|rfl|exact this.elim
  clear lv;have go:∀ (fl:List Field) (n:Nat) (l:List DV),uD E.T n (fl.map fun f=>(f.offset,f.type)) l->(∀ (j:Nat) (y:DV),l[j]?=some y->cs[n+j]?=some (gT y)) ->
    (forIn fl PUnit.unit fun f _ =>
     if f.name ≠ "_" then do
      let d <- part f.type cs.toArray f.offset
      Instr.checkKey em 9999 f.type d
      pure (ForInStep.yield PUnit.unit)
     else pure (ForInStep.yield PUnit.unit):Sem PUnit).run E.P w=.ok PUnit.unit w:=by
   intro fl
   induction fl with
   |nil=>intro n l _ _;simp
   |cons f fl ih =>
    intro n l h hv;cases l with
    |nil=>exact h.elim
    |cons a l =>
     obtain⟨e1,⟨fi,jU,mb⟩,hr⟩:=h;simp only at e1 jU;have fp:fi.k.agg=false:=by
      unfold nM at mb;split at mb<;>first|(rename_i q;rw[q];rfl)|exact mb.elim
     have h0 := hv 0 a rfl;rw [Nat.add_zero] at h0;have hp := wB (hE.types _ fi jU) w cs n (gT a) h0 fp;have uF := ih (n + 1) l hr (fun j y hy => by rw [show n + 1 + j = n + (j + 1) by omega]; exact hv (j + 1) y (by simpa using hy));simp only [List.forIn_cons, Sem.run_bind];by_cases B0 : f.name = "_"
     ·simp only[B0,ne_eq,not_true_eq_false,if_false,Sem.run_bind,Sem.run_pure,Result.andThen_ok];exact uF
     ·simp only[B0,ne_eq,not_false_eq_true,if_true,Sem.run_bind,e1,hp,Result.andThen_ok,one 9998 f.type fi jU a mb,Sem.run_pure];exact uF
  have:=go fl.toList 0 l hl bQ;rw[this];rfl
end
section
variable {E:Env} {s:List AV} {h:List af} {c:Cx} {G:List (Nat × DV)}
theorem Tn{t:Nat}:aZ E (.makeMap t none) s h (.map h.length) (h++[.map []]):=fun o c ac h1 h2 h3 h4=>by
 subst h2;obtain⟨k1,k2⟩:=h3.add (.map []) 0 (.map #[] 0);have bJ:(c.add (.map []) 0 (.map #[] 0)).own c.heap.length=some (c.w.heap.size,0):=by simp[Cx.add]
 have kE:(c.add (.map []) 0 (.map #[] 0)).heap[c.heap.length]?=some (.map []):=by simp[Cx.add]
 refine⟨_,.map (some c.w.heap.size),.inl ?_,rfl,k2 ⟨c.w.heap.size,0,#[],0,bJ,heap_alloc_new _ _,⟨rfl,by simp,by simp,by simp,rfl⟩,fun j k x m hj=>by simp at hj⟩,.map c.heap.length [] c.w.heap.size 0 kE bJ,k1⟩;simp only[execOp,h1,Option.map_none,Instr.makeMap];rfl
theorem To{b:Nat}{es:List (DV × DV)}(hb:c.heap[b]?=some (.map es)){v:Value}(hv:VR c (.map b) v):∃ blk cap,v=.map (some blk)/\c.own b=some (blk,cap):=by
 cases hv with
 |map _ eC blk cap k1 k2=>exact⟨blk,cap,rfl,k2⟩
 |nA _ _ k1 _=>rw[hb]at k1;cases k1
theorem B3(h3:aE G c){b:Nat}{es:List (DV × DV)}(hb:c.heap[b]?=some (.map es)){v:Value}(hv:VR c (.map b) v):∃ (blk cap:Nat) (en:Array MapEntry) (ck:Nat),v=.map (some blk)/\c.own b=some (blk,cap)/\c.w.heap[blk]?=some (.map en ck)/\pw en ck es.length/\ze c.bad c.w es en.toList:=by
 obtain⟨blk,cap,rfl,ho⟩:=To hb hv;obtain⟨lk,jS,en,ck,p1,p2,p3,p4⟩:=h3.box b _ hb;rw[ho]at p1;cases p1;exact⟨blk,cap,en,ck,rfl,ho,p2,p3,by simpa using p3.size,fun j k x m hk hm=>p4 j k x m hk (by simpa using hm)⟩
@[irreducible] def zf (E : Env) (e : Nat) (kd : TK) (x : DV) (es : List (DV × DV)) (K : DV -> Bool -> Prop) : Prop :=
 ∃ (z:DV) (zv:Value),eh E.T kd x/\(∀ p∈es,eh E.T kd p.1)/\(∀ w,(zeroValue e).run E.P w=.ok zv w)/\(∀ bad w,VD bad w z zv)/\K ((findD x es).getD z) (findD x es).isSome
theorem jx{E:Env}{e:Nat}{kd:TK}{x:DV}{es:List (DV × DV)}{K:DV->Bool->Prop}(z:DV)(zv:Value){v:DV}{f:Bool}(h1:eh E.T kd x)(h2:∀ p∈es,eh E.T kd p.1)(h3:∀ w,(zeroValue e).run E.P w=.ok zv w)(h4:∀ bad w,VD bad w z zv)
  (e1:(findD x es).getD z=v) (e2:(findD x es).isSome=f) (k:K v f):zf E e kd x es K:=by
 unfold zf;exact⟨z,zv,h1,h2,h3,h4,by rw[e1,e2];exact k⟩
theorem Tp{E:Env}{e:Nat}{kd:TK}{x:DV}{es:List (DV × DV)}{K:DV->Bool->Prop}(h:zf E e kd x es K) :
  ∃ (z:DV) (zv:Value),eh E.T kd x/\(∀ p∈es,eh E.T kd p.1)/\(∀ w,(zeroValue e).run E.P w=.ok zv w)/\(∀ bad w,VD bad w z zv)/\K ((findD x es).getD z) (findD x es).isSome:=by unfold zf at h;exact h
theorem Tq(hE:E.OK){t kt e:Nat}{m ko:Operand}{ti:bD}(cm:E.T[t]?=some ti)(hk:ti.k=.map kt e){kd:TK}(hT:uE E kt kd){b:Nat}{es:List (DV × DV)}(hb:h[b]?=some (.map es))(hm:bh E.G s m (.map b)){x:DV}(hx:bh E.G s ko (.d x))
  (h1:eh E.T kd x) (h2:∀ p∈es,eh E.T kd p.1) {z:DV} {zv:Value} (hz:∀ w,(zeroValue e).run E.P w=.ok zv w) (zg:∀ bad w,VD bad w z zv) (ok:Bool) :
  aZ E (.lookup t m ko ok) s h (match ok with|true => .d (.aK [(findD x es).getD z,.bool (findD x es).isSome])|false => .d ((findD x es).getD z)) h := .quiet fun o c ac e1 e2 h3 h4=>by
 subst e2;obtain⟨nL,d,g1,g2,g3,-⟩:=cM (hE.types t ti cm);have hd:d=.map kt e:=by rw[hk]at g3;cases d<;>first|(cases g3;rfl)|cases g3
 subst hd;obtain⟨blk,cap,en,ck,q1,q2,q3,qe,q4⟩:=B3 h3 hb (hm c ac h3 h4);have di:=hx c ac h3 h4;generalize hu:ac.eval ko=u at di;cases di with
 |d _ _ di =>
  have r1:=KE hE hT h1 di en.isEmpty;have r2:=KD hE hT h1 di h2 q4
  have hv:∃ (v:Value) (f:Bool),f=(findD x es).isSome/\VD c.bad c.w ((findD x es).getD z) v/\((match nN x es en.toList 0 with
    |some (_,v)=>pure (v,true)
    |none=>do pure (<- zeroValue e,false):Sem (Value × Bool))).run E.P c.w=.ok (v,f) c.w:=by
   cases hf:je x es with
   |none =>
    rw[Kz hf];refine⟨zv,false,rfl,zg _ _,?_⟩;simp[nN,hf,hz]
   |some j =>
    obtain⟨p,p1,p2,p3⟩:=Fq hf;rw[p3];have hj:j<en.toList.length:=by rw[q4.1];exact a7 p1
    refine⟨en.toList[j].val,true,rfl,(q4.2 j p.1 p.2 _ p1 (by simp)).2,?_⟩;have:en.toList[j]?=some en.toList[j]:=by simp
    simp only[nN,hf,Option.bind_some,this,Option.map_some];rfl
  obtain⟨v,f,rfl,fR,cW⟩:=hv;have main:(Instr.lookup t (.map (some blk)) u ok).run E.P c.w=.ok (if ok then .tuple #[v,.bool (findD x es).isSome]else v) c.w:=by
   simp only[Instr.lookup,Sem.run_bind,run_underlying g2,Result.andThen_ok,wO q3,Sem.run_pure,r1,r2];have:=cW;cases sF:nN x es en.toList 0 with
   |none =>
    rw[sF]at this;simp only[Sem.run_bind,Sem.run_pure]at this ⊢;rw[hz]at this ⊢;simp only[Result.andThen_ok,Result.ok.injEq,Prod.mk.injEq]at this ⊢;rw[<- this.1.1,<- this.1.2];first|exact⟨rfl,rfl⟩|exact⟨rfl,trivial⟩|rfl
   |some q =>
    rw[sF]at this;simp only[Sem.run_pure,Result.ok.injEq,Prod.mk.injEq]at this ⊢;rw[<- this.1.1,<- this.1.2];first|exact⟨rfl,rfl⟩|exact⟨rfl,trivial⟩|rfl
  refine⟨_,by simp only[execOp,e1,q1,hu,Sem.run_bind,main,Result.andThen_ok,Sem.run_pure];rfl,?_⟩;cases ok with
  |true =>
   refine .d _ _ (.aK _ _ rfl fun j y w hy hw=>?_)
   match j with
   |0=>simp at hy hw;subst hy;subst hw;exact fR
   |1=>simp at hy hw;subst hy;subst hw;exact .bool _
   |j+2=>simp at hy
  |false=>exact .d _ _ fR
theorem KF(hE:E.OK){op:Op}{t kt e:Nat}{m ko vo:Operand}(bX:op=.mapUpdate t m ko vo\/op=.insert t m ko vo){ti:bD}(cm:E.T[t]?=some ti)(hk:ti.k=.map kt e){kd:TK}(hT:uE E kt kd){b:Nat}{es:List (DV × DV)}(hb:h[b]?=some (.map es))(hm:bh E.G s m (.map b)){x y:DV}(hx:bh E.G s ko (.d x))(hy:bh E.G s vo (.d y))
  (h1:eh E.T kd x) (h2:∀ p∈es,eh E.T kd p.1):aZ E op s h (.d .undef) (h.set b (.map (cx x y es))):=fun o c ac e1 e2 h3 h4=>by
 subst e2;obtain⟨nL,d,g1,g2,g3,-⟩:=cM (hE.types t ti cm);have hd:d=.map kt e:=by rw[hk]at g3;cases d<;>first|(cases g3;rfl)|cases g3
 subst hd;have eD:=a7 hb;obtain⟨blk,cap,en,ck,q1,q2,q3,qe,q4⟩:=B3 h3 hb (hm c ac h3 h4);have di:=hx c ac h3 h4;have nK:=hy c ac h3 h4;generalize hu:ac.eval ko=u at di;generalize hw:ac.eval vo=w at nK;cases di with
 |d _ _ di=>cases nK with
  |d _ _ nK =>
   have r1:=KE hE hT h1 di false;have r2:=KD hE hT h1 di h2 q4;have hblk:blk<c.w.heap.size:=(h3.bI b blk cap q2).1;have main:∃ (uG:Array MapEntry) (wQ:Nat),(Instr.mapUpdate t (.map (some blk)) u w).run E.P c.w=.ok () { c.w with heap:=c.w.heap.setIfInBounds blk (.map uG wQ) }/\pw uG wQ (cx x y es).length /\
     ∀ (j:Nat) (k v:DV) (mm:MapEntry),(cx x y es)[j]?=some (k,v)->uG[j]?=some mm->VD c.bad c.w k mm.key/\VD c.bad c.w v mm.val:=by
    cases hf:je x es with
    |none =>
     refine⟨en.push { key:=u,val:=w,born:=ck },ck+1,?_,?_,?_⟩
     ·simp only[Instr.mapUpdate,Sem.run_bind,run_underlying g2,Result.andThen_ok,wO q3,r1,r2,nN,hf,Option.bind_none,KA _ q3]
     ·rw[Ft hf,List.length_append];exact qe.push u w
     ·intro j k v mm hj lB;rw[Ft hf]at hj;have hl:en.size=es.length:=by simpa using q4.1
      rcases Nat.lt_or_ge j es.length with ai|aL
      ·rw[List.getElem?_append_left ai]at hj;rw[Array.getElem?_push,if_neg (by omega)]at lB;exact q4.2 j k v mm hj (by simpa using lB)
      ·have lr:j=es.length:=by
        have:=a7 hj;simp at this;omega
       subst lr;rw[List.getElem?_append_right (Nat.le_refl _)]at hj;simp at hj;obtain⟨rfl,rfl⟩:=hj;rw[Array.getElem?_push,if_pos hl.symm]at lB;cases lB;exact⟨di,nK⟩
    |some i =>
     obtain⟨p,p1,p2,p3⟩:=Fq hf;have hl:en.size=es.length:=by simpa using q4.1
     have hi:i<en.size:=by rw[hl];exact a7 p1
     have zh:en[i]?=some en[i]:=by simp[hi]
     have Tr:=(q4.2 i p.1 p.2 en[i] p1 (by simp[hi])).1;have Fw:=Th p2;have e3:=zc h1 di;have e4:=zc (h2 p (List.mem_of_getElem? p1)) Tr;have Ts:Instr.sameBits 10000 en[i].key u=true:=by
      rw[e3,e4,<- Fw];exact Tj h1
     refine⟨en.modify i fun e=>{ e with key:=u,val:=w },ck,?_,?_,?_⟩
     ·have Fx:nN x es en.toList 0=some (i,en[i].val):=by
       simp[nN,hf,hi]
      have Tt:(Instr.keyThatStays en[i].key u).run E.P c.w=.ok u c.w:=by
       simp only[Instr.keyThatStays,Ts,if_true,Sem.run_pure]
      simp only[Instr.mapUpdate,Sem.run_bind,run_underlying g2,Result.andThen_ok,wO q3,r1,r2,Fx,zh,Option.map_some,Option.getD_some,Tt,KA _ q3]
     ·rw[Fs hf,List.length_set];exact qe.modify i u w
     ·intro j k v mm hj lB;rw[Fs hf]at hj;by_cases zi:j=i
      ·subst zi;rw[List.getElem?_set_self (by omega)]at hj;cases hj;rw[Array.getElem?_modify,if_pos rfl,zh]at lB;cases lB;exact⟨di,nK⟩
      ·rw[List.getElem?_set_ne (Ne.symm zi)]at hj;rw[Array.getElem?_modify,if_neg (Ne.symm zi)]at lB;exact q4.2 j k v mm hj (by simpa using lB)
   obtain⟨uG,wQ,cW,hlen,nO⟩:=main
   let c':Cx:={ c with heap:=c.heap.set b (.map (cx x y es)),w:={ c.w with heap:=c.w.heap.setIfInBounds blk (.map uG wQ) } }
   have Tu:c'.w.heap[blk]?=some (.map uG wQ):=by simp[c',hblk]
   have KG:∀ b',b'≠blk->c'.w.heap[b']?=c.w.heap[b']? := fun b' cU=>by simp[c',Array.getElem?_setIfInBounds,Ne.symm cU]
   have KH:c'.heap[b]?=some (.map (cx x y es)):=by show(c.heap.set b _)[b]?=_;rw[List.getElem?_set_self eD]
   have oD:∀ i,i≠b->c'.heap[i]?=c.heap[i]? := fun i hi=>by show(c.heap.set b _)[i]?=_;rw[List.getElem?_set_ne (Ne.symm hi)]
   have aT:Step c c':=⟨rfl,h3.bE,rfl,rfl,rfl,by simp[c'],fun b' _ dR=>KG b' (fun zj=>dR b cap (zj ▸ q2)),fun i b' n hi _=>⟨n,hi⟩,fun i bx hi=>by
    by_cases bR:i=b
    ·subst bR;rw[hb]at hi;cases hi;exact .inl ⟨_,KH,rfl⟩
    ·rw[<- oD i bR]at hi;cases bx with
     |cells cs=>exact .inl ⟨cs,hi,rfl,rfl⟩
     |arr g sz l=>exact .inl ⟨g,l,hi,.inr ⟨rfl,rfl,rfl⟩⟩
     |map es=>exact .inl ⟨es,hi,rfl⟩
     |gone=>exact hi⟩
   have aO:aE E.G c':=by
    refine h3.next aT (fun i b' n hi=>?_) h3.inj (fun i bx hi=>?_)
    ·have:=h3.bI i b' n hi;refine⟨by simpa [c']using this.1,?_⟩;show i<(c.heap.set b _).length;rw[List.length_set];exact this.2
    ·by_cases bR:i=b
     ·subst bR;rw[KH]at hi;cases hi;right;exact⟨blk,cap,uG,wQ,q2,Tu,hlen,fun j k v mm hj lB=>⟨aT.vd (nO j k v mm hj lB).1,aT.vd (nO j k v mm hj lB).2⟩⟩
     ·rw[oD i bR]at hi;exact .inl ⟨hi,rfl,fun b' n hn=>KG b' (fun zj=>bR (h3.inj i b blk n cap (zj ▸ hn) q2))⟩
   refine⟨c',undef,.inr ⟨?_,rfl⟩,rfl,aO,.d _ _ .undef,aT⟩;rcases bX with rfl|rfl
   ·simp only[execOp,e1,q1,hu,hw,Sem.run_bind,cW,Result.andThen_ok,Sem.run_pure];rfl
   ·simp only[execOp,e1,q1,hu,hw,Sem.run_bind,cW,Result.andThen_ok,Sem.run_pure];rfl
theorem Tv(hE:E.OK){t:Nat}{args:Array Operand}{ts:Array TypeId}{m:Operand}(jZ:args.toList[0]?=some m)(mR:ts.toList[0]?=some t){ti:bD}(cm:E.T[t]?=some ti){kt e:Nat}(hk:ti.k=.map kt e){b:Nat}{es:List (DV × DV)}(hb:h[b]?=some (.map es))(hm:bh E.G s m (.map b)) :
  aZ E (.call { callee := .builtin .len,args:=args,argTypes:=ts }) s h (.d (.int .i64 es.length)) h := .quiet fun o c ac e1 e2 h3 h4=>by
 subst e2;obtain⟨nL,d,g1,g2,g3,-⟩:=cM (hE.types t ti cm);have hd:d=.map kt e:=by rw[hk]at g3;cases d<;>first|(cases g3;rfl)|cases g3
 subst hd;obtain⟨blk,cap,en,ck,q1,q2,q3,qe,q4⟩:=B3 h3 hb (hm c ac h3 h4);refine⟨.int .i64 es.length,?_,.d _ _ (.int _ _)⟩;have hl:en.size=es.length:=by simpa using q4.1
 have eS:args[0]?=some m:=by simpa using jZ
 have qI:ts[0]?=some t:=by simpa using mR
 have dK:(args.map ac.eval)[0]?=some (.map (some blk)):=by rw[Array.getElem?_map,eS];simp[q1]
 simp only[execOp,e1,resolve,invoke,builtin,Builtin.len_,qI,dK,Sem.run_bind,Sem.run_pure,Result.andThen_ok,run_underlying g2,wO q3,goInt,hl]
def zk(E:Env)(kt:Nat)(stop:Prop)(k:TK->Prop):Prop:=aY E.T kt stop fun i=>match i.k with
 | .int j=>k (.int j)
 | .string=>k .string
 | .bool=>k .bool
 | .struct fs=>match y8 kt E.Q with
  |true=>k (.struct fs)
  |false=>stop
 |_=>stop
theorem Fy{kt:Nat}{stop:Prop}{k:TK->Prop}(H:zk E kt stop k):stop\/∃ kd,uE E kt kd/\k kd:=by
 unfold zk at H;rcases bp H with H|⟨i,hi,H⟩
 ·exact .inl H
 split at H
 ·rename_i q;exact .inr ⟨_,q ▸ .plain i hi (by rw[q];trivial),H⟩
 ·rename_i q;exact .inr ⟨_,q ▸ .plain i hi (by rw[q];trivial),H⟩
 ·rename_i q;exact .inr ⟨_,q ▸ .plain i hi (by rw[q];trivial),H⟩
 ·rename_i fs q;split at H
  ·rename_i q2;exact .inr ⟨_,.struct i hi fs q (BZ q2),H⟩
  ·exact .inl H
 ·exact .inl H
def oF(E:Env)(o:Op)(s:List AV)(h:List af)(stop:Prop)(k:AV->List af->Prop):Prop :=
 match o with
 | .makeMap _ none=>lY h (.map []) 0 fun h' n=>k (.map n) h'
 | .lookup t m x ok=>aY E.T t stop fun ti=>match ti.k with
  | .map kt e=>cK E.G s m stop fun
   | .map b=>aY h b stop fun
    | .map es=>cK E.G s x stop fun
     | .d y=>zk E kt stop fun kd=>zf E e kd y es fun v f=>match ok with
      |true=>k (.d (.aK [v,.bool f])) h
      |false=>k (.d v) h
     |_=>stop
    |_=>stop
   |_=>stop
  |_=>stop
 | .call { callee := .builtin .len,args:=args,argTypes:=ts }=>aY args.toList 0 stop fun m=>aY ts.toList 0 stop fun t=>aY E.T t stop fun ti=>match ti.k with
  | .map _ _=>cK E.G s m stop fun
   | .map b=>aY h b stop fun
    | .map es=>k (.d (.int .i64 es.length)) h
    |_=>stop
   |_=>stop
  |_=>stop
 | .mapUpdate t m x v=>aY E.T t stop fun ti=>match ti.k with
  | .map kt _=>cK E.G s m stop fun
   | .map b=>aY h b stop fun
    | .map es=>cK E.G s x stop fun
     | .d y=>cK E.G s v stop fun
      | .d z=>zk E kt stop fun kd=>need (eh E.T kd y/\∀ p∈es,eh E.T kd p.1) (fI h b (.map (cx y z es)) fun h'=>k (.d .undef) h')
      |_=>stop
     |_=>stop
    |_=>stop
   |_=>stop
  |_=>stop
 |_=>stop
theorem Tx(hE:E.OK){o:Op}{stop:Prop}{k:AV->List af->Prop}(H:oF E o s h stop k):stop\/∃ v h',k v h'/\aZ E o s h v h':=by
 unfold oF at H;split at H
 ·rw[nB,Nat.zero_add]at H;exact .inr ⟨_,_,H,Tn⟩
 ·rename_i t m x ok;rcases bp H with H|⟨ti,cm,H⟩
  ·exact .inl H
  split at H
  ·rename_i kt e hk;rcases cL H with H|⟨a,ha,H⟩
   ·exact .inl H
   split at H
   ·rename_i b;rcases bp H with H|⟨bx,hb,H⟩
    ·exact .inl H
    split at H
    ·rename_i es;rcases cL H with H|⟨y,hy,H⟩
     ·exact .inl H
     split at H
     ·rename_i y;rcases Fy H with H|⟨kd,hT,H⟩
      ·exact .inl H
      obtain⟨z,zv,f1,f2,f3,f4,H⟩:=Tp H;have:=Tq (s:=s) hE cm hk hT hb ha hy f1 f2 f3 f4 ok;cases ok with
      |true=>exact .inr ⟨_,_,H,this⟩
      |false=>exact .inr ⟨_,_,H,this⟩
     ·exact .inl H
    ·exact .inl H
   ·exact .inl H
  ·exact .inl H
 ·rename_i args ts;rcases bp H with H|⟨m,hm,H⟩
  ·exact .inl H
  rcases bp H with H|⟨t,ht,H⟩
  ·exact .inl H
  rcases bp H with H|⟨ti,cm,H⟩
  ·exact .inl H
  split at H
  ·rename_i kt e hk;rcases cL H with H|⟨a,ha,H⟩
   ·exact .inl H
   split at H
   ·rename_i b;rcases bp H with H|⟨bx,hb,H⟩
    ·exact .inl H
    split at H
    ·exact .inr ⟨_,_,H,Tv hE hm ht cm hk hb ha⟩
    ·exact .inl H
   ·exact .inl H
  ·exact .inl H
 ·rename_i t m x v;rcases bp H with H|⟨ti,cm,H⟩
  ·exact .inl H
  split at H
  ·rename_i kt e hk;rcases cL H with H|⟨a,ha,H⟩
   ·exact .inl H
   split at H
   ·rename_i b;rcases bp H with H|⟨bx,hb,H⟩
    ·exact .inl H
    split at H
    ·rename_i es;rcases cL H with H|⟨y,hy,H⟩
     ·exact .inl H
     split at H
     ·rename_i y;rcases cL H with H|⟨z,hz,H⟩
      ·exact .inl H
      split at H
      ·rename_i z;rcases Fy H with H|⟨kd,hT,H⟩
       ·exact .inl H
       obtain⟨⟨f1,f2⟩,H⟩:=nF H;rw[gJ]at H;exact .inr ⟨_,_,H,KF hE (.inl rfl) cm hk hT hb ha hy hz f1 f2⟩
      ·exact .inl H
     ·exact .inl H
    ·exact .inl H
   ·exact .inl H
  ·exact .inl H
 ·exact .inl H
def gu(E:Env)(o:Op)(s:List AV)(h:List af)(stop:Prop)(k:AV->List af->Prop):Prop:=ma E.T E.G o s h (sE E o s (oF E o s h stop k) fun v=>k v h) k
theorem uH(hE:E.OK){o:Op}{stop:Prop}{k:AV->List af->Prop}(H:gu E o s h stop k):stop\/∃ v h',k v h'/\aZ E o s h v h':=by
 rcases S5 hE H with H|H
 ·rcases Tc H with H|⟨v,H,ho⟩
  ·exact Tx hE H
  ·exact .inr ⟨v,h,H,ho h⟩
 ·exact .inr H
end
end Go.aA
end
