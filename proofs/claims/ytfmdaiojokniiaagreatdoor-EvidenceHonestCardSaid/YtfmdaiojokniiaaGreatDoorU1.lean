/- Lemmas of mine. Conditions: as stated. -/
import Derived.Test.YtfmdaiojokniiaaGreatDoorU0
import Derived.RangeFuncNested
import Derived.RangeFuncLeaves
import Derived.Laws.AppendOwn
import Derived.Laws.MakeOwn
import Derived.Laws.StructEq
import Derived.Laws.BytesString
import Derived.Lib.ConvBytes
import Derived.WideKeyRuns
import Derived.MapKept
set_option linter.unusedVariables false
set_option linter.unusedSimpArgs false
section
namespace Go.ay
open Go Go.RowKit
inductive aP where
 |code (c:Code)
 |inBlock (id:Nat)
 |inLoop (c:Code)
 |bu (ops:Array Oper) (l:List Oper)
 |pn (l:Nat)
 |ql
def aP.bI:aP->Item
 | .code c => .code c
 | .inBlock id => .inBlock id
 | .inLoop c => .inLoop c
 | .bu ops l => .inRegion ops ((List.range ops.size).drop (ops.size-l.length))
 | .pn l => .inRangeFunc l
 | .ql => .beginRound
def aP.ok:aP->Prop
 | .bu ops l=>∃ n,n<=ops.size/\l=ops.toList.drop n
 |_=>True
structure iP where
 f:FuncId
 cB:Option Nat
 aL:List Nat
def marks(l:List Nat):List Deferred:=l.map fun d=>{ target := .collected d,args := #[] }
structure b8 where
 ag:iP
 todo:List aP
 iB:List AV
def bf(x:iP):Frame:={ (default:Frame)with fn:=x.f,kind := .normal,roundOf:=x.cB }
def b8.bI(f:b8)(t:Array Value):Frame:=(bf f.ag).atR ⟨t,marks f.ag.aL⟩ (f.todo.map aP.bI)
def b8.ok(f:b8):Prop:=∀ i∈f.todo,i.ok
def eL:List b8->List (Array Value)->List Frame
 |f::fs,t::ts=>f.bI t::eL fs ts
 |_,_=>[]
def CR(c:Cx):List b8->List (Array Value)->Prop
 |[],[]=>True
 |f::fs,t::ts=>VS c f.iB t/\f.ok/\CR c fs ts
 |_,_=>False
theorem nQ{c c':Cx}(h:∀ x v,VR c x v->VR c' x v):∀ {fs:List b8} {ts:List (Array Value)},CR c fs ts->CR c' fs ts
 |[],[],_=>trivial
 |_::_,_::_,h'=>⟨⟨h'.1.1,fun i x v hx hv=>h x v (h'.1.2 i x v hx hv)⟩,h'.2.1,nQ h h'.2.2⟩
theorem Step.cr{c c':Cx}(h:Step c c'):∀ {fs:List b8} {ts:List (Array Value)},CR c fs ts->CR c' fs ts
 |[],[],_=>trivial
 |_::_,_::_,h'=>⟨h.vs h'.1,h'.2.1,h.cr h'.2.2⟩
def yp(c0 c:Cx)(i:Nat):af->Prop
 | .cells cs=>(∃ cs',c.heap[i]?=some (.cells cs')/\c.own i=c0.own i/\cs'.length=cs.length)\/c.heap[i]?=some .gone
 | .arr _ ts l=>(∃ g' l',c.heap[i]?=some (.arr g' ts l')/\(0<g'\/g'=0/\l'.length=l.length/\c.own i=c0.own i))\/c.heap[i]?=some .gone
 | .map _=>(∃ dV,c.heap[i]?=some (.map dV)/\c.own i=c0.own i)\/c.heap[i]?=some .gone
 | .gone=>c.heap[i]?=some .gone
 | .hole=>∃ b,c.heap[i]?=some b
structure Rel(c0 c:Cx):Prop where
 az:c.az=c0.az
 os:c.w.os=c0.w.os
 tape:c.w.tape=c0.w.tape
 output:c.w.output=c0.w.output
 size:c0.w.heap.size<=c.w.heap.size
 keep:∀ b,b<c0.w.heap.size->(∀ i n,c0.own i≠some (b,n))->c.w.heap[b]?=c0.w.heap[b]?
 dy:∀ i b n,c.own i=some (b,n)->b<c0.w.heap.size->∃ m,c0.own i=some (b,m)
 boxes:∀ i bx,c0.heap[i]?=some bx->yp c0 c i bx
def wm(h:List af):Prop:=∀ (i g:Nat) (ts:Nat × Nat) (l:List DV),h[i]?=some (.arr g ts l)->g=0
theorem Rel.refl(c:Cx)(hf:wm c.heap):Rel c c:=⟨rfl,rfl,rfl,rfl,Nat.le_refl _,fun _ _ _=>rfl,fun i b n h _=>⟨n,h⟩,fun i bx h=>by
  cases bx with
  |cells cs=>exact .inl ⟨cs,h,rfl,rfl⟩
  |arr g sz l=>exact .inl ⟨g,l,h,.inr ⟨hf i g sz l h,rfl,rfl⟩⟩
  |map es=>exact .inl ⟨es,h,rfl⟩
  |gone=>exact h
  |hole=>exact⟨_,h⟩⟩
theorem Rel.step{c0 c c':Cx}(h:Rel c0 c)(k:Step c c'):Rel c0 c' where
 az:=k.az.trans h.az
 os:=k.os.trans h.os
 tape:=k.tape.trans h.tape
 output:=k.output.trans h.output
 size:=Nat.le_trans h.size k.size
 keep:=fun x hx hn=>by
  rw[k.keep x (Nat.lt_of_lt_of_le hx h.size) (fun i n hi=>by obtain⟨m,hj⟩:=h.dy i x n hi hx;exact hn i m hj)];exact h.keep x hx hn
 dy:=fun i x n hi hx=>by
  obtain⟨m,hj⟩:=k.dy i x n hi (Nat.lt_of_lt_of_le hx h.size);exact h.dy i x m hj hx
 boxes:=fun i bx hi=>by
  have h1:=h.boxes i bx hi;cases bx with
  |cells cs =>
   rcases h1 with⟨cs',h1,h2,h3⟩|h1
   ·rcases k.boxes i _ h1 with⟨DB,k1,k2,k3⟩|k1
    ·exact .inl ⟨DB,k1,k2.trans h2,k3.trans h3⟩
    ·exact .inr k1
   ·exact .inr (k.boxes i _ h1)
  |arr g sz l =>
   rcases h1 with⟨g',l',h1,h2⟩|h1
   ·rcases k.boxes i _ h1 with⟨DD,DE,k1,k2⟩|k1
    ·refine .inl ⟨DD,DE,k1,?_⟩;rcases h2 with h2|⟨h2,h3,h4⟩<;>rcases k2 with k2|⟨k2,k3,k4⟩
     ·left;omega
     ·left;omega
     ·left;omega
     ·exact .inr ⟨k2.trans h2,k3.trans h3,k4.trans h4⟩
    ·exact .inr k1
   ·exact .inr (k.boxes i _ h1)
  |map es =>
   rcases h1 with⟨dV,h1,h2⟩|h1
   ·rcases k.boxes i _ h1 with⟨DF,k1,k2⟩|k1
    ·exact .inl ⟨DF,k1,k2.trans h2⟩
    ·exact .inr k1
   ·exact .inr (k.boxes i _ h1)
  |gone=>exact k.boxes i _ h1
  |hole=>obtain⟨b,h1⟩:=h1;exact(k.boxes i b h1).ex
structure c8(c0 c:Cx):Prop where
 lim:∀ b,c0.az b->b<c0.w.heap.size
 l5:∀ i p,c0.own i=some p->i<c0.heap.length
 az:∀ b,c0.az b->c.az b
 mO:∀ b,c.az b->c0.az b\/c0.w.heap.size<=b
 os:c.w.os=c0.w.os
 tape:c.w.tape=c0.w.tape
 output:c.w.output=c0.w.output
 size:c0.w.heap.size<=c.w.heap.size
 keep:∀ b,b<c0.w.heap.size->(∀ i n,c0.own i≠some (b,n))->c.w.heap[b]?=c0.w.heap[b]?
 dy:∀ i b n,c.own i=some (b,n)->b<c0.w.heap.size->∃ m,c0.own i=some (b,m)
 boxes:∀ i bx,c0.heap[i]?=some bx->yp c0 c i bx
theorem Rel.x{c0 c:Cx}(h:Rel c0 c)(hb:∀ b,c0.az b->b<c0.w.heap.size)(ho:∀ i b n,c0.own i=some (b,n)->b<c0.w.heap.size/\i<c0.heap.length):c8 c0 c:=⟨hb,fun i p hp=>(ho i p.1 p.2 hp).2,fun b h'=>by rw[h.az];exact h',fun b h'=>by rw[h.az]at h';exact .inl h',h.os,h.tape,h.output,h.size,h.keep,h.dy,h.boxes⟩
theorem c8.step{c0 c c':Cx}(h:c8 c0 c)(k:Step c c'):c8 c0 c':=by
 have h1:Rel ({ c0 with az:=c.az }) c:=⟨rfl,h.os,h.tape,h.output,h.size,h.keep,h.dy,fun i bx hi=>by
  have:=h.boxes i bx hi
  cases bx<;>exact this⟩
 have h2:=h1.step k
 exact⟨h.lim,h.l5,fun b hb=>by rw[k.az];exact h.az b hb,fun b hb=>by rw[k.az]at hb;exact h.mO b hb,h2.os,h2.tape,h2.output,h2.size,h2.keep,h2.dy,fun i bx hi=>by
  have:=h2.boxes i bx hi
  cases bx<;>exact this⟩
def Cx.rX(c:Cx)(az:Nat->Prop):Cx:={ c with az:=az }
theorem c8.clean{c0 c:Cx}(h:c8 c0 c):Rel c0 (c.rX c0.az):=⟨rfl,h.os,h.tape,h.output,h.size,h.keep,h.dy,fun i bx hi=>by
 have:=h.boxes i bx hi
 cases bx<;>exact this⟩
theorem l6{c c':Cx}{i:Nat}{bx:af}(h1:c.heap[i]?=some bx)(h2:c'.heap[i]?=c.heap[i]?)(h3:c'.own i=c.own i):tG c c' i bx:=by
 rw[h1]at h2;cases bx with
 |cells cs=>exact .inl ⟨cs,h2,h3,rfl⟩
 |arr g sz l=>exact .inl ⟨g,l,h2,.inr ⟨rfl,rfl,h3⟩⟩
 |map es=>exact .inl ⟨es,h2,h3⟩
 |gone=>exact h2
 |hole=>exact⟨_,h2⟩
theorem jG.gen{c c':Cx}(iC:∀ x v,VR c x v->VR c' x v)(fh:∀ x v,VD c.bad c.w x v->VD c'.bad c'.w x v){i:Nat}{bx:af}(hb:jG c i bx)(ho:c'.own i=c.own i)(hw:∀ b n,c.own i=some (b,n)->c'.w.heap[b]?=c.w.heap[b]?):jG c' i bx:=by
 cases bx with
 |cells cs =>
  obtain⟨blk,cap,vs,ty,h1,h2,h3,h4⟩:=hb;exact⟨blk,cap,vs,ty,ho.trans h1,(hw blk cap h1).trans h2,h3,fun j x v hx hv=>iC x v (h4 j x v hx hv)⟩
 |arr g ts l =>
  obtain⟨h0,h1,h2⟩:=hb;refine⟨h0,h1,?_⟩;rcases h2 with⟨h2,h3⟩|⟨blk,cap,vs,h2,h3,h4,h5,h6,h7⟩
  ·exact .inl ⟨ho.trans h2,h3⟩
  ·refine .inr ⟨blk,cap,vs,ho.trans h2,(hw blk cap h2).trans h3,h4,h5,h6,fun i j e x he hx=>?_⟩;obtain⟨v,h8,yf,h9⟩:=h7 i j e x he hx;exact⟨v,h8,yf,fh x v h9⟩
 |map es =>
  obtain⟨blk,cap,en,ck,h1,h2,h3,h4⟩:=hb;exact⟨blk,cap,en,ck,ho.trans h1,(hw blk cap h1).trans h2,h3,fun j k x m hx hm=>⟨fh _ _ (h4 j k x m hx hm).1,fh _ _ (h4 j k x m hx hm).2⟩⟩
 |gone=>exact ho.trans hb
 |hole=>exact ho.trans hb
theorem IF{c:Cx}{az:Nat->Prop}(hb:∀ b,az b->c.az b)(b:Nat)(_:b<c.w.heap.size)(hn:¬ c.bad b):¬ (c.rX az).bad b/\(c.rX az).w.heap[b]?=c.w.heap[b]? :=
 ⟨fun h=>hn (h.elim (fun h => .inl (hb b h)) .inr),rfl⟩
theorem D3{c:Cx}{az:Nat->Prop}(hb:∀ b,az b->c.az b){x:AV}{v:Value}(hv:VR c x v):VR (c.rX az) x v:=rQ (IF hb) (fun _ _ hi=>l6 hi rfl rfl) hv
theorem aK.rX{G:List (Nat × DV)}{c:Cx}{az:Nat->Prop}(ho:aK G c)(hb:∀ b,az b->c.az b):aK G (c.rX az) where
 bQ:=fun b h=>ho.bQ b (hb b h)
 bA:=ho.bA
 inj:=ho.inj
 sep:=fun i b n hi h=>ho.sep i b n hi (hb b h)
 box:=fun i bx hi=>(ho.box i bx hi).gen (fun _ _=>D3 hb) (fun _ _ hv=>hv.mono (IF hb)) rfl (fun _ _ _=>rfl)
 fJ:=fun g e hg=>D3 hb (ho.fJ g e hg)
structure Row where
 blk:Nat
 cap:Nat
 ts:Nat × Nat
 l:List DV
structure l7(lim:Nat)(c:Cx)(r:Row):Prop where
 az:c.az r.blk
 new:lim<=r.blk
 pos:0<r.ts.2
 len:∀ (i:Nat) (e:DV),r.l[i]?=some e->e.cells.length=r.ts.2
 mem:∃ vs:Array Value,c.w.heap[r.blk]?=some (.cells vs r.ts.1 (0,0))/\vs.size=r.cap*r.ts.2/\r.l.length<=r.cap/\r.cap<=maxLen /\
  ∀ (i j:Nat) (e x:DV),r.l[i]?=some e->e.cells[j]?=some x->∃ v,vs[i*r.ts.2+j]?=some v/\v.oneCell'=true/\VD c.bad c.w x v
structure Iter where
 bm:Nat
 r:Nat
 en:Array MapEntry
 ck:Nat
 since:Nat
 seen:List Nat
 es:List (DV × DV)
structure l8(lim:Nat)(c:Cx)(i:Iter):Prop where
 D4:c.az i.bm
 yq:c.az i.r
 IG:lim<=i.r
 map:c.w.heap[i.bm]?=some (.map i.en i.ck)
 iter:∃ c0,i.since<=c0/\(i.seen≠[]->c0=i.ck)/\c.w.heap[i.r]?=some (.mapIter (some i.bm) i.since ((i.seen.map fun j=>((i.en[j]?).map (·.born)).getD 0).toArray) c0)
 old:∀ x∈i.en.toList,x.born<i.since
 cC:nM i.en i.ck i.es.length
 val:∀ (j:Nat) (k x:DV) (m:MapEntry),i.es[j]?=some (k,x)->i.en[j]?=some m->VD c.bad c.w k m.key/\VD c.bad c.w x m.val
 lt:∀ j∈i.seen,j<i.en.size
structure kz where
 l:Nat
 d:Nat
 st:LoopState
 pe:Option Code
 fn:FuncId
 tm:Array Value
 ps:Array Tmp
 assign:Code
 body:Code
 iB:List AV
def kz.eV(i:kz):Loop:={ state:=i.st,pending:=i.pe,fn:=i.fn,tmps:=i.tm,params:=i.ps,assign:=i.assign,body:=i.body,defers:=i.d }
structure nR(lim:Nat)(c:Cx)(i:kz):Prop where
 az:c.az i.l
 new:lim<=i.l
 mem:c.w.heap[i.l]?=some (.loop i.eV)
 iB:VS c i.iB i.tm
structure rY(lim:Nat)(c:Cx)(d:Nat):Prop where
 az:c.az d
 new:lim<=d
 mem:c.w.heap[d]?=some (.deferred (some []))
inductive bk where
 |row (r:Row)
 |iter (i:Iter)
 |loop (i:kz)
 |mark (d:Nat)
def bk.cj:bk->List Nat
 | .row r=>[r.blk]
 | .iter i=>[i.bm,i.r]
 | .loop i=>[i.l]
 | .mark d=>[d]
def iQ(lim:Nat)(c:Cx):bk->Prop
 | .row r=>l7 lim c r
 | .iter i=>l8 lim c i
 | .loop i=>nR lim c i
 | .mark d=>rY lim c d
structure gu(lim:Nat)(c:Cx)(rows:List bk):Prop where
 each:∀ r∈rows,iQ lim c r
 nodup:(rows.flatMap bk.cj).Nodup
theorem gu.nil{lim:Nat}{c:Cx}:gu lim c []:=⟨fun r hr=>by simp at hr,List.nodup_nil⟩
theorem l7.gen{lim:Nat}{c c':Cx}{r:Row}(h:l7 lim c r)(hb:c'.az r.blk)(hw:c'.w.heap[r.blk]?=c.w.heap[r.blk]?)(fh:∀ x v,VD c.bad c.w x v->VD c'.bad c'.w x v):l7 lim c' r:=by
 obtain⟨h1,h2,h3,h4,vs,h5,h6,h7,h8,h9⟩:=h;exact⟨hb,h2,h3,h4,vs,hw.trans h5,h6,h7,h8,fun i j e x he hx=>by obtain⟨v,k1,k2,k3⟩:=h9 i j e x he hx;exact⟨v,k1,k2,fh x v k3⟩⟩
theorem l8.gen{lim:Nat}{c c':Cx}{i:Iter}(h:l8 lim c i)(hb:c'.az i.bm)(hr:c'.az i.r)(hw:c'.w.heap[i.bm]?=c.w.heap[i.bm]?)(tS:c'.w.heap[i.r]?=c.w.heap[i.r]?)(fh:∀ x v,VD c.bad c.w x v->VD c'.bad c'.w x v):l8 lim c' i:=by
 obtain⟨h1,h2,h3,h4,h5,h6,h7,h8,h9⟩:=h;exact⟨hb,hr,h3,hw.trans h4,(by obtain⟨c0,k1,k0,k2⟩:=h5;exact⟨c0,k1,k0,tS.trans k2⟩),h6,h7,fun j k x m h1 h2=>⟨fh _ _ (h8 j k x m h1 h2).1,fh _ _ (h8 j k x m h1 h2).2⟩,h9⟩
theorem iQ.az{lim:Nat}{c:Cx}:∀ {g:bk},iQ lim c g->∀ b∈g.cj,c.az b
 | .row r,h,b,hb=>by simp[bk.cj]at hb;subst hb;exact l7.az h
 | .iter i,h,b,hb=>by simp[bk.cj]at hb;rcases hb with rfl|rfl;exact l8.D4 h;exact l8.yq h
 | .loop i,h,b,hb=>by simp[bk.cj]at hb;subst hb;exact nR.az h
 | .mark d,h,b,hb=>by simp[bk.cj]at hb;subst hb;exact rY.az h
theorem iQ.gen{lim:Nat}{c c':Cx}{g:bk}(h:iQ lim c g)(hb:∀ b∈g.cj,c'.az b/\c'.w.heap[b]?=c.w.heap[b]?)(fh:∀ x v,VD c.bad c.w x v->VD c'.bad c'.w x v)(iC:∀ x v,VR c x v->VR c' x v):iQ lim c' g:=by
 cases g with
 |loop i =>
  obtain⟨h1,h2,h3,h4⟩:=h;have:=hb i.l (by simp[bk.cj]);exact⟨this.1,h2,this.2.trans h3,h4.1,fun j x v hx hv=>iC x v (h4.2 j x v hx hv)⟩
 |mark d =>
  obtain⟨h1,h2,h3⟩:=h;have:=hb d (by simp[bk.cj]);exact⟨this.1,h2,this.2.trans h3⟩
 |row r=>exact l7.gen h (hb _ (by simp[bk.cj])).1 (hb _ (by simp[bk.cj])).2 fh
 |iter i=>exact l8.gen h (hb i.bm (by simp[bk.cj])).1 (hb i.r (by simp[bk.cj])).1 (hb i.bm (by simp[bk.cj])).2 (hb i.r (by simp[bk.cj])).2 fh
theorem gu.step{G:List (Nat × DV)}{lim:Nat}{c c':Cx}{rows:List bk}(h:gu lim c rows)(ho:aK G c)(st:Step c c'):gu lim c' rows :=
 ⟨fun r hr=>(h.each r hr).gen (fun b hb=>by
  have h1:=(h.each r hr).az b hb
  exact⟨by rw[st.az];exact h1,st.keep b (ho.bQ _ h1) (fun i n hi=>ho.sep i _ n hi h1)⟩) (fun _ _=>st.vd) (fun _ _=>st.vr),h.nodup⟩
def bk.flat:bk->Prop
 | .loop _=>False
 |_=>True
structure cR(lim:Nat)(c:Cx)(rows loops:List bk):Prop where
 all:gu lim c (rows++loops)
 flat:∀ g∈rows,g.flat
theorem cR.nil{lim:Nat}{c:Cx}:cR lim c [] []:=⟨.nil,fun g h=>by simp at h⟩
theorem cR.step{G:List (Nat × DV)}{lim:Nat}{c c':Cx}{rows loops:List bk}(h:cR lim c rows loops)(ho:aK G c)(st:Step c c'):cR lim c' rows loops:=⟨h.all.step ho st,h.flat⟩
structure FX where
 f0:FuncId
 cB:Option Nat
 aL:List Nat
 cls:List b8
 loops:List bk
 inl:List FuncId
structure cF where
 n:Nat
 Q:AV->List af->Prop
 rows:List bk
 fx:FX
@[irreducible] def AW (E : Env) (f0 : FuncId) (cur : b8) (cls : List b8) (h : List af) (R : cF) : Prop :=
 ∀ (c0 c:Cx) (t:Array Value) (ts:List (Array Value)),c0.heap.length=R.n->cur.ok->c.heap=h->aK E.G c->c8 c0 c->cR c0.w.heap.size c R.rows R.fx.loops->VS c cur.iB t->CR c cls ts->∀ cs,∃ (c':Cx) (fr:Frame) (r:AV) (v:Value),
  R.Q r c'.heap/\VR c' r v/\aK E.G c'/\c8 c0 c'/\Steps E.P (lone (cur.bI t) (eL cls ts++cs) c.w) (lone fr cs c'.w)/\fr.fn=f0/\fr.leaving E.P c'.w (.returned v)
def D5(E:Env)(cur:b8)(cls:List b8)(h:List af)(cur':b8)(cls':List b8)(h':List af):Prop :=
 ∀ (c:Cx) (t:Array Value) (ts:List (Array Value)),cur.ok->c.heap=h->aK E.G c->VS c cur.iB t->CR c cls ts->∃ (c':Cx) (t':Array Value) (ew:List (Array Value)),
  cur'.ok/\c'.heap=h'/\aK E.G c'/\VS c' cur'.iB t'/\CR c' cls' ew/\Step c c'/\∀ cs,Steps E.P (lone (cur.bI t) (eL cls ts++cs) c.w) (lone (cur'.bI t') (eL cls' ew++cs) c'.w)
theorem AW.kA{E:Env}{f0:FuncId}{cur cur':b8}{cls cls':List b8}{h h':List af}{R:cF}(hl:D5 E cur cls h cur' cls' h')(H:AW E f0 cur' cls' h' R):AW E f0 cur cls h R:=by
 unfold AW at H ⊢;intro c0 c t ts h0 h1 h2 h3 hr bq h4 h5 cs;obtain⟨c',t',ew,k1,k2,k3,k4,k5,k6,k7⟩:=hl c t ts h1 h2 h3 h4 h5;obtain⟨c2,fr,r,v,e1,e2,e3,e4,e5,e6⟩:=H c0 c' t' ew h0 k1 k2 k3 (hr.step k6) (bq.step h3 k6) k4 k5 cs;exact⟨c2,fr,r,v,e1,e2,e3,e4,(k7 cs).trans e5,e6⟩
section
variable {E:Env} {f0:FuncId} {ag:iP} {k:List aP} {s:List AV} {cls:List b8} {h:List af} {R:cF}
theorem D5.todo{td D6:List aP}(aM:(∀ i∈td,i.ok)->∀ i∈D6,i.ok)(hs:∀ (a:Act) (cs:List Frame) (w:World),step E.P (lone ((bf ag).atR a (td.map aP.bI)) cs w)=.next (lone ((bf ag).atR a (D6.map aP.bI)) cs w)) :
  D5 E ⟨ag,td,s⟩ cls h ⟨ag,D6,s⟩ cls h:=fun c t ts h1 h2 h3 h4 h5 =>
 ⟨c,t,ts,aM h1,h2,h3,h4,h5,Step.refl c h3.bQ,fun _ => .one (hs _ _ _)⟩
theorem dZ{i:aP}(h:∀ j∈i::k,j.ok):∀ j∈k,j.ok:=fun j hj=>h j (List.mem_cons_of_mem _ hj)
theorem wo{c:Code}:(aP.code c).ok:=trivial
theorem Qb{n:Nat}:(aP.inBlock n).ok:=trivial
theorem II{c:Code}:(aP.inLoop c).ok:=trivial
theorem gC{i:aP}(h:i.ok)(hk:∀ j∈k,j.ok):∀ j∈i::k,j.ok:=fun j hj=>by
 rcases List.mem_cons.1 hj with rfl|hj
 ·exact h
 ·exact hk j hj
theorem AW.skip(H:AW E f0 ⟨ag,k,s⟩ cls h R):AW E f0 ⟨ag,.code .skip::k,s⟩ cls h R := .kA (.todo dZ fun _ _ _=>stepR_skip) H
theorem AW.inBlock{id:Nat}(H:AW E f0 ⟨ag,k,s⟩ cls h R):AW E f0 ⟨ag,.inBlock id::k,s⟩ cls h R := .kA (.todo dZ fun _ _ _=>stepR_inBlock) H
theorem AW.seq{a b:Code}(H:AW E f0 ⟨ag,.code a :: .code b::k,s⟩ cls h R):AW E f0 ⟨ag,.code (.seq a b)::k,s⟩ cls h R := .kA (.todo (fun h=>gC wo (gC wo (dZ h))) fun _ _ _=>stepR_seq) H
theorem AW.block{id:Nat}{b:Code}(H:AW E f0 ⟨ag,.code b :: .inBlock id::k,s⟩ cls h R):AW E f0 ⟨ag,.code (.block id b)::k,s⟩ cls h R := .kA (.todo (fun h=>gC wo (gC Qb (dZ h))) fun _ _ _=>stepR_block) H
theorem AW.loop{b:Code}(H:AW E f0 ⟨ag,.code b :: .inLoop b::k,s⟩ cls h R):AW E f0 ⟨ag,.code (.loop b)::k,s⟩ cls h R := .kA (.todo (fun h=>gC wo (gC II (dZ h))) fun _ _ _=>stepR_loop) H
theorem AW.inLoop{b:Code}(H:AW E f0 ⟨ag,.code b :: .inLoop b::k,s⟩ cls h R):AW E f0 ⟨ag,.inLoop b::k,s⟩ cls h R := .kA (.todo (fun h=>gC wo (gC II (dZ h))) fun _ _ _=>stepR_inLoop) H
theorem AW.region{id:Nat}{ops:Array Oper}(H:AW E f0 ⟨ag,.bu ops ops.toList::k,s⟩ cls h R):AW E f0 ⟨ag,.code (.region id ops false)::k,s⟩ cls h R :=
 .kA (.todo (fun h=>gC (i := .bu ops ops.toList) ⟨0,by simp,by simp⟩ (dZ h)) fun a cs w=>by
  rw[List.map_cons,List.map_cons];simp only[aP.bI];rw[stepR_region]
  simp) H
theorem AW.Qc{ops:Array Oper}(H:AW E f0 ⟨ag,k,s⟩ cls h R):AW E f0 ⟨ag,.bu ops []::k,s⟩ cls h R :=
 .kA (.todo dZ fun a cs w=>by
  rw[List.map_cons];simp only[aP.bI,List.length_nil,Nat.sub_zero]
  rw[List.drop_of_length_le (by simp),stepR_region_end]) H
def mP(id:Nat):List aP->Option (List aP)
 | .inBlock i::r=>match Nat.beq i id with
  |true=>some r
  |false=>mP id r
 |_::r=>mP id r
 |[]=>none
theorem tT{id:Nat}:∀ {l r:List aP},mP id l=some r->exitTo id (l.map aP.bI)=some (r.map aP.bI)
 | .inBlock i::l,r,hl=>by
  simp only[mP]at hl;simp only[List.map_cons,aP.bI,exitTo];split at hl
  ·rename_i q;cases hl;rw[if_pos (by simpa using Nat.eq_of_beq_eq_true q)]
  ·rename_i q
   rw[if_neg (by intro hh;have : i=id := by simpa using hh
                 rw[this, Nat.beq_refl]at q;cases q)]
   exact tT hl
 | .code c::l,r,hl=>tT (l:=l) hl
 | .inLoop c::l,r,hl=>tT (l:=l) hl
 | .pn c::l,r,hl=>tT (l:=l) hl
 | .ql::l,r,hl=>tT (l:=l) hl
 | .bu ops q::l,r,hl=>tT (l:=l) hl
theorem tU{id:Nat}:∀ {l r:List aP},mP id l=some r->(∀ i∈l,i.ok)->∀ i∈r,i.ok
 | .inBlock i::l,r,hl,hk=>by
  simp only[mP]at hl;split at hl
  ·cases hl;exact dZ hk
  ·exact tU hl (dZ hk)
 | .code c::l,r,hl,hk=>tU (l:=l) hl (dZ hk)
 | .inLoop c::l,r,hl,hk=>tU (l:=l) hl (dZ hk)
 | .pn c::l,r,hl,hk=>tU (l:=l) hl (dZ hk)
 | .ql::l,r,hl,hk=>tU (l:=l) hl (dZ hk)
 | .bu ops q::l,r,hl,hk=>tU (l:=l) hl (dZ hk)
theorem AW.exit{id:Nat}{r:List aP}(hr:mP id k=some r)(H:AW E f0 ⟨ag,r,s⟩ cls h R):AW E f0 ⟨ag,.code (.exit id)::k,s⟩ cls h R :=
 .kA (.todo (fun h=>tU hr (dZ h)) fun _ _ _=>stepR_exit (tT hr)) H
theorem AW.cond{x:Operand}{a b:Code}{t:Bool}(hx:aZ E.G s x (.d (.bool t)))(H:AW E f0 ⟨ag,.code (if t then a else b)::k,s⟩ cls h R):AW E f0 ⟨ag,.code (.cond x a b)::k,s⟩ cls h R :=
 .kA (cur':=⟨ag,.code (if t then a else b)::k,s⟩) (cls':=cls) (h':=h) (fun c t' ts h1 h2 h3 h4 h5=>⟨c,t',ts,gC wo (dZ h1),h2,h3,h4,h5,Step.refl c h3.bQ,fun _ => .one (stepR_cond (tN (hx c ⟨t',marks ag.aL⟩ h3 h4)))⟩) H
theorem mQ{ops:Array Oper}{o:Oper}{l:List Oper}(hk:(aP.bu ops (o::l)).ok):∃ i,ops[i]?=some o/\(aP.bu ops (o::l)).bI=.inRegion ops (i::(List.range ops.size).drop (ops.size-l.length))/\(aP.bu ops l).ok:=by
 obtain⟨n,h1,h2⟩:=hk;have h3:(ops.toList.drop n).length=l.length+1:=by rw[<- h2];rfl
 have h4:ops.size-n=l.length+1:=by simpa using h3
 have hn:n<ops.size:=by omega
 refine⟨n,?_,?_,n+1,by omega,?_⟩
 ·have:=congrArg (·[0]?) h2;simp at this
  simpa using this.symm
 ·simp only[aP.bI,List.length_cons]
  congr 1
  rw[show ops.size-(l.length+1)=n by omega,show ops.size-l.length=n+1 by omega];rw[List.drop_eq_getElem_cons (by simpa using hn)];simp
 ·have:=congrArg List.tail h2
  simpa using this
theorem rZ{P:Program}{o:Oper}{ρ : Operand->Value}{ro:Option Nat}{w w':World}{n:Next}(h:(execOp ρ o).run P w=.ok n w')(hn:∀ d,n ≠ .defer d):(o.semAt ro ρ).run P w=.ok n w':=by
 rw[Oper.semAt_eq]
 ·exact h
 ·intro c hc;simp only[execOp,hc,Sem.run_bind]at h;cases hr:(resolve ρ c o.type).run P w with
  |ok d w1 =>
   rw[hr]at h;simp only[Result.andThen_ok,Sem.run_pure]at h;cases h;exact hn d rfl
  |halt a b=>rw[hr]at h;cases h
theorem wq{P:Program}{b:Frame}{a:Act}{k:List Item}{cs:List Frame}{w w':World}{ops:Array Oper}{i:Nat}{rest:List Nat}{o:Oper}{v:Value}(ho:ops[i]?=some o)(hw:Region.wanted o (yielded ops a.tmps)=true)(hd:DO P o a w v w') :
  step P (lone (b.atR a (.inRegion ops (i::rest)::k)) cs w)=.next (lone (b.atR (a.put o.dst v) (.inRegion ops rest::k)) cs w'):=by
 have hg:=stepGR_op (P:=P) (b:=b) (k:=k) (cs:=cs) (w:=w) (rest:=rest) ho hw;have gv:∀ v,(b.atR a (.inRegion ops (i::rest)::k)).finish v=b.atR (a.put o.dst v) (.inRegion ops rest::k):=by
  intro v;rw[Frame.finish_atR,ho];rfl
 rcases hd with hr|⟨hr,rfl⟩
 ·exact step_lone_go (by rw[hg,<- gv];simp[stepG.apply,rZ hr])
 ·exact step_lone_go (by rw[hg,<- gv];simp[stepG.apply,rZ hr])
def bX(s:List AV)(d:Option Nat)(v:AV):List AV:=match d with
 |some d=>s.set d v
 |none=>s
theorem dP{α:Sort _}(s:List AV)(d:Option Nat)(v:AV)(k:List AV->α):cd s d v k=k (bX s d v):=by
 cases d with
 |none=>rfl
 |some d=>simp only[cd,gq,bX]
theorem VS.bX{c:Cx}{a:Act}(hs:VS c s a.tmps)(d:Option Nat){x:AV}{v:Value}(hv:VR c x v):VS c (bX s d x) (a.put d v).tmps:=by
 cases d with
 |none=>exact hs
 |some d=>exact hs.put d hv
theorem put_defers(a:Act)(d:Option Nat)(v:Value):(a.put d v)=⟨(a.put d v).tmps,a.defers⟩:=by cases d<;>rfl
def gW(ops:Array Oper)(o:Oper)(s:List AV)(b:Bool):Prop:=∀ (c:Cx) (t:Array Value),VS c s t->Region.wanted o (yielded ops t)=b
theorem fS{ops:Array Oper}{o:Oper}(h:o.guard=none):gW ops o s true:=fun _ _ _=>by simp[Region.wanted,h]
theorem wu{ops:Array Oper}{o oj:Oper}{j d:Nat}{g b:Bool}(h:o.guard=some (j,g))(hj:ops.toList[j]?=some oj)(hd:oj.dst=some d)(hs:s[d]?=some (.d (.bool b))):gW ops o s (b==g):=fun c t hv=>by
 have gX:d<t.size:=by
  rw[<- hv.1];rcases Nat.lt_or_ge d s.length with h|h
  ·exact h
  ·rw[List.getElem?_eq_none h]at hs;cases hs
 have ht:t[d]?=some (.bool b):=by
  rw[Array.getElem?_eq_getElem gX,tN (hv.2 d _ _ hs (Array.getElem?_eq_getElem gX))]
 have eK:ops[j]?=some oj:=by simpa using hj
 simp only[Region.wanted,h,yielded,eK,hd,Option.bind_some,ht];cases b<;>cases g<;>rfl
theorem IJ{ops:Array Oper}{o oj:Oper}{j d:Nat}{g:Bool}(h:o.guard=some (j,g))(hj:ops.toList[j]?=some oj)(hd:oj.dst=some d)(hs:s[d]?=some (.d .undef)):gW ops o s false:=fun c t hv=>by
 have gX:d<t.size:=by
  rw[<- hv.1];rcases Nat.lt_or_ge d s.length with h|h
  ·exact h
  ·rw[List.getElem?_eq_none h]at hs;cases hs
 have ht:t[d]?=some Go.undef:=by
  have:=hv.2 d _ _ hs (Array.getElem?_eq_getElem gX);rw[Array.getElem?_eq_getElem gX];generalize t[d]=u at this;cases this with
  |d _ _ hx=>cases hx;rfl
 have eK:ops[j]?=some oj:=by simpa using hj
 simp only[Region.wanted,h,yielded,eK,hd,Option.bind_some,ht];rfl
theorem AW.op{ops:Array Oper}{o:Oper}{l:List Oper}{v:AV}{h':List af}(hw:gW ops o s true)(ho:bw E o.op s h v h')(H:AW E f0 ⟨ag,.bu ops l::k,bX s o.dst v⟩ cls h' R):AW E f0 ⟨ag,.bu ops (o::l)::k,s⟩ cls h R :=
 .kA (fun c t ts h1 h2 h3 h4 h5=>by
  obtain⟨i,hi,hc,aM⟩:=mQ (h1 _ (List.mem_cons_self ..));obtain⟨c',u,k1,k2,k3,k4,k5⟩:=ho o c ⟨t,marks ag.aL⟩ rfl h2 h3 h4;refine⟨c',((⟨t,marks ag.aL⟩:Act).put o.dst u).tmps,ts,gC aM (dZ h1),k2,k3,VS.bX (a:=⟨t,marks ag.aL⟩) (k5.vs h4) o.dst k4,k5.cr h5,k5,fun cs => .one ?_⟩;simp only[b8.bI,List.map_cons,hc];rw[wq hi (hw c t h4) k1,put_defers]
  rfl) H
theorem AW.IK{ops:Array Oper}{o:Oper}{l:List Oper}(hw:gW ops o s false)(H:AW E f0 ⟨ag,.bu ops l::k,bX s o.dst (.d .undef)⟩ cls h R):AW E f0 ⟨ag,.bu ops (o::l)::k,s⟩ cls h R :=
 .kA (fun c t ts h1 h2 h3 h4 h5=>by
  obtain⟨i,hi,hc,aM⟩:=mQ (h1 _ (List.mem_cons_self ..));refine⟨c,((⟨t,marks ag.aL⟩:Act).put o.dst Go.undef).tmps,ts,gC aM (dZ h1),h2,h3,VS.bX (a:=⟨t,marks ag.aL⟩) h4 o.dst (.d _ _ .undef),h5,Step.refl c h3.bQ,fun cs => .one ?_⟩;simp only[b8.bI,List.map_cons,hc];rw[stepR_op_skip (by simp[hi];exact hw c t h4)];simp only[hi,Option.bind_some];rw[put_defers]
  rfl) H
end
end Go.ay
end
section
namespace Go.ay
open Go Go.RowKit
def jI(bad:Nat->Prop)(w:World)(l:List DV)(vs:List Value):Prop:=l.length=vs.length/\∀ (j:Nat) (x:DV) (v:Value),l[j]?=some x->vs[j]?=some v->VD bad w x v
def tV(G:List (Nat × DV))(az:Nat->Prop)(w:World):Prop:=∀ g e,(g,e)∈G->VR ⟨fun _=>none,[],az,w⟩ (.bO e 0) (.pointer (some ⟨g,0,none⟩))
def lq (P : Program) (f : FuncId) : Prop := ∃ fn, P.funcs[f]? = some fn /\ fn.body.isNone = false /\ (fn.name == "runtime.NumGoroutine") = false
@[irreducible] def aq (E : Env) (f : FuncId) (args : List DV) (R : DV -> Prop) : Prop :=
 lq E.P f/\∀ (az:Nat->Prop) (w:World) (vs:List Value),(∀ b,az b->b<w.heap.size)->tV E.G az w->jI az w args vs ->
  Calls E.P f vs.toArray w fun e w'=>∃ v r,e=.returned v/\R r/\VD az w' r v/\Proofs.YtfmdaiojokniiaaGreatDoor.Ext w w'
theorem wv{az:Nat->Prop}{w:World}{h:List af}{b:Nat}:(⟨fun _=>none,h,az,w⟩:Cx).bad b↔az b :=
 ⟨fun hb=>hb.elim id (fun⟨_,_,h⟩=>(by cases h)),.inl⟩
theorem wx{az:Nat->Prop}{w:World}{h:List af}{x:DV}{v:Value}(hv:VD az w x v):VD (⟨fun _=>none,h,az,w⟩:Cx).bad w x v :=
 hv.mono fun _ _ hn=>⟨fun hb=>hn (wv.1 hb),rfl⟩
theorem aq.mono{E:Env}{f:FuncId}{args:List DV}{R R':DV->Prop}(H:aq E f args R)(hr:∀ r,R r->R' r):aq E f args R':=by
 unfold aq at H ⊢;exact⟨H.1,fun az w vs h1 h2 h3=>(H.2 az w vs h1 h2 h3).mono fun e w' ⟨v,r,k1,k2,k3,k4⟩=>⟨v,r,k1,hr r k2,k3,k4⟩⟩
def nS(args:List AV)(n:Nat):List AV:=args++List.replicate (n-args.length) (.d .undef)
theorem D7{c:Cx}{args:List AV}{vs:List Value}(n:Nat)(hv:VL c args vs):VS c (nS args n) (vs.toArray++Array.replicate (n-vs.toArray.size) undef):=by
 have hl:=hv.1;refine⟨by simp[nS,hl],fun i x v hx hu=>?_⟩;simp only[nS]at hx;rcases Nat.lt_or_ge i args.length with hi|hi
 ·rw[List.getElem?_append_left hi]at hx;rw[Array.getElem?_append_left (by simp;omega)]at hu;exact hv.2 i x v hx (by simpa using hu)
 ·rw[List.getElem?_append_right hi,List.getElem?_replicate]at hx;rw[Array.getElem?_append_right (by simp;omega)]at hu;split at hx
  ·cases hx;simp[Array.getElem?_replicate]at hu;obtain⟨-,rfl⟩:=hu;exact .d _ _ .undef
  ·cases hx
section
variable {E:Env} {f0:FuncId} {ag:iP} {k:List aP} {s:List AV} {cls:List b8} {h:List af} {R:cF}
theorem Rel.ext{c0 c:Cx}(h:Rel c0 c)(hn:∀ i,c0.own i=none):Proofs.YtfmdaiojokniiaaGreatDoor.Ext c0.w c.w:=⟨h.os,h.tape,h.output,h.size,fun b hb=>h.keep b hb (fun i n hi=>by rw[hn i]at hi;cases hi)⟩
@[irreducible] def ar (E : Env) (f : FuncId) (h : List af) (args : List AV) (Q : AV -> List af -> Prop) : Prop :=
 lq E.P f/\wm h/\∀ (c:Cx) (vs:List Value),c.heap=h->aK E.G c->VL c args vs ->
  Calls E.P f vs.toArray c.w fun e w'=>∃ (c':Cx) (r:AV) (v:Value),e=.returned v/\c'.w=w'/\Q r c'.heap/\VR c' r v/\aK E.G c'/\Rel c c'
theorem ar.mono{E:Env}{f:FuncId}{h:List af}{args:List AV}{Q Q':AV->List af->Prop}(H:ar E f h args Q)(hq:∀ r h,Q r h->Q' r h):ar E f h args Q':=by
 unfold ar at H ⊢;exact⟨H.1,H.2.1,fun c vs h1 h2 h3=>(H.2.2 c vs h1 h2 h3).mono fun e w' ⟨c',r,v,k1,k2,k3,k4⟩=>⟨c',r,v,k1,k2,hq _ _ k3,k4⟩⟩
theorem ar.IL {f : FuncId} {fn : Func} {body : Code} {args : List AV} {Q : AV -> List af -> Prop} (hf : E.P.funcs[f]? = some fn) (hb : fn.body = some body) (hn : (fn.name == "runtime.NumGoroutine") = false) (l9 : wm h)
  (H:AW E f ⟨⟨f,none,[]⟩,[.code body],nS args fn.ntmps⟩ [] h ⟨h.length,Q,[],⟨f,none,[],[],[],[]⟩⟩):ar E f h args Q:=by
 unfold AW at H;unfold ar;refine⟨⟨fn,hf,by rw[hb];rfl,hn⟩,l9,fun c vs h1 h2 h3=>?_⟩;intro cs;obtain⟨c',fr,r,v,e1,e2,e3,e4,e5,e6,e7⟩:=H c c _ [] (by rw[h1]) (fun i hi=>by simp at hi;subst hi;trivial) h1 h2 ((Rel.refl c (by rw[h1];exact l9)).x h2.bQ h2.bA) .nil (D7 fn.ntmps h3) trivial cs;refine⟨.returned v,c'.w,fr,⟨c'.rX c.az,r,v,rfl,rfl,e1,D3 e4.az e2,e3.rX e4.az,e4.clean⟩,?_,e6,e7⟩;have Qd:Frame.enter E.P f vs.toArray .normal=(⟨⟨f,none,[]⟩,[.code body],nS args fn.ntmps⟩:b8).bI (vs.toArray++Array.replicate (fn.ntmps-vs.toArray.size) undef):=by
  simp[Frame.enter,b8.bI,Frame.atR,hf,hb,bf,aP.bI,marks]
 show Steps E.P _ _;rw[Qd];exact e5
theorem yr{P:Program}{o:Oper}{a:Act}{w:World}{fx:Operand}{args:Array Operand}{ts:Array TypeId}{f:FuncId}{v1 v2:Array Value}(h1:o.op=.call { callee := .value fx,args:=args,argTypes:=ts })(hf:a.eval fx=.func (.func f) v1 v2)(hb:lq P f) :
  (execOp a.eval o).run P w=.ok (.enter f (v1++args.map a.eval++v2)) w:=by
 obtain⟨fn,g1,g2,g3⟩:=hb;simp only[execOp,h1,resolve,hf,Deferred.ofValue,invoke,callFunc,Sem.run_bind,Sem.run_pure,Result.andThen_ok,program,Sem.run,g1,g3,g2,Bool.false_eq_true,if_false]
theorem D8{P:Program}{b:Frame}{a:Act}{k:List Item}{cs:List Frame}{w:World}{ops:Array Oper}{i:Nat}{rest:List Nat}{o:Oper}{f:FuncId}{args:Array Value}(ho:ops[i]?=some o)(hw:Region.wanted o (yielded ops a.tmps)=true)
  (hr:(execOp a.eval o).run P w=.ok (.enter f args) w) :
  step P (lone (b.atR a (.inRegion ops (i::rest)::k)) cs w)=.next (lone (Frame.enter P f args .normal) (b.atR a (.inRegion ops (i::rest)::k)::cs) w):=by
 have hg:=stepGR_op (P:=P) (b:=b) (k:=k) (cs:=cs) (w:=w) (rest:=rest) ho hw;have tW:=rZ (ro:=b.roundOf) hr (by simp);exact step_lone_go (by rw[hg];simp[stepG.apply,tW,Frame.atR])
theorem ma{c:Cx}{f:Fn}{a1 a2:List AV}{v:Value}(hv:VR c (.fn f a1 a2) v):∃ v1 v2:List Value,v=.func f v1.toArray v2.toArray/\VL c a1 v1/\VL c a2 v2:=by
 cases hv with
 |fn _ _ _ v1 v2 h1 h2 h3 h4=>exact⟨v1.toList,v2.toList,by simp,⟨by simpa using h1,fun j x v hx hu=>h3 j x v hx (by simpa using hu)⟩,⟨by simpa using h2,fun j x v hx hu=>h4 j x v hx (by simpa using hu)⟩⟩
theorem VL.append{c:Cx}{a1 a2:List AV}{v1 v2:List Value}(h1:VL c a1 v1)(h2:VL c a2 v2):VL c (a1++a2) (v1++v2):=by
 refine⟨by simp[h1.1,h2.1],fun j x v hx hv=>?_⟩;rcases Nat.lt_or_ge j a1.length with hj|hj
 ·rw[List.getElem?_append_left hj]at hx;rw[List.getElem?_append_left (by rw[<- h1.1];exact hj)]at hv;exact h1.2 j x v hx hv
 ·rw[List.getElem?_append_right hj]at hx;rw[List.getElem?_append_right (by rw[<- h1.1];exact hj),<- h1.1]at hv;exact h2.2 _ x v hx hv
theorem AW.call{ops:Array Oper}{o:Oper}{l:List Oper}{fx:Operand}{args:Array Operand}{ts:Array TypeId}{f:FuncId}{a1 a2 av:List AV}{ds:List DV}{R1:DV->Prop}(hw:gW ops o s true)(ho:o.op=.call { callee := .value fx,args:=args,argTypes:=ts })
  (hf:aZ E.G s fx (.fn (.func f) a1 a2)) (ha:jn E.G s args.toList av) (hd:a1++av++a2=ds.map .d) (hc:aq E f ds R1)
  (H:∀ r,R1 r->AW E f0 ⟨ag,.bu ops l::k,bX s o.dst (.d r)⟩ cls h R):AW E f0 ⟨ag,.bu ops (o::l)::k,s⟩ cls h R:=by
 unfold AW at H ⊢;unfold aq at hc;intro c0 c t ts h0 h1 h2 h3 hr bq h4 h5 cs;obtain⟨i,hi,ea,aM⟩:=mQ (h1 _ (List.mem_cons_self ..));obtain⟨v1,v2,e1,e2,e3⟩:=ma (hf c ⟨t,marks ag.aL⟩ h3 h4);have e4:=ha c ⟨t,marks ag.aL⟩ h3 h4;have e5:=(e2.append e4).append e3;rw[hd]at e5;have yu:∀ b,c.bad b->b<c.w.heap.size:=fun b hb=>hb.elim (h3.bQ b) fun⟨j,n,hj⟩=>(h3.bA j b n hj).1;have D9:tV E.G c.bad c.w:=fun g e hg=>by
  have hp:∀ p,VR c (.bO e 0) p->VR ⟨fun _=>none,[],c.bad,c.w⟩ (.bO e 0) p:=fun p hp=>by
   cases hp with
   |bO _ _ blk o' fv k1 k2 k3 k4=>exact .bO _ _ blk o' fv (fun hb=>k1 (wv.1 hb)) k2 k3 (fun j x hx=>wx (k4 j x hx))
  exact hp _ (h3.fJ g e hg)
 obtain⟨e,w',fr,⟨v,r,rfl,hR,hv,hx⟩,D',Ea,Eb⟩:=hc.2 c.bad c.w _ yu D9 ⟨by simpa using e5.1,e5.pg⟩ ((bf ag).atR ⟨t,marks ag.aL⟩ (.inRegion ops (i::(List.range ops.size).drop (ops.size-l.length))::k.map aP.bI)::(eL cls ts++cs));obtain⟨k1,k2⟩:=h3.grow hx;have jJ:VS (c.eu w') (bX s o.dst (.d r)) ((⟨t,marks ag.aL⟩:Act).put o.dst v).tmps:=VS.bX (a:=⟨t,marks ag.aL⟩) (k2.vs h4) o.dst (.d _ _ hv);obtain⟨c2,tX,r2,u2,q1,q2,q3,tY,q4,q5,q6⟩:=H r hR c0 (c.eu w') _ ts h0 (gC aM (dZ h1)) h2 k1 (hr.step k2) (bq.step h3 k2) jJ (k2.cr h5) cs;refine⟨c2,tX,r2,u2,q1,q2,q3,tY,?_,q5,q6⟩;have cI:=yr (P:=E.P) (w:=c.w) (a:=⟨t,marks ag.aL⟩) ho e1 hc.1;have jK:(v1.toArray++args.map (⟨t,marks ag.aL⟩:Act).eval++v2.toArray)=(v1++args.toList.map (⟨t,marks ag.aL⟩:Act).eval++v2).toArray:=by
  apply Array.ext';simp
 rw[jK]at cI;have s1:=D8 (P:=E.P) (b:=bf ag) (k:=k.map aP.bI) (cs:=eL cls ts++cs) (rest:=(List.range ops.size).drop (ops.size-l.length)) hi (hw c t h4) cI;have s2:=step_leave_returned (c:=(bf ag).atR ⟨t,marks ag.aL⟩ (.inRegion ops (i::(List.range ops.size).drop (ops.size-l.length))::k.map aP.bI)) (cs:=eL cls ts++cs) Eb;rw[Frame.finish_atR,hi]at s2;have Ec:(⟨ag,.bu ops (o::l)::k,s⟩:b8).bI t=(bf ag).atR ⟨t,marks ag.aL⟩ (.inRegion ops (i::(List.range ops.size).drop (ops.size-l.length))::k.map aP.bI):=by
  simp only[b8.bI,List.map_cons,ea]
 rw[Ec];refine .head s1 (Steps.trans D' (.head s2 ?_));have aF:(bf ag).atR ((⟨t,marks ag.aL⟩:Act).put ((some o).bind (·.dst)) v) (.inRegion ops ((List.range ops.size).drop (ops.size-l.length))::k.map aP.bI)=(⟨ag,.bu ops l::k,bX s o.dst (.d r)⟩:b8).bI ((⟨t,marks ag.aL⟩:Act).put o.dst v).tmps:=by
  simp only[b8.bI,List.map_cons,aP.bI,Option.bind_some];rw[put_defers]
 rw[aF];exact q4
end
end Go.ay
end
section
namespace Go.ay
open Go Go.RowKit
section
variable {E:Env} {f0 ag:FuncId} {k:List aP} {s:List AV} {cls:List b8} {h:List af} {R:cF}
def wy(G:List (Nat × DV))(h:List af)(x:AV)(r:DV):Prop:=∀ (c:Cx) (v:Value),aK G c->c.heap=h->VR c x v->VD c.az c.w r v
theorem IM{c:Cx}{x:DV}{v:Value}(hv:VD c.bad c.w x v):VD c.az c.w x v:=hv.mono fun _ _ hn=>⟨fun hb=>hn (.inl hb),rfl⟩
theorem Qe{G:List (Nat × DV)}(x:DV):wy G h (.d x) x:=fun c v _ _ hv=>by cases hv with|d _ _ hv=>exact IM hv
theorem Qf{G:List (Nat × DV)}{b g:Nat}{ts:Nat × Nat}{l:List DV}(hb:h[b]?=some (.arr g ts l)):wy G h (.own b g) (.sl l):=fun c v ho hh hv=>by
 subst hh;obtain⟨q0,q1,q2⟩:=ho.box b _ hb;cases hv with
 |own _ _ _ l' blk cap k1 k2 =>
  rw[hb]at k1;cases k1;rcases q2 with⟨q2,-⟩|⟨iM,gV,vs,q2,q3,q4,q5,q6,q7⟩
  ·rw[k2]at q2;cases q2
  ·rw[k2]at q2;cases q2;have bq:=lY q3;refine .sl l blk 0 cap ts.2 (fun i j=>vs.toList.getD (i*ts.2+j) undef) (fun _=>ho.sep b blk cap k2) q0 q5 q1 (fun i j e x he hx=>?_) (fun i j e x he hx=>?_) (fun i j e x he hx=>?_)
   ·obtain⟨v,g1,-,g2⟩:=q7 i j e x he hx;rw[bq (i*ts.2+j) v (by simpa using g1)];simp[List.getD,g1]
   ·obtain⟨v,g1,-,g2⟩:=q7 i j e x he hx;simp only[List.getD,Array.getElem?_toList,g1,Option.getD_some];exact IM g2
   ·obtain⟨v,g1,g2,-⟩:=q7 i j e x he hx;simp only[List.getD,Array.getElem?_toList,g1,Option.getD_some];exact g2
 |iu _ _ _ k1 k2=>rw[hb]at k1;cases k1;exact .slnil
 |kv _ _ g' _ _ _ k1 k2 _=>rw[hb]at k1;cases k1;omega
 |jE _ _ _ k1 _=>rw[hb]at k1;cases k1
 |mM _ _ _ _ _ _ k1 _ _=>rw[hb]at k1;cases k1
def Bf{α:Sort _}(h:List af)(x:AV)(stop:α)(k:DV->α):α :=
 match x with
 | .d x=>k x
 | .own b g=>aT h b stop fun
  | .arr g' _ l=>match Nat.beq g g' with
   |true=>k (.sl l)
   |false=>stop
  |_=>stop
 |_=>stop
theorem IN{G:List (Nat × DV)}{x:AV}{stop:Prop}{k:DV->Prop}(H:Bf h x stop k):stop\/∃ r,wy G h x r/\k r:=by
 unfold Bf at H;split at H
 ·exact .inr ⟨_,Qe _,H⟩
 ·rcases bo H with h|⟨bx,hb,H⟩
  ·exact .inl h
  split at H
  ·split at H
   ·rename_i q;have:=Nat.eq_of_beq_eq_true q;subst this;exact .inr ⟨_,Qf hb,H⟩
   ·exact .inl H
  ·exact .inl H
 ·exact .inl H
def yv{α:Sort _}(d:AV->α->(DV->α)->α):List AV->(stop:α)->(List DV->α)->α
 |[],_,k=>k []
 |x::l,stop,k=>d x stop fun r=>yv d l stop fun l'=>k (r::l')
def Qg(G:List (Nat × DV))(h:List af)(l:List AV)(r:List DV):Prop:=∀ (c:Cx) (vs:List Value),aK G c->c.heap=h->VL c l vs->jI c.az c.w r vs
theorem Ed{G:List (Nat × DV)}{d:AV->Prop->(DV->Prop)->Prop}(hd:∀ {x:AV} {stop:Prop} {k:DV->Prop},d x stop k->stop\/∃ r,wy G h x r/\k r){stop:Prop}:∀ {l:List AV} {k:List DV->Prop},yv d l stop k->stop\/∃ r,Qg G h l r/\k r
 |[],k,H => .inr ⟨[],fun c vs _ _ hv=>⟨by simpa using hv.1,fun j x v hx=>by simp at hx⟩,H⟩
 |x::l,k,H=>by
  simp only[yv]at H;rcases hd H with h|⟨r,hr,H⟩
  ·exact .inl h
  rcases Ed hd H with h|⟨rs,yw,H⟩
  ·exact .inl h
  refine .inr ⟨r::rs,fun c vs h1 h2 hv=>?_,H⟩;cases vs with
  |nil=>have:=hv.1;simp at this
  |cons v vs =>
   obtain⟨g1,g2⟩:=hv.head;have g3:=yw c vs h1 h2 g2;refine⟨by simp[g3.1],fun j y u hy hu=>?_⟩;cases j with
   |zero=>simp at hy hu;subst hy;subst hu;exact hr c v h1 h2 g1
   |succ j=>exact g3.2 j y u (by simpa using hy) (by simpa using hu)
def Bg{α:Sort _}(h:List af)(x:AV)(stop:α)(k:DV->α):α :=
 match x with
 | .agg l=>yv (Bf h) l stop fun r=>k (.agg r)
 |x=>Bf h x stop k
theorem IP{G:List (Nat × DV)}{x:AV}{stop:Prop}{k:DV->Prop}(H:Bg h x stop k):stop\/∃ r,wy G h x r/\k r:=by
 unfold Bg at H;split at H
 ·rcases Ed (G:=G) (h:=h) IN H with h|⟨r,hr,H⟩
  ·exact .inl h
  refine .inr ⟨_,fun c v h1 h2 hv=>?_,H⟩;obtain⟨vs,rfl,iy⟩:=ph hv;have:=hr c vs h1 h2 iy;exact .agg _ _ (by simpa using this.1) fun j x v hx hu=>this.2 j x v hx (by simpa using hu)
 ·exact IN H
def wz{α:Sort _}(T:List br)(s:List AV)(h:List af):List ResultVar->(stop:α)->(List AV->α)->α
 |[],_,k=>k []
 | .tmp t::l,stop,k=>aT s t stop fun v=>wz T s h l stop fun l'=>k (v::l')
 | .cell a t::l,stop,k=>aT T t stop fun i=>aT s a stop fun
  | .ptr b off=>aT h b stop fun
   | .cells c=>lh i c off stop fun v=>wz T s h l stop fun l'=>k (v::l')
   |_=>stop
  |_=>stop
def tZ(t:Array Value):ResultVar->Sem Value
 | .tmp t'=>pure (t.getD t' undef)
 | .cell a t'=>do loadVar t' (<- asAddr (t.getD a undef))
theorem Bh(hE:E.OK){stop:Prop}:∀ {l:List ResultVar} {k:List AV->Prop},wz E.T s h l stop k->stop\/∃ r,k r/\∀ (c:Cx) (t:Array Value),c.heap=h->aK E.G c->VS c s t->∃ vs:List Value,VL c r vs/\(l.mapM (tZ t)).run E.P c.w=.ok vs c.w
 |[],k,H => .inr ⟨[],H,fun c t _ _ hs=>⟨[],.nil,by simp⟩⟩
 | .tmp n::l,k,H=>by
  simp only[wz]at H;rcases bo H with h|⟨x,hx,H⟩
  ·exact .inl h
  rcases Bh hE H with h|⟨r,hk,hr⟩
  ·exact .inl h
  refine .inr ⟨x::r,hk,fun c t hc ho hs=>?_⟩;obtain⟨vs,h1,h2⟩:=hr c t hc ho hs;have hl:n<t.size:=by
   rw[<- hs.1];rcases Nat.lt_or_ge n s.length with h|h
   ·exact h
   ·rw[List.getElem?_eq_none h]at hx;cases hx
  refine⟨t[n]::vs,.cons (hs.2 n x _ hx (by simp[hl])) h1,?_⟩;rw[List.mapM_cons];simp only[tZ,Sem.run_bind,Sem.run_pure,Result.andThen_ok,h2];simp[hl]
 | .cell a ty::l,k,H=>by
  simp only[wz]at H;rcases bo H with h|⟨i,hi,H⟩
  ·exact .inl h
  rcases bo H with h|⟨x,hx,H⟩
  ·exact .inl h
  split at H
  ·rename_i b off;rcases bo H with h1|⟨bx,hb,H⟩
   ·exact .inl h1
   split at H
   ·rename_i cs;rcases A8 H with h1|⟨v,H,hp⟩
    ·exact .inl h1
    rcases Bh hE H with h|⟨r,hk,hr⟩
    ·exact .inl h
    refine .inr ⟨v::r,hk,fun c t hc ho hs=>?_⟩;obtain⟨vs,h1,h2⟩:=hr c t hc ho hs;subst hc;have hl:a<t.size:=by
     rw[<- hs.1];rcases Nat.lt_or_ge a s.length with h|h
     ·exact h
     ·rw[List.getElem?_eq_none h]at hx;cases hx
    obtain⟨blk,cap,us,ty',g1,g2,g3⟩:=ho.cells hb;obtain⟨u,hu,qf⟩:=hp E.P ty c blk 0 us.toList (hE.types ty i hi) g3 (lY g2);have rS:=hs.2 a _ t[a] hx (by simp[hl]);have Qh:t[a]=.pointer (some ⟨blk,0+off,none⟩):=by
     generalize t[a]=p at rS;cases rS with
     |ptr _ _ cs' iM gV cw cU=>rw[g1]at cU;cases cU;rw[Nat.zero_add]
     |iv _ _ _ cw _=>rw[hb]at cw;cases cw
    have yx:(loadVar ty ⟨blk,0+off,none⟩).run E.P c.w=.ok u c.w:=hu;refine⟨u::vs,.cons qf h1,?_⟩;rw[List.mapM_cons];have hg:t.getD a undef=.pointer (some ⟨blk,0+off,none⟩):=by simp[hl,Qh]
    simp only[tZ,hg,asAddr,Sem.run_bind,Sem.run_pure,Result.andThen_ok,yx,h2]
   ·exact .inl H
  ·exact .inl H
def packed:List Value->Value
 |[v]=>v
 |vs => .tuple vs.toArray
theorem Ee{P:Program}{fn:Func}{t:Array Value}{w:World}{vs:List Value}(h:(fn.results.toList.mapM (tZ t)).run P w=.ok vs w) :
  (results fn t).run P w=.ok (packed vs) w:=by
 have e1:results fn t=(do let vs <- fn.results.mapM (tZ t);pure (if h:vs.size=1 then vs[0]else .tuple vs)):=by
  rfl
 have e2:(fn.results.mapM (tZ t):Sem (Array Value))=List.toArray <$> (fn.results.toList.mapM (tZ t)):=by
  rw[Array.mapM_eq_mapM_toList]
 simp only[e1,e2,Sem.run_bind,map_eq_pure_bind,h,Result.andThen_ok,Sem.run_pure];cases vs with
 |nil=>rfl
 |cons v vs=>cases vs with
  |nil=>rfl
  |cons u vs=>simp[packed]
def nT{α:Sort _}(T:List br)(s:List AV)(h:List af)(rs:List ResultVar)(stop:α)(k:AV->List af->α):α :=
 wz T s h rs stop fun
  |[x]=>k x h
  |l=>k (.aD l) h
theorem AW.IQ(hE:E.OK){td:List aP}(nU:∀ (a:Act) (cs:List Frame) (w:World),step E.P (lone ((bf ⟨ag,none,[]⟩).atR a (td.map aP.bI)) cs w)=.next (lone { (bf ⟨ag,none,[]⟩).atR a (td.map aP.bI)with mode := .returning } cs w))
  {fn:Func} (hf:E.P.funcs[ag]?=some fn) (H:nT E.T s h fn.results.toList False R.Q):AW E ag ⟨⟨ag,none,[]⟩,td,s⟩ [] h R:=by
 unfold AW;intro c0 c t ts h0 h1 h2 h3 hr bq h4 h5 cs;unfold nT at H;rcases Bh hE H with h'|⟨l,H,hl⟩
 ·cases h'
 obtain⟨vs,g1,g2⟩:=hl c t h2 h3 h4;have fin:∀ r v,packed vs=v->R.Q r h->VR c r v->∃ (c':Cx) (fr:Frame) (r:AV) (v:Value),
   R.Q r c'.heap/\VR c' r v/\aK E.G c'/\c8 c0 c'/\Steps E.P (lone ((⟨⟨ag,none,[]⟩,td,s⟩:b8).bI t) (eL [] ts++cs) c.w) (lone fr cs c'.w)/\fr.fn=ag/\fr.leaving E.P c'.w (.returned v):=fun r v e1 e2 e3=>by
  refine⟨c,_,r,v,by rw[h2];exact e2,e3,h3,hr,.one (nU ⟨t,[]⟩ cs c.w),rfl,rfl,rfl,rfl,fn,hf,?_⟩;rw[<- e1];exact Ee g2
 split at H
 ·rename_i x;cases vs with
  |nil=>have:=g1.1;simp at this
  |cons v vs=>cases vs with
   |cons u vs=>have:=g1.1;simp at this
   |nil=>exact fin x v rfl H g1.head.1
 ·rename_i aI;refine fin (.aD l) (.tuple vs.toArray) ?_ H (.aD _ _ (by simpa using g1.1) fun j x v hx hu=>g1.2 j x v hx (by simpa using hu));cases vs with
  |nil=>rfl
  |cons v vs=>cases vs with
   |nil =>
    have:=g1.1;cases l with
    |nil=>simp at this
    |cons x l=>cases l with
     |nil=>exact absurd rfl (aI x)
     |cons y l=>simp at this
   |cons u vs=>rfl
def ua(R:DV->Prop)(x:AV)(h:List af):Prop :=
 match x with
 | .aD l=>yv (Bg h) l False fun r=>R (.aD r)
 |x=>Bg h x False R
theorem Qi{G:List (Nat × DV)}{R:DV->Prop}{x:AV}(H:ua R x h):∃ r,wy G h x r/\R r:=by
 unfold ua at H;split at H
 ·rcases Ed (G:=G) (h:=h) IP H with h'|⟨r,hr,H⟩
  ·cases h'
  refine⟨_,fun c v h1 h2 hv=>?_,H⟩;cases hv with
  |aD _ vs hl bH =>
   have:=hr c vs.toList h1 h2 ⟨by simpa using hl,fun j x v hx hv=>bH j x v hx (by simpa using hv)⟩;exact .aD _ _ (by simpa using this.1) fun j x v hx hu=>this.2 j x v hx (by simpa using hu)
 ·rcases IP (G:=G) H with h'|h'
  ·cases h'
  ·exact h'
theorem aq.Qj{f:FuncId}{args:List DV}{R:DV->Prop}(H:ar E f [] (args.map .d) (ua R)):aq E f args R:=by
 unfold ar at H;unfold aq;refine⟨H.1,fun az w vs h1 h2 h3=>?_⟩
 let c:Cx:=⟨fun _=>none,[],az,w⟩
 have hv:VL c (args.map .d) vs := .tO h3.1 fun j x v hx hu=>wx (h3.2 j x v hx hu);have ho:aK E.G c:=⟨h1,fun i b n hi=>(by cases hi),fun i j b n m hi=>(by cases hi),fun i b n hi=>(by cases hi),fun i bx hi=>(by simp[c]at hi),h2⟩;refine(H.2.2 c vs rfl ho hv).mono fun e w' ⟨c',r,v,k1,k2,k3,k4,k5,k6⟩=>?_;obtain⟨d,hd,hR⟩:=Qi (G:=E.G) k3;subst k2;have:=hd c' v k5 rfl k4;rw[k6.az]at this;exact⟨v,d,k1,hR,this,k6.ext fun _=>rfl⟩
theorem AW.ret(hE:E.OK){fn:Func}(hf:E.P.funcs[ag]?=some fn)(H:nT E.T s h fn.results.toList False R.Q):AW E ag ⟨⟨ag,none,[]⟩,.code .ret::k,s⟩ [] h R := .IQ hE (fun _ _ _=>stepR_ret rfl) hf H
theorem AW.Qk(hE:E.OK){fn:Func}(hf:E.P.funcs[ag]?=some fn)(H:nT E.T s h fn.results.toList False R.Q):AW E ag ⟨⟨ag,none,[]⟩,[],s⟩ [] h R := .IQ hE (fun _ _ _=>stepR_end rfl) hf H
end
end Go.ay
end
section
namespace Go.ay
open Go Go.RowKit
@[irreducible] def need (C K : Prop) : Prop := C /\ K
theorem aV{C K:Prop}(h:C)(k:K):need C K:=by unfold need;exact⟨h,k⟩
theorem mR{C K:Prop}(h:need C K):C/\K:=by unfold need at h;exact h
def kB(b:UInt8):DV := .int .u8 b.toNat
def two{β:Type}(l:List β)(stop:Prop)(k:β->β->Prop):Prop :=
 match l with
 |[a,b]=>k a b
 |_=>stop
theorem IS{β:Type}{l:List β}{stop:Prop}{k:β->β->Prop}(H:two l stop k):stop\/∃ a b,l=[a,b]/\k a b:=by
 unfold two at H;split at H
 ·exact .inr ⟨_,_,rfl,H⟩
 ·exact .inl H
def Bi(e:Nat)(ei:br)(h:List af)(a:AV)(m:List DV)(stop:Prop)(k:AV->List af->Prop):Prop :=
 match a with
 | .d .aH=>need (m.length<=2147483648/\∀ e∈m,e.cells.length=ei.size) (nL h (.arr 1 (e,ei.size) m) 0 fun h' n=>k (.own n 1) h')
 | .own b g=>aT h b stop fun
  | .arr g' ts l=>match Nat.beq g g',Nat.beq ts.1 e,Nat.beq ts.2 ei.size with
   |true,true,true=>need (l.length+m.length<=2147483648/\∀ e∈m,e.cells.length=ei.size) (fz h b (.arr (g+1) ts (l++m)) fun h'=>k (.own b (g+1)) h')
   |_,_,_=>stop
  |_=>stop
 |_=>stop
def r8(T:List br)(G:List (Nat × DV))(o:Op)(s:List AV)(h:List af)(stop:Prop)(k:AV->List af->Prop):Prop :=
 match o with
 | .call { callee := .builtin .append,args:=args,argTypes:=ts }=>two args.toList stop fun x y=>two ts.toList stop fun t0 t1=>aT T t0 stop fun i0=>aT T t1 stop fun i1 =>
  match i0.k with
  | .slice e=>aT T e stop fun ei=>match Nat.beq ei.zero.length ei.size,Nat.blt 0 ei.size,Nat.ble ei.bytes 65536 with
   |true,true,true=>ca G s x stop fun a=>ca G s y stop fun b =>
    match i1.k,b with
    | .slice _,.d (.sl m)=>Bi e ei h a m stop k
    | .string,.d (.str z)=>match ei.k with
     | .int .u8=>Bi e ei h a (z.map kB) stop k
     |_=>stop
    |_,_=>stop
   |_,_,_=>stop
  |_=>stop
 | .makeSlice t n c=>aT T t stop fun i=>match i.k with
  | .slice e=>aT T e stop fun ei=>match Nat.beq ei.zero.length ei.size,Nat.blt 0 ei.size,Nat.ble ei.bytes 65536,ei.zero.all DV.fa with
   |true,true,true,true=>ca G s n stop fun
    | .d (.int _ a)=>ca G s c stop fun
     | .d (.int _ b) =>
      match ei.zero with
      |[z]=>need (0<=a/\a<=b/\b<=2147483648) (nL h (.arr 0 (e,ei.size) (List.replicate a.toNat z)) 0 fun h' n=>k (.own n 0) h')
      |zl=>need (0<=a/\a<=b/\b<=2147483648) (nL h (.arr 0 (e,ei.size) (List.replicate a.toNat (.agg zl))) 0 fun h' n=>k (.own n 0) h')
     |_=>stop
    |_=>stop
   |_,_,_,_=>stop
  |_=>stop
 |_=>stop
theorem aQ{β:Type}{l:List β}{n:Nat}{e:β}(h:l[n]?=some e):n<l.length:=by
 rcases Nat.lt_or_ge n l.length with h'|h'
 ·exact h'
 ·rw[List.getElem?_eq_none h']at h;cases h
section
variable {E:Env} {s:List AV} {h:List af} {c:Cx} {G:List (Nat × DV)} {P:Program}
structure Src(P:Program)(size:Nat)(w:World)(x:Value)(n:Nat)(news:List Value):Prop where
 len:∀ w,(Builtin.lenOf x).run P w=.ok n w
 cells:∀ d:Nat,(Builtin.firstCells size n x).run P { w with drawn:=d }=.ok news.toArray { w with drawn:=d }
 one:∀ v∈news,v.oneCell'=true
 size:news.length=n*size
theorem Ql{t0 t1 e:TypeId}{i:TypeInfo}{d1:TypeDesc}(h0:P.underlying t0=some (.slice e))(h1:P.underlying t1=some d1)(mS:∀ k,d1 ≠ .int k)(hi:P.info? e=some i){w:World}{g n m cap:Nat}{cur:Array Value}{x:Value}{news:List Value}
  (hg:w.heap[g]?=some (.cells cur e (0,0))) (hs:Src P i.size w x m news) (qm:n+m<=cap) (iw:n*i.size+news.length<=cur.size) (ty:TypeId) :
  (Builtin.append_ #[t0,t1] ty #[.slice (some ⟨g,0,none⟩) n cap,x]).run P w=.ok (.slice (some ⟨g,0,none⟩) (n+m) cap) (w.setCells g (n*i.size) news):=by
 have bg:=run_storeCells_cells (P:=P) g (n*i.size) news 0 w (fun j hj=>by
   simp only[World.cell?,hg]
   simp;omega) (fun j hj=>by simp[World.frozen?,hg]) hs.one
 simp only[Nat.add_zero]at bg;have hc:=hs.cells w.drawn;simp[Builtin.append_,run_underlying h0,run_underlying h1,Go.sizeOf,typeInfo,hi,hs.len,qm,hc,mN,bg]
theorem Qm{t0 t1 e:TypeId}{i:TypeInfo}{d1:TypeDesc}(h0:P.underlying t0=some (.slice e))(h1:P.underlying t1=some d1)(mS:∀ k,d1 ≠ .int k)(hi:P.info? e=some i){w:World}{n cap:Nat}{b:Option Addr}{x:Value}
  (hs:Src P i.size w x 0 []) (qm:n<=cap) (ty:TypeId):(Builtin.append_ #[t0,t1] ty #[.slice b n cap,x]).run P w=.ok (.slice b n cap) w:=by
 have hc:=hs.cells w.drawn;cases b<;>simp[Builtin.append_,run_underlying h0,run_underlying h1,Go.sizeOf,typeInfo,hi,hs.len,qm,hc,storeCells]
theorem Qn{t0 t1 e:TypeId}{i:TypeInfo}{z:Value}{d1:TypeDesc}(h0:P.underlying t0=some (.slice e))(h1:P.underlying t1=some d1)(mS:∀ k,d1 ≠ .int k)(hi:P.info? e=some i)(hz:i.zero=some z){w:World}{n m cap:Nat}{b:Option Addr}{x:Value}{po news:List Value}
  (hold:∀ d:Nat,(Builtin.firstCells i.size n (.slice b n cap)).run P { w with drawn:=d }=.ok po.toArray { w with drawn:=d }) (hs:Src P i.size w x m news) (hg:cap<n+m) (Qo:n+m<=2147483648) (qo:i.bytes<=65536) (ty:TypeId) :
  (Builtin.append_ #[t0,t1] ty #[.slice b n cap,x]).run P w=.ok (.slice (some ⟨w.heap.size,0,none⟩) (n+m) (grownCap w (n+m) cap e)) (w.drew.alloc (.cells (po.toArray++news.toArray++Builtin.zeroCells z.cells (grownCap w (n+m) cap e-(n+m))) e)):=by
 have hn:¬ (n+m<=cap):=by omega
 have Qp:¬ (9223372036854775807<((n:Int)+(m:Int))):=by omega
 have iw:(n+m)*i.bytes<=140737488355328:=by
  calc (n+m)*i.bytes<=2147483648*65536:=Nat.mul_le_mul Qo qo
   _=140737488355328:=by decide
 have Qq:¬ (281474976710656<Builtin.nextslicecap (n+m) cap*i.bytes):=by
  have:=growslice_fits (old:=cap) (need:=n+m) (bytes:=i.bytes) (by omega) iw;omega
 have hc:=hs.cells w.drew.drawn;have ho:=hold w.drew.drawn;have yy:(Builtin.firstCells i.size m x).run P w.drew=.ok news.toArray w.drew:=hc;have cU:(Builtin.firstCells i.size n (.slice b n cap)).run P w.drew=.ok po.toArray w.drew:=ho;simp[Builtin.append_,run_underlying h0,run_underlying h1,Go.sizeOf,typeInfo,zeroValue,hi,hz,hs.len,hn,Qp,Qq,Question.forced,yy,cU,newRow,grownCap]
 congr 2
 apply Array.ext';simp[List.append_assoc]
theorem IT{c:Cx}{m:List DV}{x:Value}{sz:Nat}(bP:0<sz)(hm:∀ e∈m,e.cells.length=sz)(hv:VD c.bad c.w (.sl m) x):∃ news:List Value,Src P sz c.w x m.length news/\(∀ (j:Nat) (y:DV) (v:Value),(flat m)[j]?=some y->news[j]?=some v->VD c.bad c.w y v):=by
 have dY:iz sz m:=fun i e he=>hm e (List.mem_of_getElem? he);cases hv with
 |slnil=>exact⟨[],⟨fun _=>rfl,fun _=>rfl,fun v hv=>by simp at hv,by simp⟩,fun j y v hy=>by simp[flat]at hy⟩
 |ku a=>exact⟨[],⟨fun _=>rfl,fun _=>by simp[Builtin.firstCells,loadCells,loadCellsFrom],fun v hv=>by simp at hv,by simp⟩,fun j y v hy=>by simp[flat]at hy⟩
 |sl _ blk off cap dc f hb Bj jm hlen dK bH bW =>
  by_cases aI:m=[]
  ·subst aI;exact⟨[],⟨fun _=>rfl,fun _=>by simp[Builtin.firstCells,loadCells,loadCellsFrom],fun v hv=>by simp at hv,by simp⟩,fun j y v hy=>by simp[flat]at hy⟩
  obtain⟨e0,r,hr⟩:=List.exists_cons_of_ne_nil aI;have nN:dc=sz:=(hlen 0 e0 (by rw[hr];rfl)).symm.trans (hm e0 (by rw[hr];simp));subst nN;have at_:∀ (idx:Nat),idx<m.length*dc->∃ (i j:Nat) (e y:DV),idx=i*dc+j/\j<dc/\m[i]?=some e/\e.cells[j]?=some y/\idx / dc=i/\idx % dc=j:=fun idx pq=>by
   have hd:idx / dc<m.length:=Nat.div_lt_of_lt_mul (by rw[Nat.mul_comm];exact pq);have pr:idx % dc<dc:=Nat.mod_lt _ bP;have hl:idx % dc<m[idx / dc].cells.length:=by rw[hlen _ _ (List.getElem?_eq_getElem hd)];exact pr
   exact⟨idx / dc,idx % dc,m[idx / dc],m[idx / dc].cells[idx % dc],by rw[Nat.mul_comm];exact(Nat.div_add_mod idx dc).symm,pr,List.getElem?_eq_getElem hd,List.getElem?_eq_getElem hl,rfl,rfl⟩
  have dE:∀ (j:Nat) (v:Value),((List.range (m.length*dc)).map fun idx=>f (idx / dc) (idx % dc))[j]?=some v->j<m.length*dc/\v=f (j / dc) (j % dc):=fun j v hv=>by
   have hj:j<m.length*dc:=by have:=aQ hv;simpa using this
   simp[hj]at hv;exact⟨hj,hv.symm⟩
  refine⟨(List.range (m.length*dc)).map fun idx=>f (idx / dc) (idx % dc),⟨fun _=>rfl,fun d=>?_,fun v hv=>?_,by simp⟩,fun j y v hy hv=>?_⟩
  ·have:=run_loadCells_list (P:=P) { c.w with drawn:=d } ⟨blk,off,none⟩ ((List.range (m.length*dc)).map fun idx=>f (idx / dc) (idx % dc)) (fun j v hv=>by
    obtain⟨hj,rfl⟩:=dE j v hv;obtain⟨i,jj,e,y,e1,e2,e3,e4,e5,e6⟩:=at_ j hj;rw[mN,e5,e6,e1]
    exact dK i jj e y e3 e4)
   simpa [Builtin.firstCells]using this
  ·obtain⟨j,Qr⟩:=List.getElem?_of_mem hv;obtain⟨hj,rfl⟩:=dE j v Qr;obtain⟨i,jj,e,y,e1,e2,e3,e4,e5,e6⟩:=at_ j hj;rw[e5,e6];exact bW i jj e y e3 e4
  ·obtain⟨hj,rfl⟩:=dE j v hv;obtain⟨i,jj,e,y',e1,e2,e3,e4,e5,e6⟩:=at_ j hj;have:=flat_get dY e3 e2;rw[<- e1,hy,e4]at this;cases this;rw[e5,e6];exact bH i jj e y e3 e4
theorem IU{c:Cx}{z:List UInt8}:Src P 1 c.w (.string ⟨z.toArray⟩) (z.map kB).length (z.map fun b=>Value.int .u8 b.toNat)/\(∀ (j:Nat) (y:DV) (v:Value),(flat (z.map kB))[j]?=some y->(z.map fun b=>Value.int .u8 b.toNat)[j]?=some v->VD c.bad c.w y v):=by
 have Qs:flat (z.map kB)=z.map kB:=by
  induction z with
  |nil=>rfl
  |cons b z ih=>simp only[List.map_cons,flat,List.flatMap_cons]at ih ⊢;rw[ih];rfl
 refine⟨⟨fun _=>by simp[Builtin.lenOf,ByteArray.size],fun d=>?_,fun v hv=>?_,by simp⟩,fun j y v hy hv=>?_⟩
 ·simp[Builtin.firstCells]
 ·obtain⟨b,-,rfl⟩:=List.mem_map.1 hv;rfl
 ·rw[Qs]at hy;rw[List.getElem?_map]at hy hv;cases hz:z[j]? with
  |none=>rw[hz]at hy;cases hy
  |some b=>rw[hz]at hy hv;cases hy;cases hv;exact .int _ _
def lr(c:Cx)(l:List DV)(vs:List Value):Prop:=∀ (idx:Nat) (y:DV),(flat l)[idx]?=some y->∃ v,vs[idx]?=some v/\v.oneCell'=true/\VD c.bad c.w y v
theorem lr.ij{c:Cx}{l:List DV}{vs:Array Value}{sz:Nat}(dY:iz sz l)(h:lr c l vs.toList):∀ (i j:Nat) (e x:DV),l[i]?=some e->e.cells[j]?=some x->∃ v,vs[i*sz+j]?=some v/\v.oneCell'=true/\VD c.bad c.w x v:=fun i j e x he hx=>by
 have hj:j<sz:=by rw[<- dY i e he];exact aQ hx
 obtain⟨v,h1,h2⟩:=h (i*sz+j) x (by rw[flat_get dY he hj];exact hx);exact⟨v,by simpa using h1,h2⟩
theorem lr.Qt{c:Cx}{l:List DV}{vs:Array Value}{sz:Nat}(bP:0<sz)(dY:iz sz l)(h:∀ (i j:Nat) (e x:DV),l[i]?=some e->e.cells[j]?=some x->∃ v,vs[i*sz+j]?=some v/\v.oneCell'=true/\VD c.bad c.w x v):lr c l vs.toList:=fun idx y hy=>by
 have ah:=aQ hy;rw[nP dY]at ah;have hd:idx / sz<l.length:=Nat.div_lt_of_lt_mul (by rw[Nat.mul_comm];exact ah);have pr:idx % sz<sz:=Nat.mod_lt _ bP;have h1:=flat_get dY (List.getElem?_eq_getElem hd) pr;have e1:idx / sz*sz+idx % sz=idx:=by rw[Nat.mul_comm];exact Nat.div_add_mod idx sz
 rw[e1,hy]at h1;obtain⟨v,h2,h3⟩:=h (idx / sz) (idx % sz) _ y (List.getElem?_eq_getElem hd) h1.symm;rw[e1]at h2;exact⟨v,by simpa using h2,h3⟩
theorem lr.append{c:Cx}{l m:List DV}{vs news:List Value}{tail:List Value}{sz:Nat}(dY:iz sz l)(hl:lr c l vs)(dm:l.length*sz<=vs.length)(bW:∀ v∈news,v.oneCell'=true)(hlen:news.length=(flat m).length)(hn:∀ (j:Nat) (y:DV) (v:Value),(flat m)[j]?=some y->news[j]?=some v->VD c.bad c.w y v) :
  lr c (l++m) (vs.take (l.length*sz)++news++tail):=fun idx y hy=>by
 rw[D1]at hy;have nV:=nP dY;have iD:(vs.take (l.length*sz)).length=l.length*sz:=by simp;omega
 rcases Nat.lt_or_ge idx (l.length*sz)with h|h
 ·rw[List.getElem?_append_left (by omega)]at hy;obtain⟨v,h1,h2⟩:=hl idx y hy;refine⟨v,?_,h2⟩;rw[List.append_assoc,List.getElem?_append_left (by omega),List.getElem?_take,if_pos h];exact h1
 ·rw[List.getElem?_append_right (by omega),nV]at hy;have ah:=aQ hy;have pq:idx-l.length*sz<news.length:=by omega
  refine⟨news[idx-l.length*sz],?_,bW _ (List.getElem_mem pq),hn _ y _ hy (by simp[pq])⟩;rw[List.append_assoc,List.getElem?_append_right (by omega),iD,List.getElem?_append_left pq];simp[pq]
theorem lr.step{c c':Cx}(hs:Step c c'){l:List DV}{vs:List Value}(h:lr c l vs):lr c' l vs:=fun idx y hy=>by
 obtain⟨v,h1,h2,h3⟩:=h idx y hy;exact⟨v,h1,h2,hs.vd h3⟩
theorem Qu{sz:Nat}{l m:List DV}(hl:iz sz l)(hm:∀ e∈m,e.cells.length=sz):iz sz (l++m):=fun i e he=>by
 rcases Nat.lt_or_ge i l.length with h|h
 ·rw[List.getElem?_append_left h]at he;exact hl i e he
 ·rw[List.getElem?_append_right h]at he;exact hm e (List.mem_of_getElem? he)
def Cx.jq(c:Cx)(b g:Nat)(ts:Nat × Nat)(l:List DV)(own:Option (Nat × Nat))(w:World):Cx:={ c with own:=fun i=>if i=b then own else c.own i,heap:=c.heap.set b (.arr g ts l),w:=w }
theorem aK.jq{G:List (Nat × DV)}(ho:aK G c){b g:Nat}{ts:Nat × Nat}{l l':List DV}(hb:c.heap[b]?=some (.arr g ts l)){w:World}(own:Option (Nat × Nat))(Ef:w.os=c.w.os)(Qv:w.tape=c.w.tape)(Qw:w.output=c.w.output)(jr:c.w.heap.size<=w.heap.size)
  (r9:∀ k,k<c.w.heap.size->(∀ n,c.own b≠some (k,n))->w.heap[k]?=c.w.heap[k]?) (bF:∀ k n,own=some (k,n)->k<w.heap.size/\(k<c.w.heap.size->∃ m,c.own b=some (k,m))) :
  let c':=c.jq b (g+1) ts l' own w
  Step c c'/\((iz ts.2 l'/\((own=none/\l'=[])\/∃ (blk cap:Nat) (vs:Array Value),own=some (blk,cap)/\w.heap[blk]?=some (.cells vs ts.1 (0,0))/\vs.size=cap*ts.2/\l'.length<=cap/\cap<=maxLen/\lr c' l' vs.toList))->aK G c'):=by
 intro c';have eJ:=aQ hb
 have bg:Step c c':={
  az:=rfl
  bQ:=ho.bQ
  os:=Ef
  tape:=Qv
  output:=Qw
  size:=jr
  keep:=fun x hx hn=>r9 x hx (fun n=>hn b n)
  dy:=fun i x n hi hx=>by
   simp only[c',Cx.jq]at hi;split at hi
   ·rename_i bE;subst bE;exact(bF x n hi).2 hx
   ·exact⟨n,hi⟩
  boxes:=fun i bx hi=>by
   by_cases bE:i=b
   ·subst bE;rw[hb]at hi;cases hi;exact .inl ⟨g+1,l',by show(c.heap.set i _)[i]?=_;rw[List.getElem?_set_self eJ],.inl (Nat.lt_succ_self _)⟩
   ·have h':c'.heap[i]?=some bx:=by show(c.heap.set b _)[i]?=_;rw[List.getElem?_set_ne (Ne.symm bE)];exact hi
    have qi:c'.own i=c.own i:=by simp only[c',Cx.jq];rw[if_neg bE]
    cases bx with
    |cells cs=>exact .inl ⟨cs,h',qi,rfl⟩
    |arr g sz l=>exact .inl ⟨g,l,h',.inr ⟨rfl,rfl,qi⟩⟩
    |map es=>exact .inl ⟨es,h',qi⟩
    |gone=>exact h'
    |hole=>exact⟨_,h'⟩ }
 refine⟨bg,fun dq=>ho.next bg ?_ ?_ ?_⟩
 ·intro i x n hi;have hl:c'.heap.length=c.heap.length:=by simp[c',Cx.jq]
  rw[hl];simp only[c',Cx.jq]at hi;split at hi
  ·rename_i bE;subst bE;exact⟨(bF x n hi).1,eJ⟩
  ·have:=ho.bA i x n hi;exact⟨Nat.lt_of_lt_of_le this.1 jr,this.2⟩
 ·intro i j x n m hi hj;simp only[c',Cx.jq]at hi hj;split at hi<;>split at hj
  ·omega
  ·rename_i h1 h2;have:=(ho.bA j x m hj).1;obtain⟨q,hq⟩:=(bF x n hi).2 this;exact absurd (ho.inj j b x m q hj hq) h2
  ·rename_i h1 h2;have:=(ho.bA i x n hi).1;obtain⟨q,hq⟩:=(bF x m hj).2 this;exact absurd (ho.inj i b x n q hi hq) h1
  ·exact ho.inj i j x n m hi hj
 ·intro i bx hi;by_cases bE:i=b
  ·subst bE;have cg:(c.heap.set i (.arr (g+1) ts l'))[i]?=some bx:=hi;rw[List.getElem?_set_self eJ]at cg;cases cg;right;have mb:c'.own i=own:=by simp[c',Cx.jq]
   obtain⟨q0,-,-⟩:=ho.box i _ hb;obtain⟨dY,Qx⟩:=dq;refine⟨q0,dY,?_⟩;rcases Qx with⟨h1,h2⟩|⟨blk,cap,vs,h1,h2,h3,h4,h5,h6⟩
   ·exact .inl ⟨mb.trans h1,h2⟩
   ·exact .inr ⟨blk,cap,vs,mb.trans h1,h2,h3,h4,h5,h6.ij dY⟩
  ·left;have cg:(c.heap.set b (.arr (g+1) ts l'))[i]?=some bx:=hi;rw[List.getElem?_set_ne (Ne.symm bE)]at cg;refine⟨cg,by simp only[c',Cx.jq];rw[if_neg bE],fun x n hn=>r9 x (ho.bA i x n hn).1 (fun m hm=>bE (ho.inj i b x n m hn hm))⟩
theorem kC{b g:Nat}{ts:Nat × Nat}{l:List DV}(hb:c.heap[b]?=some (.arr g ts l)){v:Value}(hv:VR c (.own b g) v):(∃ blk cap,c.own b=some (blk,cap)/\v=.slice (some ⟨blk,0,none⟩) l.length cap)\/(l=[]/\v=.slice none 0 0/\c.own b=none):=by
 cases hv with
 |own _ _ _ l' blk cap k1 k2=>rw[hb]at k1;cases k1;exact .inl ⟨blk,cap,k2,rfl⟩
 |iu _ _ _ k1 k2=>rw[hb]at k1;cases k1;exact .inr ⟨rfl,rfl,k2⟩
 |kv _ _ g' _ _ _ k1 k2 _=>rw[hb]at k1;cases k1;omega
 |jE _ _ _ k1 _=>rw[hb]at k1;cases k1
 |mM _ _ _ _ _ _ k1 _ _=>rw[hb]at k1;cases k1
theorem Qy{β:Type}{vs news:List β}{o:Nat}(h:o+news.length<=vs.length):du vs o news=vs.take o++news++vs.drop (o+news.length):=by
 have h1:vs=vs.take o++(vs.drop o).take news.length++vs.drop (o+news.length):=by
  rw[List.append_assoc,<- List.drop_drop,List.take_append_drop,List.take_append_drop]
 have h2:(vs.take o).length=o:=by simp;omega
 have:=D0 news (vs.take o) ((vs.drop o).take news.length) (vs.drop (o+news.length)) (by simp;omega);rw[<- h1,h2]at this;exact this
theorem pt{n:Nat}(h:n<=2147483648):n<=maxLen:=by unfold maxLen;omega
theorem IV(aM:aK G c){t0 t1:TypeId}{i:TypeInfo}{z:Value}{d1:TypeDesc}{ts:Nat × Nat}(h0:P.underlying t0=some (.slice ts.1))(h1:P.underlying t1=some d1)(mS:∀ k,d1 ≠ .int k)(hi:P.info? ts.1=some i)(hz:i.zero=some z)(jo:z.cells.size=i.size)(jr:i.size=ts.2)(qo:i.bytes<=65536)
  {b g:Nat} {l m:List DV} (hb:c.heap[b]?=some (.arr g ts l)) {v x:Value} (hv:VR c (.own b g) v) {news:List Value} (hs:Src P i.size c.w x m.length news) (hn:∀ (j:Nat) (y:DV) (v:Value),(flat m)[j]?=some y->news[j]?=some v->VD c.bad c.w y v) (hm:∀ e∈m,e.cells.length=ts.2) (sc:l.length+m.length<=2147483648) (ty:TypeId) :
  ∃ (c':Cx) (v':Value),(Builtin.append_ #[t0,t1] ty #[v,x]).run P c.w=.ok v' c'.w/\c'.heap=c.heap.set b (.arr (g+1) ts (l++m))/\aK G c'/\VR c' (.own b (g+1)) v'/\Step c c':=by
 obtain⟨q0,q1,q2⟩:=aM.box b _ hb;have eJ:=aQ hb;have IW:iz ts.2 (l++m):=Qu q1 hm;have yz:(flat m).length=m.length*ts.2:=nP (fun i e he=>hm e (List.mem_of_getElem? he));have wA:news.length=(flat m).length:=by rw[hs.size,yz,jr]
 have mT:∀ own w,(c.jq b (g+1) ts (l++m) own w).heap[b]?=some (.arr (g+1) ts (l++m)):=fun own w=>by show(c.heap.set b _)[b]?=_;rw[List.getElem?_set_self eJ]
 have Eg:∀ own w,(c.jq b (g+1) ts (l++m) own w).own b=own:=fun own w=>by simp[Cx.jq]
 have grown:∀ (po:List Value) (cap:Nat) (bs:Option Addr),(∀ (idx:Nat) (y:DV),(flat l)[idx]?=some y->∃ v,po[idx]?=some v/\v.oneCell'=true/\VD c.bad c.w y v)->po.length=l.length*ts.2->(∀ d:Nat,(Builtin.firstCells i.size l.length (.slice bs l.length cap)).run P { c.w with drawn:=d }=.ok po.toArray { c.w with drawn:=d })->cap<l.length+m.length->v=.slice bs l.length cap ->
   ∃ (c':Cx) (v':Value),(Builtin.append_ #[t0,t1] ty #[v,x]).run P c.w=.ok v' c'.w/\c'.heap=c.heap.set b (.arr (g+1) ts (l++m))/\aK G c'/\VR c' (.own b (g+1)) v'/\Step c c':=by
  intro po cap bs hold Bk Qz jm QA;subst QA;have hr:=Qn h0 h1 mS hi hz Qz hs jm sc qo ty;have aA:=grownCap_ge c.w (l.length+m.length) cap ts.1;have hle:=grownCap_le_maxLen c.w (l.length+m.length) cap ts.1 (pt sc);generalize grownCap c.w (l.length+m.length) cap ts.1=nc at hr aA hle
  let cells:Array Value:=po.toArray++news.toArray++Builtin.zeroCells z.cells (nc-(l.length+m.length))
  have hw:(c.w.drew.alloc (.cells cells ts.1)).heap[c.w.heap.size]?=some (.cells cells ts.1 (0,0)):=heap_alloc_new c.w.drew _;obtain⟨k1,k2⟩:=aM.jq (l':=l++m) hb (w:=c.w.drew.alloc (.cells cells ts.1)) (some (c.w.heap.size,nc)) rfl rfl rfl (by simp) (fun k hk _=>Below.heap_alloc c.w.drew _ k hk) (fun k n e=>by cases e;exact⟨by simp,fun h=>by omega⟩);refine⟨_,_,hr,rfl,k2 ⟨IW,.inr ⟨c.w.heap.size,nc,cells,rfl,hw,?_,by simpa using aA,hle,?_⟩⟩,?_,k1⟩
  ·simp only[cells,Array.size_append,List.size_toArray,size_zeroCells,jo,Bk,wA,yz,jr,<- Nat.add_mul]
   congr 1
   omega
  ·have:=lr.append (c:=c) (l:=l) (m:=m) (vs:=po) (news:=news) (tail:=(Builtin.zeroCells z.cells (nc-(l.length+m.length))).toList) q1 hold (by omega) hs.one wA hn;rw[List.take_of_length_le (by omega)]at this;have:=this.step k1
   simpa [cells]using this
  ·have:=VR.own (c:=c.jq b (g+1) ts (l++m) (some (c.w.heap.size,nc)) (c.w.drew.alloc (.cells cells ts.1))) b (g+1) ts (l++m) c.w.heap.size nc (mT _ _) (Eg _ _);rw[List.length_append]at this;exact this
 rcases kC hb hv with⟨blk,cap,r1,rfl⟩|⟨rfl,rfl,r1⟩
 ·rcases q2 with⟨q2,-⟩|⟨iM,gV,vs,q2,q3,q4,q5,q6,q7⟩
  ·rw[r1]at q2;cases q2
  rw[r1]at q2;cases q2;have nV:=lr.Qt q0 q1 q7;have dm:l.length*ts.2<=vs.size:=by rw[q4];exact Nat.mul_le_mul_right _ q5
  by_cases qm:l.length+m.length<=cap
  ·have iw:l.length*i.size+news.length<=vs.size:=by
    rw[wA,yz,jr,q4,<- Nat.add_mul];exact Nat.mul_le_mul_right _ qm
   have hr:=Ql h0 h1 mS hi q3 hs qm iw ty;obtain⟨e1,e2,e3,e4⟩:=A9 blk news (l.length*i.size) c.w;obtain⟨k1,k2⟩:=aM.jq (l':=l++m) hb (w:=c.w.setCells blk (l.length*i.size) news) (some (blk,cap)) e1 e2 e3 (Nat.le_of_eq e4.symm) (fun k _ hk=>v8 blk news _ c.w k (fun e=>hk cap (by rw[e];exact r1))) (fun k n e=>by cases e;exact⟨by rw[e4];exact(aM.bA b blk cap r1).1,fun _=>⟨cap,r1⟩⟩);refine⟨_,_,hr,rfl,k2 ⟨IW,.inr ⟨blk,cap,(du vs.toList (l.length*i.size) news).toArray,rfl,A' blk ts.1 (0,0) news _ c.w vs q3,by simp[yi,q4],by simpa using qm,q6,?_⟩⟩,?_,k1⟩
   ·have:=lr.append (c:=c) (l:=l) (m:=m) (vs:=vs.toList) (news:=news) (tail:=vs.toList.drop (l.length*ts.2+news.length)) q1 nV (by simpa using dm) hs.one wA hn;have:=this.step k1;show lr _ (l++m) (du vs.toList (l.length*i.size) news);rw[Qy (by simp;exact iw)];rw[<- jr]at this;exact this
   ·have:=VR.own (c:=c.jq b (g+1) ts (l++m) (some (blk,cap)) (c.w.setCells blk (l.length*i.size) news)) b (g+1) ts (l++m) blk cap (mT _ _) (Eg _ _);rw[List.length_append]at this;exact this
  ·have bq:=lY q3;refine grown (vs.toList.take (l.length*ts.2)) cap (some ⟨blk,0,none⟩) (fun idx y hy=>?_) (by simp;omega) (fun d=>?_) (by omega) rfl
   ·obtain⟨u,g1,g2⟩:=nV idx y hy;have ah:=aQ hy;rw[nP q1]at ah;exact⟨u,by rw[List.getElem?_take,if_pos ah];exact g1,g2⟩
   ·have:=run_loadCells_list (P:=P) { c.w with drawn:=d } ⟨blk,0,none⟩ (vs.toList.take (l.length*ts.2)) (fun j u hu=>by
     rw[List.getElem?_take]at hu;split at hu
     ·rw[mN];exact bq j u hu
     ·cases hu)
    have hlen:(vs.toList.take (l.length*ts.2)).length=l.length*i.size:=by simp;rw[jr];omega
    rw[hlen]at this;exact this
 ·by_cases QB:m.length=0
  ·obtain rfl:m=[]:=List.eq_nil_of_length_eq_zero QB;have qp:news=[]:=List.eq_nil_of_length_eq_zero (by rw[hs.size];simp);subst qp;have hr:=Qm (b:=none) (n:=0) (cap:=0) h0 h1 mS hi hs (Nat.le_refl _) ty;obtain⟨k1,k2⟩:=aM.jq (l':=[]++[]) hb (w:=c.w) none rfl rfl rfl (Nat.le_refl _) (fun k _ _=>rfl) (fun k n e=>by cases e);exact⟨c.jq b (g+1) ts ([]++[]) none c.w,.slice none 0 0,hr,rfl,k2 ⟨fun i e he=>by simp at he,.inl ⟨rfl,rfl⟩⟩,.iu b (g+1) ts (mT _ _) (Eg _ _),k1⟩
  ·exact grown [] 0 none (fun idx y hy=>by simp[flat]at hy) (by simp) (fun d=>by simp[Builtin.firstCells]) (by simp;omega) rfl
theorem aK.wB(aM:aK G c)(ts:Nat × Nat)(iR:0<ts.2):let c':Cx:={ c with heap:=c.heap++[.arr 0 ts []] }
  aK G c'/\Step c c'/\c'.heap[c.heap.length]?=some (.arr 0 ts [])/\VR c' (.own c.heap.length 0) (.slice none 0 0):=by
 intro c';have bK:c.own c.heap.length=none:=by
  cases ho:c.own c.heap.length with
  |none=>rfl
  |some p=>have:=(aM.bA _ p.1 p.2 ho).2;omega
 have bg:Step c c':=⟨rfl,aM.bQ,rfl,rfl,rfl,Nat.le_refl _,fun _ _ _=>rfl,fun i b n hi _=>⟨n,hi⟩,fun i bx hi=>by
  have h':c'.heap[i]?=some bx:=by show(c.heap++_)[i]?=_;rw[List.getElem?_append_left (aQ hi)];exact hi
  cases bx with
  |cells cs=>exact .inl ⟨cs,h',rfl,rfl⟩
  |arr g sz l=>exact .inl ⟨g,l,h',.inr ⟨rfl,rfl,rfl⟩⟩
  |map es=>exact .inl ⟨es,h',rfl⟩
  |gone=>exact h'
  |hole=>exact⟨_,h'⟩⟩
 have eb:c'.heap[c.heap.length]?=some (.arr 0 ts []):=by show(c.heap++_)[_]?=_;simp
 refine⟨aM.next bg (fun i b n hi=>⟨(aM.bA i b n hi).1,by have:=(aM.bA i b n hi).2;show i<(c.heap++_).length;simp;omega⟩) aM.inj (fun i bx hi=>?_),bg,eb,.iu _ _ ts eb bK⟩;by_cases fR:i=c.heap.length
 ·subst fR;rw[eb]at hi;cases hi;exact .inr ⟨iR,fun i e he=>by simp at he,.inl ⟨bK,rfl⟩⟩
 ·have ah:i<c.heap.length:=by
   have:=aQ hi;have h2:c'.heap.length=c.heap.length+1:=by show(c.heap++_).length=_;simp
   omega
  have cg:(c.heap++[.arr 0 ts []])[i]?=some bx:=hi;rw[List.getElem?_append_left ah]at cg;exact .inl ⟨cg,rfl,fun _ _ _=>rfl⟩
theorem IX{o:Oper}{ac:Act}{w w':World}{args:Array Operand}{ts:Array TypeId}{x y:Operand}{t0 t1:Nat}{v v0 v1:Value}(h1:o.op=.call { callee := .builtin .append,args:=args,argTypes:=ts })(hx:args.toList=[x,y])(ht:ts.toList=[t0,t1])(e0:ac.eval x=v0)(e1:ac.eval y=v1)
  (hr:(Builtin.append_ #[t0,t1] o.type #[v0,v1]).run P w=.ok v w'):(execOp ac.eval o).run P w=.ok (.value v) w':=by
 have ha:args.map ac.eval = #[v0,v1]:=by
  apply Array.ext';rw[Array.toList_map,hx];simp[e0,e1]
 have iR:ts = #[t0,t1]:=by apply Array.ext';rw[ht]
 simp only[execOp,h1,resolve,ha,iR,Sem.run_bind,Sem.run_pure,Result.andThen_ok,invoke,builtin,hr]
theorem IY(hE:E.OK){args:Array Operand}{ub:Array TypeId}{x y:Operand}{t0 t1 e:Nat}{i0 i1 ei:br}(hx:args.toList=[x,y])(Bl:ub.toList=[t0,t1])(ln:E.T[t0]?=some i0)(wC:E.T[t1]?=some i1)(bY:i0.k=.slice e)(dz:∀ k,i1.k ≠ .int k)(bT:E.T[e]?=some ei)
  (hz:ei.zero.length=ei.size) (cQ:0<ei.size) (qo:ei.bytes<=65536) {bv:AV} (hy:aZ E.G s y bv) {m:List DV} (hm:∀ e∈m,e.cells.length=ei.size)
  (qs:∀ (c:Cx) (v:Value),VR c bv v->∃ news:List Value,Src E.P ei.size c.w v m.length news/\(∀ (j:Nat) (y:DV) (v:Value),(flat m)[j]?=some y->news[j]?=some v->VD c.bad c.w y v))
  {a:AV} (ha:aZ E.G s x a) {r:AV} {h':List af}
  (Eh:(∃ b g ts l,a=.own b g/\h[b]?=some (.arr g ts l)/\ts.1=e/\ts.2=ei.size/\l.length+m.length<=2147483648/\r=.own b (g+1)/\h'=h.set b (.arr (g+1) ts (l++m)))\/(a=.d .aH/\m.length<=2147483648/\r=.own h.length 1/\h'=h++[.arr 1 (e,ei.size) m])) :
  bw E (.call { callee := .builtin .append,args:=args,argTypes:=ub }) s h r h':=fun o c ac h1 h2 h3 h4=>by
 subst h2;obtain⟨Ba,d0,g1,g2,g3,-⟩:=cD (hE.types _ _ ln);obtain rfl:=lj (bY.symm.trans g3);obtain⟨ti1,d1,k1,k2,k3,-⟩:=cD (hE.types _ _ wC);obtain⟨ti,z,q1,q2,q3,q4⟩:=zeroOf (hE.types _ _ bT) hz cQ;obtain⟨wk,d',p1,p2,p3,p4,p5,-⟩:=cD (hE.types _ _ bT);rw[q1]at p1;cases p1;have mS:∀ k,d1 ≠ .int k:=fun k e=>dz k (by rw[k3,e];rfl);have jo:z.cells.size=ti.size:=by
  obtain⟨vs,e1,e2⟩:=q4 c;rw[e1];have:=e2.1;simp at this;simp[<- this,hz,q3]
 rcases Eh with⟨b,g,ts,l,rfl,hb,rfl,IZ,sc,rfl,rfl⟩|⟨rfl,sc,rfl,rfl⟩
 ·obtain⟨news,hs,hn⟩:=qs c _ (hy c ac h3 h4);rw[q3]at hs;obtain⟨c',v',r1,r2,r3,r4,r5⟩:=IV h3 g2 k2 mS q1 q2 jo (by rw[<- q3];exact IZ.symm) (by rw[<- p5];exact qo) hb (ha c ac h3 h4) hs hn (fun e he=>by rw[IZ];exact hm e he) sc o.type;exact⟨c',v',.inl (IX h1 hx Bl rfl rfl r1),r2,r3,r4,r5⟩
 ·obtain⟨w1,w2,w3,w4⟩:=h3.wB (e,ei.size) cQ;have mc:=w2.vr (hy c ac h3 h4);obtain⟨news,hs,hn⟩:=qs _ _ mc;rw[q3]at hs;have cG:ac.eval x=.slice none 0 0:=by
   have:=ha c ac h3 h4;generalize ac.eval x=u at this;cases this with
   |d _ _ hd=>cases hd;rfl
  obtain⟨c',v',r1,r2,r3,r4,r5⟩:=IV (ts:=(e,ei.size)) w1 g2 k2 mS q1 q2 jo q3.symm (by rw[<- p5];exact qo) w3 w4 hs hn hm (by simpa using sc) o.type;refine⟨c',v',.inl (IX h1 hx Bl cG rfl r1),?_,r3,r4,w2.trans r5⟩;rw[r2];simp
theorem I0(hE:E.OK){t e:Nat}{n cc:Operand}{i ei:br}(hi:E.T[t]?=some i)(hk:i.k=.slice e)(bT:E.T[e]?=some ei)(hz:ei.zero.length=ei.size)(cQ:0<ei.size)(qo:ei.bytes<=65536)(fA:∀ y∈ei.zero,y.fa=true){j j':IntKind}{a b:Int}(hn:aZ E.G s n (.d (.int j a)))(hc:aZ E.G s cc (.d (.int j' b)))
  (ha:0<=a) (qu:a<=b) (hb:b<=2147483648) {zd:DV} (I1:zd.cells=ei.zero):bw E (.makeSlice t n cc) s h (.own h.length 0) (h++[.arr 0 (e,ei.size) (List.replicate a.toNat zd)]):=fun o c ac h1 h2 h3 h4=>by
 subst h2;obtain⟨Ba,d0,g1,g2,g3,-⟩:=cD (hE.types _ _ hi);obtain rfl:=lj (hk.symm.trans g3);obtain⟨ti,z,q1,q2,q3,q4⟩:=zeroOf (hE.types _ _ bT) hz cQ;obtain⟨wk,d',p1,p2,p3,p4,p5,-⟩:=cD (hE.types _ _ bT);rw[q1]at p1;cases p1;obtain⟨zs,jo,ky⟩:=q4 c;have l3:zs.length=ei.size:=by rw[<- ky.1];simpa using hz
 have QC:(ti.bytes:Int)*b<=281474976710656:=by
  have h5:(ti.bytes:Int)<=65536:=by rw[<- p5];omega
  calc (ti.bytes:Int)*b<=65536*2147483648:=Int.mul_le_mul h5 hb (by omega) (by omega)
   _<=281474976710656:=by decide
 have hr:=run_make (P:=E.P) c.w t e ti z g2 q1 q2 j j' a b ha qu QC (by omega);have e1:=dW (hn c ac h3 h4);have e2:=dW (hc c ac h3 h4);obtain⟨k1,k2⟩:=h3.add (.arr 0 (e,ei.size) (List.replicate a.toNat zd)) b.toNat (.cells (madeCells z.cells (b.toNat*ti.size)) e);have dY:iz ei.size (List.replicate a.toNat zd):=fun i e he=>by
  rw[List.getElem?_replicate]at he;split at he
  ·cases he;rw[I1,hz]
  ·cases he
 have bF:(c.add (.arr 0 (e,ei.size) (List.replicate a.toNat zd)) b.toNat (.cells (madeCells z.cells (b.toNat*ti.size)) e)).own c.heap.length=some (c.w.heap.size,b.toNat):=by simp[Cx.add]
 have mT:(c.add (.arr 0 (e,ei.size) (List.replicate a.toNat zd)) b.toNat (.cells (madeCells z.cells (b.toNat*ti.size)) e)).heap[c.heap.length]?=some (.arr 0 (e,ei.size) (List.replicate a.toNat zd)):=by simp[Cx.add]
 refine⟨_,.slice (some ⟨c.w.heap.size,0,none⟩) a.toNat b.toNat,.inl ?_,rfl,k2 ⟨cQ,dY,.inr ⟨c.w.heap.size,b.toNat,madeCells z.cells (b.toNat*ti.size),bF,heap_alloc_new _ _,by rw[size_madeCells,q3],by simp;omega,pt (by omega),?_⟩⟩,?_,k1⟩
 ·simp only[execOp,h1,e1,e2,Sem.run_bind,hr,Result.andThen_ok,Sem.run_pure];rfl
 ·intro i' j2 e' x he hx;have jL:j2<ei.size:=by rw[<- dY i' e' he];exact aQ hx
  rw[List.getElem?_replicate]at he;split at he
  ·rename_i ah;cases he;rw[I1]at hx;have pq:i'*ei.size+j2<b.toNat*ti.size:=by
    rw[<- q3];have:(i'+1)*ei.size<=b.toNat*ei.size:=Nat.mul_le_mul_right _ (by omega);rw[Nat.add_mul,Nat.one_mul]at this;omega
   have pr:(i'*ei.size+j2) % ei.size=j2:=by rw[Nat.mul_comm,Nat.mul_add_mod,Nat.mod_eq_of_lt jL]
   have bH:(madeCells z.cells (b.toNat*ti.size))[i'*ei.size+j2]?=some (zs[j2]'(by omega)):=by
    simp[madeCells,pq,jo,l3,pr,jL]
   have fh:=ky.pg j2 x (zs[j2]'(by omega)) hx (by simp[l3,jL]);exact⟨_,bH,yh fh (fA x (List.mem_of_getElem? hx)),k1.vd fh⟩
  ·cases he
 ·have:=VR.own (c:=c.add (.arr 0 (e,ei.size) (List.replicate a.toNat zd)) b.toNat (.cells (madeCells z.cells (b.toNat*ti.size)) e)) c.heap.length 0 (e,ei.size) _ c.w.heap.size b.toNat mT bF;rw[List.length_replicate]at this;exact this
theorem I2(hE:E.OK){o:Op}{stop:Prop}{k:AV->List af->Prop}(H:r8 E.T E.G o s h stop k):stop\/∃ v h',k v h'/\bw E o s h v h':=by
 unfold r8 at H;split at H
 ·rename_i args ub;rcases IS H with h|⟨x,y,hx,H⟩
  ·exact .inl h
  rcases IS H with h|⟨t0,t1,ht,H⟩
  ·exact .inl h
  rcases bo H with h|⟨i0,ln,H⟩
  ·exact .inl h
  rcases bo H with h|⟨i1,wC,H⟩
  ·exact .inl h
  split at H
  ·rename_i e bY;rcases bo H with h|⟨ei,bT,H⟩
   ·exact .inl h
   split at H
   ·rename_i q1 q2 q3;rcases cq H with h|⟨a,ha,H⟩
    ·exact .inl h
    rcases cq H with h|⟨b,hb,H⟩
    ·exact .inl h
    have fin:∀ (m:List DV),(∀ k,i1.k ≠ .int k)->((∀ e∈m,e.cells.length=ei.size)->∀ (c:Cx) (v:Value),VR c b v->∃ news:List Value,Src E.P ei.size c.w v m.length news/\(∀ (j:Nat) (y:DV) (v:Value),(flat m)[j]?=some y->news[j]?=some v->VD c.bad c.w y v)) ->
      Bi e ei h a m stop k->stop\/∃ v h',k v h'/\bw E (.call { callee := .builtin .append,args:=args,argTypes:=ub }) s h v h':=by
     intro m dz qs H;have gen:=fun{r h'} (hm:∀ e∈m,e.cells.length=ei.size) Eh=>IY (h:=h) (r:=r) (h':=h') hE hx ht ln wC bY dz bT (Nat.eq_of_beq_eq_true q1) (iA q2) (Nat.le_of_ble_eq_true q3) hb hm (qs hm) ha Eh;unfold Bi at H;split at H
     ·obtain⟨⟨h1,h2⟩,H⟩:=mR H;rw[rR,Nat.zero_add]at H;exact .inr ⟨_,_,H,gen h2 (.inr ⟨rfl,h1,rfl,rfl⟩)⟩
     ·rcases bo H with h|⟨bx,iN,H⟩
      ·exact .inl h
      split at H
      ·split at H
       ·rename_i p1 p2 p3;have p1:=Nat.eq_of_beq_eq_true p1;subst p1;obtain⟨⟨h1,h2⟩,H⟩:=mR H;rw[gq]at H;exact .inr ⟨_,_,H,gen h2 (.inl ⟨_,_,_,_,rfl,iN,Nat.eq_of_beq_eq_true p2,Nat.eq_of_beq_eq_true p3,h1,rfl,rfl⟩)⟩
       ·exact .inl H
      ·exact .inl H
     ·exact .inl H
    split at H
    ·rename_i e' m dz;exact fin m (fun k hk=>by rw[dz]at hk;cases hk) (fun hm c v hv=>by cases hv with|d _ _ hv=>exact IT (iA q2) hm hv) H
    ·rename_i z dz;split at H
     ·refine fin (z.map kB) (fun k hk=>by rw[dz]at hk;cases hk) (fun hm c v hv=>?_) H;have eD:=pf hv;subst eD;by_cases hz:z=[]
      ·subst hz;exact⟨[],⟨fun _=>by simp[Builtin.lenOf,ByteArray.size],fun d=>by simp[Builtin.firstCells],fun v hv=>by simp at hv,by simp⟩,fun j y v hy=>by simp[flat]at hy⟩
      ·obtain⟨b0,r,hr⟩:=List.exists_cons_of_ne_nil hz;have h1:1=ei.size:=hm (kB b0) (by rw[hr];simp);rw[<- h1];exact⟨_,IU.1,(IU (P:=E.P)).2⟩
     ·exact .inl H
    ·exact .inl H
   ·exact .inl H
  ·exact .inl H
 ·rcases bo H with h|⟨i,hi,H⟩
  ·exact .inl h
  split at H
  ·rename_i e hk;rcases bo H with h|⟨ei,bT,H⟩
   ·exact .inl h
   split at H
   ·rename_i q1 q2 q3 q4;rcases cq H with h|⟨a,ha,H⟩
    ·exact .inl h
    split at H
    ·rcases cq H with h|⟨b,hb,H⟩
     ·exact .inl h
     split at H
     ·split at H
      ·rename_i z gr;obtain⟨⟨h1,h2,h3⟩,H⟩:=mR H;rw[rR,Nat.zero_add]at H;have jo:z.fa=true:=by rw[gr]at q4;simpa using q4
       exact .inr ⟨_,_,H,I0 hE hi hk bT (Nat.eq_of_beq_eq_true q1) (iA q2) (Nat.le_of_ble_eq_true q3) (fun y hy=>List.all_eq_true.1 q4 y hy) ha hb h1 h2 h3 (zd:=z) (by rw[gr];cases z<;>first|rfl|cases jo)⟩
      ·obtain⟨⟨h1,h2,h3⟩,H⟩:=mR H;rw[rR,Nat.zero_add]at H;exact .inr ⟨_,_,H,I0 hE hi hk bT (Nat.eq_of_beq_eq_true q1) (iA q2) (Nat.le_of_ble_eq_true q3) (fun y hy=>List.all_eq_true.1 q4 y hy) ha hb h1 h2 h3 rfl⟩
     ·exact .inl H
    ·exact .inl H
   ·exact .inl H
  ·exact .inl H
 ·exact .inl H
end
end Go.ay
end
section
namespace Go.ay
open Go Go.RowKit
@[irreducible] def se (l : List DV) (sz : Nat) (n : Int) (K : DV -> Prop) : Prop := ∃ e, 0 <= n /\ l[n.toNat]? = some e /\ e.cells.length = sz /\ K e
theorem eM{l:List DV}{sz:Nat}{n:Int}{K:DV->Prop}(e:DV)(h0:0<=n)(he:l[n.toNat]?=some e)(hs:e.cells.length=sz)(k:K e):se l sz n K:=by unfold se;exact⟨e,h0,he,hs,k⟩
theorem Ei{l:List DV}{sz:Nat}{n:Int}{K:DV->Prop}(h:se l sz n K):∃ e,0<=n/\l[n.toNat]?=some e/\e.cells.length=sz/\K e:=by unfold se at h;exact h
@[irreducible] def yA (s : List UInt8) (n : Int) (K : UInt8 -> Prop) : Prop := ∃ b, 0 <= n /\ s[n.toNat]? = some b /\ K b
theorem kD{s:List UInt8}{n:Int}{K:UInt8->Prop}(b:UInt8)(h0:0<=n)(hb:s[n.toNat]?=some b)(k:K b):yA s n K:=by unfold yA;exact⟨b,h0,hb,k⟩
theorem QD{s:List UInt8}{n:Int}{K:UInt8->Prop}(h:yA s n K):∃ b,0<=n/\s[n.toNat]?=some b/\K b:=by unfold yA at h;exact h
@[irreducible] def yB (c : List DV) (len sz : Nat) (n : Int) (K : DV -> Prop) : Prop := ∃ e, 0 <= n /\ n < len /\ 0 < sz /\ (c.drop (n.toNat * sz)).take sz = e.cells /\ e.cells.length = sz /\ K e
theorem QE{c:List DV}{len sz:Nat}{n:Int}{K:DV->Prop}(e:DV)(h0:0<=n)(h1:n<len)(hz:0<sz)(he:(c.drop (n.toNat*sz)).take sz=e.cells)(hs:e.cells.length=sz)(k:K e):yB c len sz n K:=by unfold yB;exact⟨e,h0,h1,hz,he,hs,k⟩
theorem QF{c:List DV}{len sz:Nat}{n:Int}{K:DV->Prop}(h:yB c len sz n K):∃ e,0<=n/\n<len/\0<sz/\(c.drop (n.toNat*sz)).take sz=e.cells/\e.cells.length=sz/\K e:=by unfold yB at h;exact h
def Bm(G:List (Nat × DV))(s:List AV)(x:Option Operand)(stop:Prop)(k:Option Int->Prop):Prop :=
 match x with
 |none=>k none
 |some x=>ca G s x stop fun
  | .d (.int _ n)=>k (some n)
  |_=>stop
def Bn(e:DV)(off:Nat)(ds:List DV)(stop:Prop)(k:DV->Prop):Prop :=
 match e with
 | .agg c=>match Nat.ble (off+ds.length) c.length with
  |true=>vW c off ds fun c'=>k (.agg c')
  |false=>stop
 |_=>match off,ds with
  |0,[d]=>match d.fa with
   |true=>k d
   |false=>stop
  |_,_=>stop
def Ej(e:DV)(off:Nat)(vs:List AV)(stop:Prop)(k:DV->Prop):Prop:=qd vs stop fun ds=>Bn e off ds stop k
def qv(T:List br)(G:List (Nat × DV))(o:Op)(s:List AV)(h:List af)(stop:Prop)(k:AV->List af->Prop):Prop :=
 match o with
 | .indexAddr t x i=>aT T t stop fun ti=>ca G s x stop fun a=>ca G s i stop fun
  | .d (.int _ n)=>match ti.k with
   | .slice e=>aT T e stop fun ei=>match a with
    | .d (.sl l)=>match Nat.blt 0 ei.size with
     |true=>se l ei.size n fun e=>k (.bO e 0) h
     |false=>stop
    | .own b g=>aT h b stop fun
     | .arr g' ts l=>match Nat.beq g g',Nat.beq ts.2 ei.size with
      |true,true=>need (0<=n/\n<l.length) (k (.cV b g n.toNat 0) h)
      |_,_=>stop
     |_=>stop
    |_=>stop
   | .array len e=>aT T e stop fun ei=>match a with
    | .bO (.agg c) 0=>yB c len ei.size n fun e'=>k (.bO e' 0) h
    |_=>stop
   |_=>stop
  |_=>stop
 | .index t x i=>aT T t stop fun ti=>ca G s x stop fun a=>ca G s i stop fun
  | .d (.int _ n)=>match ti.k,a with
   | .string,.d (.str l)=>yA l n fun b=>k (.d (.int .u8 b.toNat)) h
   |_,_=>stop
  |_=>stop
 | .slice t x lo hi none=>aT T t stop fun ti=>ca G s x stop fun a=>Bm G s lo stop fun l=>Bm G s hi stop fun u=>match ti.k,a with
  | .string,.d (.str z)=>need (0<=l.getD 0/\l.getD 0<=u.getD z.length/\u.getD z.length<=z.length) (k (.d (.str ((z.take (u.getD z.length).toNat).drop (l.getD 0).toNat))) h)
  | .slice e,.d (.sl z)=>aT T e stop fun ei=>need (0<=l.getD 0/\l.getD 0<=u.getD z.length/\u.getD z.length<=z.length/\∀ e∈z,e.cells.length=ei.size) (k (.d (.sl ((z.take (u.getD z.length).toNat).drop (l.getD 0).toNat))) h)
  |_,_=>stop
 | .load t x=>aT T t stop fun ti=>ca G s x stop fun
  | .cV b g i off=>aT h b stop fun
   | .arr g' ts l=>match Nat.beq g g' with
    |true=>se l ts.2 i fun e=>match e with
     | .agg c=>oG .d c fun c'=>lh ti c' off stop fun v=>k v h
     |e=>lh ti [.d e] off stop fun v=>k v h
    |false=>stop
   |_=>stop
  |_=>stop
 | .store t x y=>aT T t stop fun ti=>ca G s y stop fun v=>ca G s x stop fun
  | .cV b g i off=>aT h b stop fun
   | .arr g' ts l=>match Nat.beq g g' with
    |true=>vY v stop fun vs=>match Nat.beq vs.length ti.size,vs.all AV.fa with
     |true,true=>se l ts.2 i fun e=>Ej e off vs stop fun e'=>fz h b (.arr g ts (l.set i e')) fun h'=>k (.d .undef) h'
     |_,_=>stop
    |false=>stop
   |_=>stop
  |_=>stop
 |o=>r8 T G o s h stop k
section
variable {E:Env} {s:List AV} {h:List af} {c:Cx}
theorem Ek{P:Program}{t e:Nat}{i ei:br}(ht:eU P t=some i)(wD:eU P e=some ei)(hk:i.k=.slice e){j:IntKind}{n:Int}{b o len cap:Nat}{w:World}(h0:0<=n)(h1:n<len) :
  (Instr.indexAt t (.slice (some ⟨b,o,none⟩) len cap) (.int j n)).run P w=.ok (.pointer (some ⟨b,o+n.toNat*ei.size,none⟩)) w:=by
 obtain⟨ti,d,g1,g2,g3,-⟩:=cD ht;obtain rfl:=lj (hk.symm.trans g3);simp only[Instr.indexAt,asIntOf,Sem.run_bind,Sem.run_pure,Result.andThen_ok,run_underlying g2,h0,h1,and_self,if_true,run_sizeOf wD,mN]
theorem yC{P:Program}{o:Oper}{ac:Act}{w:World}{t:Nat}{x i:Operand}{v:Value}(h1:o.op=.indexAddr t x i)(hr:(Instr.indexAt t (ac.eval x) (ac.eval i)).run P w=.ok v w):(execOp ac.eval o).run P w=.ok (.value v) w:=by
 simp only[execOp,h1,Sem.run_bind,hr,Result.andThen_ok,Sem.run_pure]
theorem QG{l:List DV}{v:Value}(hv:VR c (.d (.sl l)) v){n sz:Nat}{e:DV}(he:l[n]?=some e)(hs:e.cells.length=sz)(cQ:0<sz):∃ blk off cap,v=.slice (some ⟨blk,off,none⟩) l.length cap/\VR c (.bO e 0) (.pointer (some ⟨blk,off+n*sz,none⟩)):=by
 cases hv with
 |d _ _ hd=>cases hd with
  |slnil=>simp at he
  |ku=>simp at he
  |sl _ blk off cap dc f hb bP jm hlen dK bH bW =>
   obtain rfl:dc=sz:=(hlen n e he).symm.trans hs;refine⟨blk,off,cap,rfl,?_⟩;have aI:l≠[]:=fun h0=>by subst h0;simp at he
   have:=VR.bO (c:=c) e 0 blk (off+n*dc) (fun j=>f n j) (hb aI) (fun h0=>by rw[h0]at hs;simp at hs;omega) (fun j x hx=>by rw[Nat.add_assoc];exact dK n j e x he hx) (fun j x hx=>bH n j e x he hx);exact this
theorem QH(hE:E.OK){t e:Nat}{x i:Operand}{ti ei:br}(bV:E.T[t]?=some ti)(bT:E.T[e]?=some ei)(hk:ti.k=.slice e){l:List DV}{j:IntKind}{n:Int}(hx:aZ E.G s x (.d (.sl l)))(hi:aZ E.G s i (.d (.int j n)))(cQ:0<ei.size){y:DV}(h0:0<=n)(hy:l[n.toNat]?=some y)(hs:y.cells.length=ei.size) :
  bw E (.indexAddr t x i) s h (.bO y 0) h := .quiet fun o c ac h1 _ h3 h4=>by
 obtain⟨blk,off,cap,e1,e2⟩:=QG (hx c ac h3 h4) hy hs cQ;refine⟨_,yC h1 ?_,e2⟩;rw[e1,dW (hi c ac h3 h4)];have:=aQ hy;exact Ek (hE.types t ti bV) (hE.types e ei bT) hk h0 (by omega)
theorem I3{b g i off:Nat}{ts:Nat × Nat}{l:List DV}(hb:c.heap[b]?=some (.arr g ts l)){v:Value}(hv:VR c (.cV b g i off) v):∃ blk cap,c.own b=some (blk,cap)/\v=.pointer (some ⟨blk,i*ts.2+off,none⟩)/\i<l.length:=by
 cases hv with
 |cV _ _ _ _ _ l' blk cap k1 k2 k3=>rw[hb]at k1;cases k1;exact⟨blk,cap,k2,rfl,k3⟩
 |lW _ _ g' _ _ _ _ _ k1 k2 _=>rw[hb]at k1;cases k1;omega
 |lX _ _ _ _ _ k1 _=>rw[hb]at k1;cases k1
theorem QI(hE:E.OK){t e:Nat}{x i:Operand}{ti ei:br}(bV:E.T[t]?=some ti)(bT:E.T[e]?=some ei)(hk:ti.k=.slice e){b g:Nat}{ts:Nat × Nat}{l:List DV}(hb:h[b]?=some (.arr g ts l))(iR:ts.2=ei.size){j:IntKind}{n:Int}(hx:aZ E.G s x (.own b g))(hi:aZ E.G s i (.d (.int j n)))(h0:0<=n)(h1:n<l.length) :
  bw E (.indexAddr t x i) s h (.cV b g n.toNat 0) h := .quiet fun o c ac e1 e2 h3 h4=>by
 subst e2;rcases kC hb (hx c ac h3 h4)with⟨blk,cap,q1,q2⟩|⟨rfl,-,-⟩
 ·refine⟨_,yC e1 (v := .pointer (some ⟨blk,0+n.toNat*ei.size,none⟩)) ?_,?_⟩
  ·rw[q2,dW (hi c ac h3 h4)];exact Ek (hE.types t ti bV) (hE.types e ei bT) hk h0 h1
  ·have:=VR.cV (c:=c) b g n.toNat 0 ts l blk cap hb q1 (by omega);rw[iR]at this
   simpa using this
 ·simp at h1;omega
theorem QJ(hE:E.OK){t e len:Nat}{x i:Operand}{ti ei:br}(bV:E.T[t]?=some ti)(bT:E.T[e]?=some ei)(hk:ti.k=.array len e){cs:List DV}{j:IntKind}{n:Int}(hx:aZ E.G s x (.bO (.agg cs) 0))(hi:aZ E.G s i (.d (.int j n))){y:DV}(h0:0<=n)(h1:n<len)(cQ:0<ei.size)(hy:(cs.drop (n.toNat*ei.size)).take ei.size=y.cells)(hs:y.cells.length=ei.size) :
  bw E (.indexAddr t x i) s h (.bO y 0) h := .quiet fun o c ac e1 _ h3 h4=>by
 obtain⟨me,d,g1,g2,g3,-⟩:=cD (hE.types t ti bV);obtain rfl:=we (hk.symm.trans g3);have key:∀ p,VR c (.bO (.agg cs) 0) p->∃ blk o',p=.pointer (some ⟨blk,o',none⟩)/\VR c (.bO y 0) (.pointer (some ⟨blk,o'+n.toNat*ei.size,none⟩)):=fun p hp=>by
  cases hp with
  |bO _ _ blk o' f k1 k2 k3 k4 =>
   have dE:∀ (jj:Nat) (z:DV),y.cells[jj]?=some z->cs[n.toNat*ei.size+jj]?=some z:=fun jj z hz=>by
    rw[<- hy,List.getElem?_take]at hz;split at hz
    ·simpa using hz
    ·cases hz
   exact⟨blk,o'+0,rfl,VR.bO y 0 blk (o'+0+n.toNat*ei.size) (fun jj=>f (n.toNat*ei.size+jj)) k1 (fun hh=>by rw[hh]at hs;simp at hs;omega) (fun jj z hz=>by rw[Nat.add_zero,Nat.add_assoc];exact k3 _ z (dE jj z hz)) (fun jj z hz=>k4 _ z (dE jj z hz))⟩
 obtain⟨blk,o',q1,q2⟩:=key _ (hx c ac h3 h4);refine⟨_,yC e1 ?_,q2⟩;rw[q1,dW (hi c ac h3 h4)];simp only[Instr.indexAt,asIntOf,Sem.run_bind,Sem.run_pure,Result.andThen_ok,run_underlying g2,Instr.sureAddr,h0,h1,and_self,if_true,run_sizeOf (hE.types e ei bT),mN]
theorem QK(hE:E.OK){t:Nat}{x i:Operand}{ti:br}(bV:E.T[t]?=some ti)(hk:ti.k=.string){l:List UInt8}{j:IntKind}{n:Int}(hx:aZ E.G s x (.d (.str l)))(hi:aZ E.G s i (.d (.int j n))){b:UInt8}(h0:0<=n)(hb:l[n.toNat]?=some b) :
  bw E (.index t x i) s h (.d (.int .u8 b.toNat)) h := .quiet fun o c ac e1 _ h3 h4=>by
 obtain⟨me,d,g1,g2,g3,-⟩:=cD (hE.types t ti bV);obtain rfl:=rU (hk.symm.trans g3);have ah:=aQ hb;have dE:(ByteArray.mk l.toArray)[n.toNat]?=some b:=by
  have hs:n.toNat<(ByteArray.mk l.toArray).size:=by simpa [ByteArray.size]using ah
  rw[getElem?_pos (ByteArray.mk l.toArray) n.toNat hs];have:=List.getElem?_eq_getElem ah;rw[hb]at this
  simpa [ByteArray.getElem_eq_getElem_data]using this.symm
 refine⟨.int .u8 b.toNat,?_,.d _ _ (.int _ _)⟩;simp only[execOp,e1,pf (hx c ac h3 h4),dW (hi c ac h3 h4),Instr.index,asIntOf,Sem.run_bind,Sem.run_pure,Result.andThen_ok,run_underlying g2,h0,if_true,dE]
def yD(G:List (Nat × DV))(s:List AV)(x:Option Operand)(n:Option Int):Prop:=∀ (c:Cx) (a:Act),aK G c->VS c s a.tmps->match n with
 |none=>x.map a.eval=none
 |some n=>∃ j,x.map a.eval=some (.int j n)
theorem I4{x:Option Operand}{stop:Prop}{k:Option Int->Prop}(H:Bm E.G s x stop k):stop\/∃ n,yD E.G s x n/\k n:=by
 unfold Bm at H;split at H
 ·exact .inr ⟨none,fun _ _ _ _=>rfl,H⟩
 ·rcases cq H with h|⟨v,hv,H⟩
  ·exact .inl h
  split at H
  ·rename_i j n;refine .inr ⟨some n,fun c a h1 h2=>?_,H⟩;show ∃ j,_=some (Value.int j n);exact⟨j,by simp[dW (hv c a h1 h2)]⟩
  ·exact .inl H
theorem El{P:Program}{w:World}{isSlice:Bool}{len cap:Nat}{lo hi:Option Value}{l u:Option Int}(hl:match l with|none=>lo=none|some n=>∃ j,lo=some (.int j n))(hu:match u with|none=>hi=none|some n=>∃ j,hi=some (.int j n))
  (h0:0<=l.getD 0) (h1:l.getD 0<=u.getD len) (h2:u.getD len<=len) (hc:len<=cap) :
  (Instr.sliceBounds isSlice len cap lo hi none).run P w=.ok ((l.getD 0).toNat,(u.getD len).toNat,cap) w:=by
 cases l with
 |none =>
  simp only at hl;subst hl;cases u with
  |none =>
   simp only at hu;subst hu;simp only[Instr.sliceBounds,Sem.run_bind,Sem.run_pure,Result.andThen_ok,Option.getD_none,Int.toNat_natCast,Int.toNat_zero]
  |some n =>
   obtain⟨j,rfl⟩:=hu;simp only[Option.getD_some,Option.getD_none]at h1 h2;simp only[Instr.sliceBounds,Sem.run_bind,Sem.run_pure,Result.andThen_ok,Option.getD_none,Option.getD_some,Int.toNat_zero,run_sliceBound w j n cap _ h1 (by omega)]
 |some m =>
  obtain⟨i,rfl⟩:=hl;cases u with
  |none =>
   simp only at hu;subst hu;simp only[Option.getD_some,Option.getD_none]at h0 h1;simp only[Instr.sliceBounds,Sem.run_bind,Sem.run_pure,Result.andThen_ok,Option.getD_none,Option.getD_some,Int.toNat_natCast,run_sliceBound w i m len _ h0 h1]
  |some n =>
   obtain⟨j,rfl⟩:=hu;simp only[Option.getD_some]at h0 h1 h2;simp only[Instr.sliceBounds,Sem.run_bind,Sem.run_pure,Result.andThen_ok,Option.getD_some,run_sliceBound w j n cap _ (by omega) (by omega),run_sliceBound w i m n.toNat _ h0 (by omega)]
theorem QL(l:List UInt8)(a b:Nat):(ByteArray.mk l.toArray).extract a b=ByteArray.mk ((l.take b).drop a).toArray:=by
 apply ByteArray.ext;simp[List.extract_eq_take_drop,List.drop_take]
theorem QM(hE:E.OK){t:Nat}{x:Operand}{lo hi:Option Operand}{ti:br}(bV:E.T[t]?=some ti)(hk:ti.k=.string){z:List UInt8}{l u:Option Int}(hx:aZ E.G s x (.d (.str z)))(hl:yD E.G s lo l)(hu:yD E.G s hi u)
  (h0:0<=l.getD 0) (h1:l.getD 0<=u.getD z.length) (h2:u.getD z.length<=z.length):bw E (.slice t x lo hi none) s h (.d (.str ((z.take (u.getD z.length).toNat).drop (l.getD 0).toNat))) h := .quiet fun o c ac e1 _ h3 h4=>by
 obtain⟨me,d,g1,g2,g3,-⟩:=cD (hE.types t ti bV);obtain rfl:=rU (hk.symm.trans g3);have bP:(ByteArray.mk z.toArray).size=z.length:=by simp[ByteArray.size]
 have hb:=El (P:=E.P) (w:=c.w) (isSlice:=false) (len:=z.length) (cap:=z.length) (hl c ac h3 h4) (hu c ac h3 h4) h0 h1 h2 (Nat.le_refl _);refine⟨_,?_,.d _ _ (.str _)⟩;simp only[execOp,e1,pf (hx c ac h3 h4),Instr.sliceAt,Instr.slice,Sem.run_bind,Sem.run_pure,Result.andThen_ok,run_underlying g2,Option.map_none,Option.isSome_none,Bool.false_eq_true,if_false,bP,hb,QL]
theorem I5{bad:Nat->Prop}{w:World}{z:List DV}{v:Value}(hv:VD bad w (.sl z) v){lo hi sz:Nat}(h1:lo<=hi)(h2:hi<=z.length)(bP:∀ e∈z,e.cells.length=sz):∃ a cap,v=.slice a z.length cap/\z.length<=cap/\VD bad w (.sl ((z.take hi).drop lo)) (.slice (if cap=lo then a else a.map (·.add (lo*sz))) (hi-lo) (cap-lo)):=by
 have hlen:((z.take hi).drop lo).length=hi-lo:=by simp;omega
 cases hv with
 |slnil =>
  simp at h2;subst h2;simp at h1;subst h1;exact⟨none,0,rfl,Nat.le_refl _,by simpa using VD.slnil⟩
 |ku a =>
  simp at h2;subst h2;simp at h1;subst h1;exact⟨some a,0,rfl,Nat.le_refl _,by simpa using VD.ku a⟩
 |sl _ blk off cap dc f hb Bj jm oI dK bH bW =>
  refine⟨some ⟨blk,off,none⟩,cap,rfl,jm,?_⟩;by_cases hc:cap=lo
  ·have:hi=lo:=by omega
   subst this;have e:(z.take hi).drop hi=[]:=by simp
   rw[e,if_pos hc,Nat.sub_self];exact .sl [] blk off (cap-hi) dc f (fun h=>absurd rfl h) Bj (Nat.zero_le _) (fun i e he=>by simp at he) (fun i j e x he=>by simp at he) (fun i j e x he=>by simp at he) (fun i j e x he=>by simp at he)
  ·rw[if_neg hc,<- hlen];simp only[Option.map_some,mN];have dE:∀ (i:Nat) (e:DV),((z.take hi).drop lo)[i]?=some e->z[lo+i]?=some e:=fun i e he=>by
    simp only[List.getElem?_drop,List.getElem?_take]at he;split at he
    ·exact he
    ·cases he
   by_cases aI:(z.take hi).drop lo=[]
   ·rw[aI];exact .sl [] blk _ (cap-lo) dc f (fun h=>absurd rfl h) Bj (Nat.zero_le _) (fun i e he=>by simp at he) (fun i j e x he=>by simp at he) (fun i j e x he=>by simp at he) (fun i j e x he=>by simp at he)
   ·obtain⟨e0,r,hr⟩:=List.exists_cons_of_ne_nil aI;have Em:=dE 0 e0 (by rw[hr];rfl);have nN:dc=sz:=(oI _ _ Em).symm.trans (bP e0 (List.mem_of_getElem? Em));subst nN;refine .sl _ blk (off+lo*dc) (cap-lo) dc (fun i j=>f (lo+i) j) (fun _=>hb (fun h=>by subst h;simp at Em)) Bj (by rw[hlen];omega) (fun i e he=>oI _ _ (dE i e he)) (fun i j e x he hx=>?_) (fun i j e x he hx=>bH _ _ _ _ (dE i e he) hx) (fun i j e x he hx=>bW _ _ _ _ (dE i e he) hx);have:=dK _ _ _ _ (dE i e he) hx;rw[Nat.add_mul]at this;rw[show off+lo*dc+(i*dc+j)=off+(lo*dc+i*dc+j) by omega];exact this
theorem QN(hE:E.OK){t e:Nat}{x:Operand}{lo hi:Option Operand}{ti ei:br}(bV:E.T[t]?=some ti)(bT:E.T[e]?=some ei)(hk:ti.k=.slice e){z:List DV}{l u:Option Int}(hx:aZ E.G s x (.d (.sl z)))(hl:yD E.G s lo l)(hu:yD E.G s hi u)
  (h0:0<=l.getD 0) (h1:l.getD 0<=u.getD z.length) (h2:u.getD z.length<=z.length) (bP:∀ e∈z,e.cells.length=ei.size):bw E (.slice t x lo hi none) s h (.d (.sl ((z.take (u.getD z.length).toNat).drop (l.getD 0).toNat))) h := .quiet fun o c ac e1 _ h3 h4=>by
 obtain⟨me,d,g1,g2,g3,-⟩:=cD (hE.types t ti bV);obtain rfl:=lj (hk.symm.trans g3);have hv:=hx c ac h3 h4;generalize En:ac.eval x=v at hv;cases hv with
 |d _ _ hv =>
  obtain⟨a,cap,rfl,jm,hd⟩:=I5 hv (lo:=(l.getD 0).toNat) (hi:=(u.getD z.length).toNat) (by omega) (by omega) bP;have hb:=El (P:=E.P) (w:=c.w) (isSlice:=true) (len:=z.length) (cap:=cap) (hl c ac h3 h4) (hu c ac h3 h4) h0 h1 h2 jm;refine⟨_,?_,.d _ _ hd⟩;simp only[execOp,e1,En,Instr.sliceAt,Instr.slice,Sem.run_bind,Sem.run_pure,Result.andThen_ok,run_underlying g2,Option.map_none,hb,run_sizeOf (hE.types e ei bT)]
theorem aK.elem{G:List (Nat × DV)}(ho:aK G c){b g:Nat}{ts:Nat × Nat}{l:List DV}(hb:c.heap[b]?=some (.arr g ts l)){blk cap:Nat}(bF:c.own b=some (blk,cap)){i:Nat}{e:DV}(he:l[i]?=some e) :
  ∃ (vs:Array Value) (us:List Value),c.w.heap[blk]?=some (.cells vs ts.1 (0,0))/\us.length=ts.2/\A7 c.w blk (i*ts.2) us/\VL c (e.cells.map .d) us/\i*ts.2+ts.2<=vs.size:=by
 obtain⟨q0,q1,q2⟩:=ho.box b _ hb;rcases q2 with⟨q2,-⟩|⟨iM,gV,vs,q2,q3,q4,q5,q6,q7⟩
 ·rw[bF]at q2;cases q2
 ·rw[bF]at q2;cases q2;have hlen:=q1 i e he;have hi:=aQ he;have iw:i*ts.2+ts.2<=vs.size:=by
   rw[q4]
   calc i*ts.2+ts.2=(i+1)*ts.2:=by rw[Nat.add_mul,Nat.one_mul]
    _<=cap*ts.2:=Nat.mul_le_mul_right _ (by omega)
  refine⟨vs,(vs.toList.drop (i*ts.2)).take ts.2,q3,by simp;omega,fun j v hv=>?_,.tO (by simp[hlen];omega) (fun j x v hx hv=>?_),iw⟩
  ·rw[List.getElem?_take]at hv;split at hv
   ·rw[List.getElem?_drop]at hv;have:=lY q3 (i*ts.2+j) v hv
    simpa using this
   ·cases hv
  ·obtain⟨u,k1,-,k2⟩:=q7 i j e x he hx;rw[List.getElem?_take]at hv;split at hv
   ·rw[List.getElem?_drop]at hv;have:vs[i*ts.2+j]?=some v:=by simpa using hv
    rw[k1]at this;cases this;exact k2
   ·cases hv
theorem I6(hE:E.OK){t:Nat}{x:Operand}{ti:br}(bV:E.T[t]?=some ti){b g i off:Nat}{ts:Nat × Nat}{l:List DV}(hb:h[b]?=some (.arr g ts l))(hx:aZ E.G s x (.cV b g i off)){e:DV}(he:l[i]?=some e){stop:Prop}{k:AV->Prop}{cs:List AV}(ec:cs=e.cells.map .d)(H:lh ti cs off stop k) :
  stop\/∃ v,k v/\bw E (.load t x) s h v h:=by
 rcases A8 H with h1|⟨v,hk,hp⟩
 ·exact .inl h1
 refine .inr ⟨v,hk,.quiet fun o c ac h1 h2 h3 h4=>?_⟩;subst h2;obtain⟨blk,cap,q1,q2,q3⟩:=I3 hb (hx c ac h3 h4);obtain⟨vs,us,r1,r2,r3,r4,r5⟩:=h3.elem hb q1 he;obtain⟨u,hu,qf⟩:=hp E.P t c blk (i*ts.2) us (hE.types t ti bV) (by rw[ec];exact r4) r3;refine⟨u,?_,qf⟩;simp only[execOp,h1,q2,Sem.run_bind,hu,Result.andThen_ok,Sem.run_pure]
theorem aK.QO{G:List (Nat × DV)}(ho:aK G c){b g blk cap:Nat}{ts:Nat × Nat}{l:List DV}{vs:Array Value}(hb:c.heap[b]?=some (.arr g ts l))(bF:c.own b=some (blk,cap))(hblk:c.w.heap[blk]?=some (.cells vs ts.1 (0,0)))
  {i off:Nat} {e e':DV} (he:l[i]?=some e) (hs:e'.cells.length=ts.2) {us:List Value} (iw:off+us.length<=ts.2) (bW:∀ u∈us,u.oneCell'=true)
  (hv:∀ (j:Nat) (x:DV),e'.cells[j]?=some x->(off<=j/\∃ v,us[j-off]?=some v/\VD c.bad c.w x v)\/((j<off\/off+us.length<=j)/\e.cells[j]?=some x)) :
  let c':Cx:={ c with heap:=c.heap.set b (.arr g ts (l.set i e')),w:=c.w.setCells blk (i*ts.2+off) us }
  aK G c'/\Step c c':=by
 intro c';obtain⟨e1,e2,e3,e4⟩:=A9 blk us (i*ts.2+off) c.w;have eJ:b<c.heap.length:=(ho.bA b blk cap bF).2
 have bg:Step c c':={
  az:=rfl
  bQ:=ho.bQ
  os:=e1
  tape:=e2
  output:=e3
  size:=Nat.le_of_eq e4.symm
  keep:=fun x _ hn=>v8 blk us _ c.w x (fun e=>hn b cap (by rw[e];exact bF))
  dy:=fun i x n hi _=>⟨n,hi⟩
  boxes:=fun k bx hk=>by
   by_cases qw:k=b
   ·subst qw;rw[hb]at hk;cases hk;exact .inl ⟨g,l.set i e',by show(c.heap.set k _)[k]?=_;rw[List.getElem?_set_self eJ],.inr ⟨rfl,by simp,rfl⟩⟩
   ·have h':c'.heap[k]?=some bx:=by show(c.heap.set b _)[k]?=_;rw[List.getElem?_set_ne (Ne.symm qw)];exact hk
    cases bx with
    |cells cs=>exact .inl ⟨cs,h',rfl,rfl⟩
    |arr g sz l=>exact .inl ⟨g,l,h',.inr ⟨rfl,rfl,rfl⟩⟩
    |map es=>exact .inl ⟨es,h',rfl⟩
    |gone=>exact h'
    |hole=>exact⟨_,h'⟩ }
 refine⟨ho.next bg (fun k x n hk=>⟨by show x<(c.w.setCells blk _ us).heap.size;rw[e4];exact(ho.bA k x n hk).1,by show k<(c.heap.set b _).length;rw[List.length_set];exact(ho.bA k x n hk).2⟩) ho.inj (fun k bx hk=>?_),bg⟩;by_cases qw:k=b
 ·subst qw;have jM:(c.heap.set k (.arr g ts (l.set i e')))[k]?=some bx:=hk;rw[List.getElem?_set_self eJ]at jM;cases jM;right;obtain⟨q0,q1,q2⟩:=ho.box k _ hb;rcases q2 with⟨q2,-⟩|⟨iM,gV,vs',q2,q3,q4,q5,q6,q7⟩
  ·rw[bF]at q2;cases q2
  ·rw[bF]at q2;cases q2;rw[hblk]at q3;cases q3;have fR:=aQ he;have Eo:iz ts.2 (l.set i e'):=iz.set q1 i hs;refine⟨q0,Eo,.inr ⟨blk,cap,(du vs.toList (i*ts.2+off) us).toArray,bF,A' blk ts.1 (0,0) us _ c.w vs hblk,by simp[yi,q4],by simpa using q5,q6,fun i' j e2 x h2 hx=>?_⟩⟩;have hj:j<ts.2:=by rw[<- Eo i' e2 h2];exact aQ hx
   have dE:∀ (p:Nat),(du vs.toList (i*ts.2+off) us)[p]?=if i*ts.2+off<=p/\p<i*ts.2+off+us.length/\p<vs.size then us[p-(i*ts.2+off)]? else vs[p]? := by
    intro p;have gen:∀ (us:List Value) (o:Nat) (q:List Value),(du q o us)[p]?=if o<=p/\p<o+us.length/\p<q.length then us[p-o]? else q[p]? := by
     intro us
     induction us with
     |nil=>intro o q;rw[if_neg (by simp;omega)];rfl
     |cons u us ih =>
      intro o q;rw[du,ih];by_cases hp:o=p
      ·subst hp;rw[if_neg (by omega)];by_cases hq:o<q.length
       ·rw[if_pos (by simp;omega),List.getElem?_set_self hq];simp
       ·rw[if_neg (by omega),List.getElem?_eq_none (by simp;omega),List.getElem?_eq_none (by omega)]
      ·by_cases hc:o+1<=p/\p<o+1+us.length/\p<q.length
       ·rw[if_pos (by simpa using hc),if_pos (by simp;omega)];rw[show p-o=(p-(o+1))+1 by omega];simp
       ·rw[if_neg (by simpa using hc),if_neg (by simp;omega),List.getElem?_set_ne hp]
    have:=gen us (i*ts.2+off) vs.toList
    simpa using this
   have abr:i*ts.2+ts.2<=vs.size:=by
    rw[q4]
    calc i*ts.2+ts.2=(i+1)*ts.2:=by rw[Nat.add_mul,Nat.one_mul]
     _<=cap*ts.2:=Nat.mul_le_mul_right _ (by omega)
   show ∃ v,(du vs.toList (i*ts.2+off) us).toArray[i'*ts.2+j]?=some v/\_;rw[List.getElem?_toArray,dE];by_cases Ep:i'=i
   ·subst Ep;rw[List.getElem?_set_self fR]at h2;cases h2;rcases hv j x hx with⟨k1,v,k2,k3⟩|⟨k1,k2⟩
    ·have:=aQ k2;rw[if_pos (by omega)];exact⟨v,by rw[show i'*ts.2+j-(i'*ts.2+off)=j-off by omega];exact k2,bW v (List.mem_of_getElem? k2),bg.vd k3⟩
    ·rw[if_neg (by omega)];obtain⟨v,r1,r2,r3⟩:=q7 i' j e x he k2;exact⟨v,r1,r2,bg.vd r3⟩
   ·rw[List.getElem?_set_ne (Ne.symm Ep)]at h2;obtain⟨v,r1,r2,r3⟩:=q7 i' j e2 x h2 hx;rw[if_neg ?_]
    ·exact⟨v,r1,r2,bg.vd r3⟩
    ·rintro⟨k1,k2,-⟩;rcases Nat.lt_or_gt_of_ne Ep with ah|uc
     ·have:(i'+1)*ts.2<=i*ts.2:=Nat.mul_le_mul_right _ ah;rw[Nat.add_mul,Nat.one_mul]at this;omega
     ·have:(i+1)*ts.2<=i'*ts.2:=Nat.mul_le_mul_right _ uc;rw[Nat.add_mul,Nat.one_mul]at this;omega
 ·left;have jM:(c.heap.set b (.arr g ts (l.set i e')))[k]?=some bx:=hk;rw[List.getElem?_set_ne (Ne.symm qw)]at jM;exact⟨jM,rfl,fun x n hn=>v8 blk us _ c.w x (fun e=>qw (ho.inj k b blk n cap (by rw[<- e];exact hn) bF))⟩
theorem QP{β:Type}(us:List β)(o:Nat)(q:List β)(p:Nat):(du q o us)[p]?=if o<=p/\p<o+us.length/\p<q.length then us[p-o]? else q[p]? := by
 induction us generalizing o q with
 |nil=>rw[if_neg (by simp;omega)];rfl
 |cons u us ih =>
  rw[du,ih];by_cases hp:o=p
  ·subst hp;rw[if_neg (by omega)];by_cases hq:o<q.length
   ·rw[if_pos (by simp;omega),List.getElem?_set_self hq];simp
   ·rw[if_neg (by omega),List.getElem?_eq_none (by simp;omega),List.getElem?_eq_none (by omega)]
  ·by_cases hc:o+1<=p/\p<o+1+us.length/\p<q.length
   ·rw[if_pos (by simpa using hc),if_pos (by simp;omega)];rw[show p-o=(p-(o+1))+1 by omega];simp
   ·rw[if_neg (by simpa using hc),if_neg (by simp;omega),List.getElem?_set_ne hp]
theorem I7{e:DV}(h:e.fa=true):e.cells=[e]:=by cases e<;>first|rfl|cases h
def Er(e:DV)(off:Nat)(ds:List DV)(e':DV):Prop:=e'.cells.length=e.cells.length/\off+ds.length<=e.cells.length /\
 ∀ (j:Nat) (x:DV),e'.cells[j]?=some x->(off<=j/\ds[j-off]?=some x)\/((j<off\/off+ds.length<=j)/\e.cells[j]?=some x)
theorem QQ{e:DV}{off:Nat}{ds:List DV}{stop:Prop}{k:DV->Prop}(H:Bn e off ds stop k):stop\/∃ e',k e'/\Er e off ds e':=by
 unfold Bn at H;split at H
 ·rename_i cs;split at H
  ·rename_i q;rw[DI]at H;have hq:=Nat.le_of_ble_eq_true q;refine .inr ⟨.agg (du cs off ds),H,by simp[DV.cells,yi],hq,fun j x hx=>?_⟩;simp only[DV.cells]at hx;rw[QP]at hx;split at hx
   ·rename_i hc;exact .inl ⟨hc.1,hx⟩
   ·rename_i hc;refine .inr ⟨?_,hx⟩;have hj:=aQ hx;omega
  ·exact .inl H
 ·rename_i qh;split at H
  ·rename_i d;split at H
   ·rename_i hd;have lk:e.cells=[e]:=by cases e<;>first|rfl|exact absurd rfl (qh _)
    refine .inr ⟨d,H,by rw[lk,I7 hd];rfl,by rw[lk];simp,fun j x hx => .inl ⟨Nat.zero_le _,by rw[I7 hd]at hx;simpa using hx⟩⟩
   ·exact .inl H
  ·exact .inl H
theorem QR{e:DV}{off:Nat}{vs:List AV}{stop:Prop}{k:DV->Prop}(H:Ej e off vs stop k):stop\/∃ (ds:List DV) (e':DV),vs=ds.map .d/\k e'/\Er e off ds e':=by
 unfold Ej at H;rcases ye vs stop (fun ds=>Bn e off ds stop k)with⟨ds,h1,h2⟩|h2
 ·rw[h2]at H;rcases QQ H with h|⟨e',h3,h4⟩
  ·exact .inl h
  ·exact .inr ⟨ds,e',h1,h3,h4⟩
 ·rw[h2]at H;exact .inl H
theorem QS(hE:E.OK){t:Nat}{x y:Operand}{ti:br}(bV:E.T[t]?=some ti){b g i off:Nat}{ts:Nat × Nat}{l:List DV}(hb:h[b]?=some (.arr g ts l))(hx:aZ E.G s x (.cV b g i off)){v:AV}(hy:aZ E.G s y v){ds:List DV}(hv:DR v (ds.map .d))(bP:ds.length=ti.size)(QT:(ds.map AV.d).all AV.fa=true)
  {e e':DV} (he:l[i]?=some e) (lZ:e.cells.length=ts.2) (hp:Er e off ds e'):bw E (.store t x y) s h (.d .undef) (h.set b (.arr g ts (l.set i e'))):=fun o c ac h1 h2 h3 h4=>by
 subst h2;obtain⟨blk,cap,q1,q2,q3⟩:=I3 hb (hx c ac h3 h4);obtain⟨vs,us0,r1,r2,r3,r4,r5⟩:=h3.elem hb q1 he;obtain⟨us,tP,kx⟩:=hv c _ (hy c ac h3 h4);have hlen:us.length=ds.length:=by rw[<- kx.1];simp
 obtain⟨p1,p2,p3⟩:=hp;have bW:∀ u∈us,u.oneCell'=true:=fun u hu=>by
  obtain⟨j,hj,rfl⟩:=List.getElem_of_mem hu;have pj:j<(ds.map AV.d).length:=by rw[kx.1];exact hj
  exact DQ (kx.2 j _ us[j] (List.getElem?_eq_getElem pj) (by simp[hj])) (List.all_eq_true.1 QT _ (List.getElem_mem pj))
 have cI:=Iv (P:=E.P) (w:=c.w) (b:=blk) (o:=i*ts.2+off) (hE.types t ti bV) tP (by omega) r1 (by omega) bW
 obtain⟨w1,w2⟩:=h3.QO (i:=i) (off:=off) (e':=e') (us:=us) hb q1 r1 he (by omega) (by omega) bW (fun j x hx=>by
  rcases p3 j x hx with⟨k1,k2⟩|⟨k1,k2⟩
  ·have ah:=aQ k2;exact .inl ⟨k1,us[j-off]'(by omega),by simp[show j-off<us.length by omega],kx.pg (j-off) x _ k2 (by simp[show j-off<us.length by omega])⟩
  ·exact .inr ⟨by omega,k2⟩)
 refine⟨_,Go.undef,.inr ⟨?_,rfl⟩,rfl,w1,.d _ _ .undef,w2⟩;simp only[execOp,h1,q2,Sem.run_bind,cI,Result.andThen_ok,Sem.run_pure]
theorem QU(hE:E.OK){o:Op}{stop:Prop}{k:AV->List af->Prop}(H:qv E.T E.G o s h stop k):stop\/∃ v h',k v h'/\bw E o s h v h':=by
 unfold qv at H;split at H
 ·
  rcases bo H with h|⟨ti,bV,H⟩
  ·exact .inl h
  rcases cq H with h|⟨a,ha,H⟩
  ·exact .inl h
  rcases cq H with h|⟨b,hb,H⟩
  ·exact .inl h
  split at H
  ·split at H
   ·rename_i e hk;rcases bo H with h|⟨ei,bT,H⟩
    ·exact .inl h
    split at H
    ·split at H
     ·rename_i q;obtain⟨y,h0,h1,h2,H⟩:=Ei H;exact .inr ⟨_,_,H,QH hE bV bT hk ha hb (iA q) h0 h1 h2⟩
     ·exact .inl H
    ·rcases bo H with h|⟨bx,iN,H⟩
     ·exact .inl h
     split at H
     ·split at H
      ·rename_i q1 q2;have:=Nat.eq_of_beq_eq_true q1;subst this;obtain⟨⟨h0,h1⟩,H⟩:=mR H;exact .inr ⟨_,_,H,QI hE bV bT hk iN (Nat.eq_of_beq_eq_true q2) ha hb h0 h1⟩
      ·exact .inl H
     ·exact .inl H
    ·exact .inl H
   ·rename_i len e hk;rcases bo H with h|⟨ei,bT,H⟩
    ·exact .inl h
    split at H
    ·obtain⟨y,h0,h1,h2,h3,h4,H⟩:=QF H;exact .inr ⟨_,_,H,QJ hE bV bT hk ha hb h0 h1 h2 h3 h4⟩
    ·exact .inl H
   ·exact .inl H
  ·exact .inl H
 ·
  rcases bo H with h|⟨ti,bV,H⟩
  ·exact .inl h
  rcases cq H with h|⟨a,ha,H⟩
  ·exact .inl h
  rcases cq H with h|⟨b,hb,H⟩
  ·exact .inl h
  split at H
  ·split at H
   ·have hk:ti.k=.string:=by assumption
    obtain⟨y,h0,h1,H⟩:=QD H;exact .inr ⟨_,_,H,QK hE bV hk ha hb h0 h1⟩
   ·exact .inl H
  ·exact .inl H
 ·
  rcases bo H with h|⟨ti,bV,H⟩
  ·exact .inl h
  rcases cq H with h|⟨a,ha,H⟩
  ·exact .inl h
  rcases I4 H with h|⟨l,hl,H⟩
  ·exact .inl h
  rcases I4 H with h|⟨u,hu,H⟩
  ·exact .inl h
  split at H
  ·have hk:ti.k=.string:=by assumption
   obtain⟨⟨h0,h1,h2⟩,H⟩:=mR H;exact .inr ⟨_,_,H,QM hE bV hk ha hl hu h0 h1 h2⟩
  ·rcases bo H with h|⟨ei,bT,H⟩
   ·exact .inl h
   obtain⟨⟨h0,h1,h2,h3⟩,H⟩:=mR H;exact .inr ⟨_,_,H,QN hE bV bT (by assumption) ha hl hu h0 h1 h2 h3⟩
  ·exact .inl H
 ·
  rcases bo H with h|⟨ti,bV,H⟩
  ·exact .inl h
  rcases cq H with h|⟨a,ha,H⟩
  ·exact .inl h
  split at H
  ·rcases bo H with h|⟨bx,iN,H⟩
   ·exact .inl h
   split at H
   ·split at H
    ·rename_i q;have:=Nat.eq_of_beq_eq_true q;subst this;obtain⟨e,h0,h1,h2,H⟩:=Ei H;rw[Int.toNat_natCast]at h1;split at H
     ·rw[tJ]at H;rcases I6 hE bV iN ha h1 rfl H with h|⟨v,H,hv⟩
      ·exact .inl h
      ·exact .inr ⟨_,_,H,hv⟩
     ·rename_i qh;rcases I6 hE bV iN ha h1 (by cases e<;>first|rfl|exact absurd rfl (qh _)) H with h|⟨v,H,hv⟩
      ·exact .inl h
      ·exact .inr ⟨_,_,H,hv⟩
    ·exact .inl H
   ·exact .inl H
  ·exact .inl H
 ·
  rcases bo H with h|⟨ti,bV,H⟩
  ·exact .inl h
  rcases cq H with h|⟨v,hv,H⟩
  ·exact .inl h
  rcases cq H with h|⟨a,ha,H⟩
  ·exact .inl h
  split at H
  ·rcases bo H with h|⟨bx,iN,H⟩
   ·exact .inl h
   split at H
   ·split at H
    ·rename_i q;have:=Nat.eq_of_beq_eq_true q;subst this;rcases A5 H with h|⟨vs,dm,H⟩
     ·exact .inl h
     split at H
     ·rename_i q1 q2;obtain⟨e,h0,h1,h2,H⟩:=Ei H;rw[Int.toNat_natCast]at h1;rcases QR H with h|⟨ds,e',rfl,H,hp⟩
      ·exact .inl h
      rw[gq]at H;exact .inr ⟨_,_,H,QS hE bV iN ha hv dm (by have:=Nat.eq_of_beq_eq_true q1;simpa using this) q2 h1 h2 hp⟩
     ·exact .inl H
    ·exact .inl H
   ·exact .inl H
  ·exact .inl H
 ·exact I2 hE H
end
end Go.ay
end
section
namespace Go.ay
open Go Go.RowKit
def Bo(op:BinOp)(j:IntKind)(a b:Int):Int :=
 let x:=BitVec.ofInt j.bits a
 let y:=BitVec.ofInt j.bits b
 match op with
 | .and=>j.wrap (x &&& y).toNat
 | .or=>j.wrap (x ||| y).toNat
 | .xor=>j.wrap (x ^^^ y).toNat
 |_=>j.wrap (x &&& ~~~y).toNat
def lu(op:BinOp)(j:IntKind)(a:Int)(n:Nat):Int:=match op with
 | .shl=>j.wrap (a*2 ^ min n j.bits)
 |_=>a.fdiv (2 ^ min n j.bits)
def I8:BinOp->Bool
 | .and | .or | .xor | .andNot=>true
 |_=>false
def I9:BinOp->Bool
 | .shl | .shr=>true
 |_=>false
def I':BinOp->Bool
 | .quo | .rem=>true
 |_=>false
def Es(op:BinOp)(j:IntKind)(a b:Int):Int:=match op with
 | .quo=>j.wrap (a.tdiv b)
 |_=>a.tmod b
def yE(d:Nat):List Nat->Bool
 |[]=>false
 |a::l=>match Nat.beq a d with
  |true=>true
  |false=>yE d l
theorem yF{a b:Nat}(h:Nat.blt a b=true):a<b:=Nat.le_of_ble_eq_true h
theorem Bp{d:Nat}:∀ {l:List Nat},yE d l=true->d∈l
 |[],h=>by cases h
 |a::l,h=>by
  unfold yE at h;split at h
  ·rename_i q;rw[Nat.eq_of_beq_eq_true q];exact List.mem_cons_self ..
  ·exact List.mem_cons_of_mem _ (Bp h)
section
variable {E:Env} {s:List AV} {h:List af} {c:Cx} {G:List (Nat × DV)}
theorem QV{op:BinOp}(cm:I8 op=true){t t':TypeId}{x y:Operand}{j:IntKind}{a b:Int}(hx:aZ E.G s x (.d (.int j a)))(hy:aZ E.G s y (.d (.int j b))):bw E (.binOp op t x y t') s h (.d (.int j (Bo op j a b))) h :=
 .quiet fun o c ac h1 _ h3 h4=>by
  have e1:=dW (hx c ac h3 h4);have e2:=dW (hy c ac h3 h4);refine⟨.int j (Bo op j a b),qj h1 (by rw[e1,e2];exact wa ..) ?_,.d _ _ (.int _ _)⟩;rw[e1,e2];cases op<;>first|(simp only[binOp,ne_eq,not_true_eq_false,if_false,Op.intBits];rfl)|cases cm
theorem QW{op:BinOp}(cm:I9 op=true){t t':TypeId}{x y:Operand}{j j':IntKind}{a:Int}{b:Int}(hb:0<=b)(hx:aZ E.G s x (.d (.int j a)))(hy:aZ E.G s y (.d (.int j' b))):bw E (.binOp op t x y t') s h (.d (.int j (lu op j a b.toNat))) h :=
 .quiet fun o c ac h1 _ h3 h4=>by
  have e1:=dW (hx c ac h3 h4);have e2:=dW (hy c ac h3 h4);refine⟨.int j (lu op j a b.toNat),qj h1 (by rw[e1,e2];exact wa ..) ?_,.d _ _ (.int _ _)⟩;rw[e1,e2];have hn:¬ (b<0):=by omega
  cases op<;>first|(simp only[binOp,Op.shift,hn,if_false];rfl)|cases cm
def sf{α:Sort _}(kd:TK)(a b:DV)(stop:α)(k:Bool->α):α :=
 match kd,a,b with
 | .int _,.int j m,.int j' n=>match IntKind.same j j' with
  |true=>k (m==n)
  |false=>stop
 | .string,.str m,.str n=>k (m==n)
 | .bool,.bool m,.bool n=>k (m==n)
 |_,_,_=>stop
def nW{α:Sort _}(T:List br):Nat->List (Nat × Nat)->List DV->List DV->(stop:α)->(Bool->α)->α
 |_,[],[],[],_,k=>k true
 |n,f::fs,a::l,b::m,stop,k=>match Nat.beq f.1 n with
  |true=>aT T f.2 stop fun i=>sf i.k a b stop fun p=>nW T (n+1) fs l m stop fun q=>k (p&&q)
  |false=>stop
 |_,_,_,_,stop,_=>stop
theorem QX{kd:TK}{a b:DV}{stop:Prop}{k:Bool->Prop}(H:sf kd a b stop k):stop\/∃ p,k p:=by
 unfold sf at H;split at H
 ·split at H
  ·exact .inr ⟨_,H⟩
  ·exact .inl H
 ·exact .inr ⟨_,H⟩
 ·exact .inr ⟨_,H⟩
 ·exact .inl H
theorem Ja{T:List br}{stop:Prop}:∀ {n:Nat} {fs:List (Nat × Nat)} {l m:List DV} {k:Bool->Prop},nW T n fs l m stop k->stop\/∃ p,k p
 |_,[],[],[],_,H => .inr ⟨_,H⟩
 |_,[],[],_::_,_,H => .inl H
 |_,[],_::_,_,_,H => .inl H
 |_,_::_,[],_,_,H => .inl H
 |_,_::_,_::_,[],_,H => .inl H
 |n,f::fs,a::l,b::m,k,H=>by
  simp only[nW]at H;split at H
  ·rcases bo H with H|⟨i,-,H⟩
   ·exact .inl H
   rcases QX H with H|⟨p,H⟩
   ·exact .inl H
   rcases Ja H with H|⟨q,H⟩
   ·exact .inl H
   ·exact .inr ⟨_,H⟩
  ·exact .inl H
theorem QY{P:Program}{ft:Nat}{i:br}(ht:eU P ft=some i){a b:DV}{stop:Prop}{k:Bool->Prop}(H:sf i.k a b stop k):stop\/∃ p,k p/\i.k.agg=false /\
  ∀ (bad:Nat->Prop) (w w':World) (u v:Value) (d:Nat),VD bad w a u->VD bad w b v->(Op.equalIn (d+1) ft u v).run P w'=.ok p w':=by
 obtain⟨ti,td,g1,g2,g3,-⟩:=cD ht;unfold sf at H;split at H
 ·rename_i hk;split at H
  ·rename_i hs;obtain rfl:=rT hs;refine .inr ⟨_,H,by rw[hk];rfl,fun bad w w' u v d hu hv=>?_⟩;cases hu;cases hv;obtain rfl:=wb (hk.symm.trans g3);exact run_equalIn_int w' d ft _ _ _ _ g2
  ·exact .inl H
 ·rename_i hk;refine .inr ⟨_,H,by rw[hk];rfl,fun bad w w' u v d hu hv=>?_⟩;cases hu;cases hv;obtain rfl:=rU (hk.symm.trans g3);rw[run_equalIn_string w' d ft _ _ g2];simp
 ·rename_i hk;refine .inr ⟨_,H,by rw[hk];rfl,fun bad w w' u v d hu hv=>?_⟩;cases hu;cases hv;have:td=.bool:=by rw[hk]at g3;cases td<;>first|rfl|cases g3
  subst this;exact run_equalIn_bool' w' _ ft _ _ g2
 ·exact .inl H
theorem Jb {P : Program} {T : List br} (hT : ∀ (t : Nat) (i : br), T[t]? = some i -> eU P t = some i) {stop : Prop} : ∀ {n : Nat} {fl : List Field} {l m : List DV} {k : Bool -> Prop}, nW T n (fl.map fun f => (f.offset, f.type)) l m stop k -> (∀ f ∈ fl, f.name ≠ "_") -> stop \/ ∃ p, k p /\
  ∀ (bad:Nat->Prop) (w w':World) (xs ys:List Value) (d:Nat),(∀ (j:Nat) (x:DV),l[j]?=some x->∃ u,xs[n+j]?=some u/\VD bad w x u)->(∀ (j:Nat) (x:DV),m[j]?=some x->∃ u,ys[n+j]?=some u/\VD bad w x u)->(Op.eqFields (d+1) xs.toArray ys.toArray fl).run P w'=.ok p w':=by
 intro n fl
 induction fl generalizing n with
 |nil =>
  intro l m k H _;cases l with
  |nil=>cases m with
   |nil=>exact .inr ⟨true,H,fun bad w w' xs ys d _ _=>by simp only[Op.eqFields,Sem.run_pure]⟩
   |cons b m=>exact .inl H
  |cons a l=>exact .inl H
 |cons f fl ih =>
  intro l m k H hn;cases l with
  |nil=>exact .inl H
  |cons a l=>cases m with
   |nil=>exact .inl H
   |cons b m =>
    simp only[List.map_cons,nW]at H;split at H
    ·rename_i q;have q:=Nat.eq_of_beq_eq_true q;rcases bo H with H|⟨i,hi,H⟩
     ·exact .inl H
     rcases QY (hT _ i hi) H with H|⟨p,H,fK,hp⟩
     ·exact .inl H
     rcases ih H (fun g hg=>hn g (List.mem_cons_of_mem _ hg))with H|⟨p',H,rS⟩
     ·exact .inl H
     refine .inr ⟨p&&p',H,fun bad w w' xs ys d hx hy=>?_⟩;obtain⟨u,u1,u2⟩:=hx 0 a rfl;obtain⟨v,v1,v2⟩:=hy 0 b rfl;rw[Nat.add_zero]at u1 v1;have Bq:=hn f (List.mem_cons_self ..);simp only[Op.eqFields,ne_eq,Bq,not_false_eq_true,if_true,Sem.run_bind];rw[q,yj (hT _ i hi) w' xs n u u1 fK,Result.andThen_ok,yj (hT _ i hi) w' ys n v v1 fK,Result.andThen_ok,hp bad w w' u v d u2 v2,Result.andThen_ok];cases p with
     |false=>simp
     |true =>
      simp only[Bool.not_true,Bool.false_eq_true,if_false,Bool.true_and];exact rS bad w w' xs ys d (fun j x hj=>by rw[show n+1+j=n+(j+1) by omega];exact hx (j+1) x (by simpa using hj)) (fun j x hj=>by rw[show n+1+j=n+(j+1) by omega];exact hy (j+1) x (by simpa using hj))
    ·exact .inl H
theorem Jc(hE:E.OK){op:BinOp}{t:Nat}{t':TypeId}{x y:Operand}{i:br}(hi:E.T[t]?=some i)(hQ:t∈E.Q){fs:List (Nat × Nat)}(hk:i.k=.struct fs){l m:List DV}(hx:aZ E.G s x (.d (.agg l)))(hy:aZ E.G s y (.d (.agg m))){stop:Prop}{k:Bool->Prop}(H:nW E.T 0 fs l m stop k) :
  stop\/∃ p,k p/\(op=.eql->∀ h,bw E (.binOp op t x y t') s h (.d (.bool p)) h)/\(op=.neq->∀ h,bw E (.binOp op t x y t') s h (.d (.bool !p)) h):=by
 obtain⟨ti,d,g1,g2,g3,-⟩:=cD (hE.types t i hi);obtain⟨fl,rfl,rfl⟩:=qk (hk.symm.trans g3);have hq:=hE.eqs t hQ;simp only[AY,g2,Bool.and_eq_true,Bool.not_eq_true',List.all_eq_true,bne_iff_ne,ne_eq]at hq;obtain⟨⟨q1,q2⟩,q3⟩:=hq;rcases Jb hE.types H q3 with h|⟨p,H,hp⟩
 ·exact .inl h
 have gY:E.P.fieldsOf t=fl:=by simp[Program.fieldsOf,g2]
 have val:∀ (c:Cx) (ac:Act),aK E.G c->VS c s ac.tmps->∃ xs ys:List Value,ac.eval x=.agg xs.toArray/\ac.eval y=.agg ys.toArray/\(Op.equalIn 10000 t (.agg xs.toArray) (.agg ys.toArray)).run E.P c.w=.ok p c.w:=by
  intro c ac h3 h4;have dX:=hx c ac h3 h4;have fT:=hy c ac h3 h4;generalize ac.eval x=u at dX;generalize ac.eval y=v at fT;cases dX with
  |d _ _ dX=>cases dX with
   |agg _ xs x1 x2=>cases fT with
    |d _ _ fT=>cases fT with
     |agg _ ys y1 y2 =>
      refine⟨xs.toList,ys.toList,by simp,by simp,?_⟩;rw[run_equalIn_struct c.w 9999 t _ _ (by rw[gY];exact g2) q1,gY];refine hp c.bad c.w c.w xs.toList ys.toList 9998 (fun j z hz=>?_) (fun j z hz=>?_)
      ·have hj:=aQ hz;rw[x1]at hj;exact⟨xs[j],by simp[hj],x2 j z _ hz (by simp[hj])⟩
      ·have hj:=aQ hz;rw[y1]at hj;exact⟨ys[j],by simp[hj],y2 j z _ hz (by simp[hj])⟩
 have guard:∀ (op:BinOp) (xs ys:Array Value) (w:World),(eqGuard op t x y (.agg xs) (.agg ys)).run E.P w=.ok () w:=fun op xs ys w=>run_eqGuard_agg w op t x y xs ys q2;refine .inr ⟨p,H,fun e h=>?_,fun e h=>?_⟩
 ·subst e;refine .quiet fun o c ac h1 _ h3 h4=>⟨.bool p,?_,.d _ _ (.bool _)⟩;obtain⟨xs,ys,e1,e2,e3⟩:=val c ac h3 h4;simp only[execOp,h1,e1,e2,Sem.run_bind,guard,Result.andThen_ok,run_eql_struct,e3,Sem.run_pure]
 ·subst e;refine .quiet fun o c ac h1 _ h3 h4=>⟨.bool !p,?_,.d _ _ (.bool _)⟩;obtain⟨xs,ys,e1,e2,e3⟩:=val c ac h3 h4;simp only[execOp,h1,e1,e2,Sem.run_bind,guard,Result.andThen_ok,run_neq_struct,e3,Sem.run_pure]
theorem QZ(hE:E.OK){t0 t e:Nat}{x:Operand}{i0 i ei:br}(ln:E.T[t0]?=some i0)(hi:E.T[t]?=some i)(bT:E.T[e]?=some ei)(hk:i.k=.slice e)(Et:ei.k=.int .u8){l:List UInt8}(hx:aZ E.G s x (.d (.str l))) :
  bw E (.convert t0 t x) s h (.d (.sl (l.map kB))) h:=fun o c ac h1 h2 h3 h4=>by
 obtain⟨Ba,d0,k1,k2,-⟩:=cD (hE.types t0 i0 ln);obtain⟨ti,d,g1,g2,g3,-⟩:=cD (hE.types t i hi);obtain rfl:=lj (hk.symm.trans g3);obtain⟨tie,de,q1,q2,q3,-⟩:=cD (hE.types e ei bT);obtain rfl:=wb (Et.symm.trans q3);have ex:=pf (hx c ac h3 h4);have cI:=Lib.run_convert_string_bytes (P:=E.P) c.w t0 t e ⟨l.toArray⟩ k2 g2 q2;have Q0:Proofs.YtfmdaiojokniiaaGreatDoor.Ext c.w (Lib.bytesWorld c.w e ⟨l.toArray⟩):=⟨rfl,rfl,rfl,by rw[Lib.bytesWorld_size];omega,fun b hb=>Lib.bytesWorld_at_old c.w e _ b hb⟩;obtain⟨r1,r2⟩:=h3.grow Q0;refine⟨c.eu (Lib.bytesWorld c.w e ⟨l.toArray⟩),_,.inl (by simp only[execOp,h1,ex,Sem.run_bind,cI,Result.andThen_ok,Sem.run_pure];rfl),h2,r1,.d _ _ ?_,r2⟩;have bP:(ByteArray.mk l.toArray).size=(l.map kB).length:=by simp[ByteArray.size]
 rw[bP];have dK:∀ (j:Nat) (b:UInt8),l[j]?=some b->(Lib.bytesWorld c.w e ⟨l.toArray⟩).cell? ⟨c.w.heap.size,0+(j*1+0),none⟩=some (.int .u8 b.toNat):=fun j b hb=>by
  have hj:=aQ hb;rw[show 0+(j*1+0)=j by omega,Lib.bytesWorld_cell c.w e _ j (by simp[ByteArray.size];exact hj)];simp[List.getD,hb]
 have key:∀ (i j:Nat) (a y:DV),(l.map kB)[i]?=some a->a.cells[j]?=some y->∃ b,l[i]?=some b/\j=0/\y=.int .u8 b.toNat:=fun i j a y ha hy=>by
  rw[List.getElem?_map]at ha;cases hb:l[i]? with
  |none=>rw[hb]at ha;cases ha
  |some b =>
   rw[hb]at ha;cases ha;simp only[kB,DV.cells]at hy;cases j with
   |zero=>simp at hy;exact⟨b,rfl,rfl,hy.symm⟩
   |succ j=>simp at hy
 refine .sl _ c.w.heap.size 0 _ 1 (fun i _ => .int .u8 (l.getD i 0).toNat) (fun _ hb=>?_) (by omega) ?_ (fun i a ha=>?_) (fun i j a y ha hy=>?_) (fun i j a y ha hy=>?_) (fun i j a y ha hy=>rfl)
 ·rcases hb with hb|⟨i,n,hi⟩
  ·have:=h3.bQ _ hb;omega
  ·have:=(h3.bA i _ n hi).1;omega
 ·rw[List.length_map];have:=grownCap_ge c.w l.length 0 e
  simpa [ByteArray.size]using this
 ·rw[List.getElem?_map]at ha;cases hb:l[i]? with
  |none=>rw[hb]at ha;cases ha
  |some b=>rw[hb]at ha;cases ha;rfl
 ·obtain⟨b,hb,rfl,rfl⟩:=key i j a y ha hy;refine(dK i b hb).trans ?_;simp[List.getD,hb]
 ·obtain⟨b,hb,rfl,rfl⟩:=key i j a y ha hy;simp only[List.getD,hb,Option.getD_some];exact .int _ _
theorem Q1{op:BinOp}(cm:I' op=true){t t':TypeId}{x y:Operand}{j:IntKind}{a b:Int}(hb:b≠0)(hx:aZ E.G s x (.d (.int j a)))(hy:aZ E.G s y (.d (.int j b))):bw E (.binOp op t x y t') s h (.d (.int j (Es op j a b))) h :=
 .quiet fun o c ac h1 _ h3 h4=>by
  have e1:=dW (hx c ac h3 h4);have e2:=dW (hy c ac h3 h4);refine⟨.int j (Es op j a b),qj h1 (by rw[e1,e2];exact wa ..) ?_,.d _ _ (.int _ _)⟩;rw[e1,e2];cases op<;>first|(simp only[binOp,ne_eq,not_true_eq_false,if_false,Op.intDiv,hb];rfl)|cases cm
theorem Q2{t t':TypeId}{x y:Operand}{a b:List UInt8}(hl:a.length+b.length<=9223372036854775807)(hx:aZ E.G s x (.d (.str a)))(hy:aZ E.G s y (.d (.str b))):bw E (.binOp .add t x y t') s h (.d (.str (a++b))) h :=
 .quiet fun o c ac h1 _ h3 h4=>by
  have e1:=pf (hx c ac h3 h4);have e2:=pf (hy c ac h3 h4);have e:(⟨a.toArray⟩:ByteArray)++⟨b.toArray⟩=⟨(a++b).toArray⟩:=by
   apply ByteArray.ext;simp
  refine⟨.string ⟨(a++b).toArray⟩,qj h1 (by rw[e1,e2];rfl) ?_,.d _ _ (.str _)⟩;rw[e1,e2];have hn:¬ (((ByteArray.mk a.toArray).size+(ByteArray.mk b.toArray).size:Nat):Int)>IntKind.i64.max:=by
   simp[ByteArray.size,IntKind.max,IntKind.bits,IntKind.signed];omega
  simp only[binOp,Op.stringOp,hn,if_false,e];rfl
def yG(E:Env)(o:Op)(s:List AV)(stop:Prop)(k:AV->Prop):Prop :=
 match o with
 | .binOp op t x y _=>aT E.T t stop fun i=>ca E.G s x stop fun a=>ca E.G s y stop fun b =>
  match a,b with
  | .d (.int j m),.d (.int j' n)=>match I8 op with
   |true=>match IntKind.same j j' with
    |true=>k (.d (.int j (Bo op j m n)))
    |false=>stop
   |false=>stop
  | .d (.agg l),.d (.agg m)=>match i.k,yE t E.Q with
   | .struct fs,true=>nW E.T 0 fs l m stop fun p=>match op with
    | .eql=>k (.d (.bool p))
    | .neq=>k (.d (.bool !p))
    |_=>stop
   |_,_=>stop
  |_,_=>stop
 | .convert t0 t x=>aT E.T t0 stop fun _=>aT E.T t stop fun i=>ca E.G s x stop fun v=>match i.k,v with
  | .slice e,.d (.str l)=>aT E.T e stop fun ei=>match ei.k with
   | .int .u8=>k (.d (.sl (l.map kB)))
   |_=>stop
  |_,_=>stop
 |_=>stop
theorem Jd(hE:E.OK){o:Op}{stop:Prop}{k:AV->Prop}(H:yG E o s stop k):stop\/∃ v,k v/\∀ h,bw E o s h v h:=by
 unfold yG at H;split at H
 ·rename_i op t x y t';rcases bo H with h|⟨i,hi,H⟩
  ·exact .inl h
  rcases cq H with h|⟨a,ha,H⟩
  ·exact .inl h
  rcases cq H with h|⟨b,hb,H⟩
  ·exact .inl h
  split at H
  ·split at H
   ·rename_i q;split at H
    ·rename_i p;obtain rfl:=rT p;exact .inr ⟨_,H,fun h=>QV q ha hb⟩
    ·exact .inl H
   ·exact .inl H
  ·split at H
   ·rename_i fs hk hq;by_cases he:op=.eql
    ·subst he;rcases Jc (op := .eql) (t':=t') (s:=s) hE hi (Bp hq) hk ha hb H with h|⟨p,H,h1,-⟩
     ·exact .inl h
     ·exact .inr ⟨_,H,fun h=>h1 rfl h⟩
    ·by_cases kE:op=.neq
     ·subst kE;rcases Jc (op := .neq) (t':=t') (s:=s) hE hi (Bp hq) hk ha hb H with h|⟨p,H,-,h1⟩
      ·exact .inl h
      ·exact .inr ⟨_,H,fun h=>h1 rfl h⟩
     ·refine .inl ?_;rcases Ja H with h|⟨p,h⟩
      ·exact h
      ·split at h
       ·exact absurd rfl he
       ·exact absurd rfl kE
       ·exact h
   ·exact .inl H
  ·exact .inl H
 ·rename_i t0 t x;rcases bo H with h|⟨i0,ln,H⟩
  ·exact .inl h
  rcases bo H with h|⟨i,hi,H⟩
  ·exact .inl h
  rcases cq H with h|⟨v,hv,H⟩
  ·exact .inl h
  split at H
  ·rename_i e l hk;rcases bo H with h|⟨ei,bT,H⟩
   ·exact .inl h
   split at H
   ·rename_i Et;exact .inr ⟨_,H,fun h=>QZ hE ln hi bT hk Et hv⟩
   ·exact .inl H
  ·exact .inl H
 ·exact .inl H
def Eu(E:Env)(o:Op)(s:List AV)(stop:Prop)(k:AV->Prop):Prop :=
 match o with
 | .binOp op _ x y _=>ca E.G s x stop fun a=>ca E.G s y stop fun b =>
  match a,b with
  | .d (.int j m),.d (.int j' n)=>match I9 op with
   |true=>need (0<=n) (k (.d (.int j (lu op j m n.toNat))))
   |false=>match I' op,IntKind.same j j' with
    |true,true=>need (n≠0) (k (.d (.int j (Es op j m n))))
    |_,_=>stop
  | .d (.str l),.d (.str m)=>match op with
   | .add=>need (l.length+m.length<=9223372036854775807) (k (.d (.str (l++m))))
   |_=>stop
  |_,_=>stop
 |_=>stop
theorem Q3{o:Op}{stop:Prop}{k:AV->Prop}(H:Eu E o s stop k):stop\/∃ v,k v/\∀ h,bw E o s h v h:=by
 unfold Eu at H;split at H
 ·rename_i op t x y t';rcases cq H with h|⟨a,ha,H⟩
  ·exact .inl h
  rcases cq H with h|⟨b,hb,H⟩
  ·exact .inl h
  split at H
  ·split at H
   ·rename_i q;obtain⟨h0,H⟩:=mR H;exact .inr ⟨_,H,fun h=>QW q h0 ha hb⟩
   ·split at H
    ·rename_i q p;obtain rfl:=rT p;obtain⟨h0,H⟩:=mR H;exact .inr ⟨_,H,fun h=>Q1 q h0 ha hb⟩
    ·exact .inl H
  ·split at H
   ·obtain⟨h0,H⟩:=mR H;exact .inr ⟨_,H,fun h=>Q2 h0 ha hb⟩
   ·exact .inl H
  ·exact .inl H
 ·exact .inl H
theorem Q4(hE:E.OK){t e len:Nat}{x i:Operand}{ti ei:br}(bV:E.T[t]?=some ti)(bT:E.T[e]?=some ei)(hk:ti.k=.array len e){b off:Nat}{cs:List AV}(hb:h[b]?=some (.cells cs)){j:IntKind}{m:Nat}(hx:aZ E.G s x (.ptr b off))(hi:aZ E.G s i (.d (.int j (.ofNat m))))(h1:m<len) :
  bw E (.indexAddr t x i) s h (.ptr b (off+m*ei.size)) h := .quiet fun o c ac e1 e2 h3 h4=>by
 subst e2;obtain⟨me,d,g1,g2,g3,-⟩:=cD (hE.types t ti bV);obtain rfl:=we (hk.symm.trans g3);have key:∀ p,VR c (.ptr b off) p->∃ blk,p=.pointer (some ⟨blk,off,none⟩)/\VR c (.ptr b (off+m*ei.size)) (.pointer (some ⟨blk,off+m*ei.size,none⟩)):=fun p hp=>by
  cases hp with
  |ptr _ _ cs' blk cap k1 k2=>exact⟨blk,rfl,.ptr _ _ cs' blk cap k1 k2⟩
  |iv _ _ _ k1 _=>rw[hb]at k1;cases k1
 obtain⟨blk,q1,q2⟩:=key _ (hx c ac h3 h4);refine⟨_,yC e1 ?_,q2⟩;rw[q1,dW (hi c ac h3 h4)];have h0:(0:Int)<=Int.ofNat m:=Int.natCast_nonneg m;have qx:Int.ofNat m<(len:Int):=by simpa using h1
 simp only[Instr.indexAt,asIntOf,Sem.run_bind,Sem.run_pure,Result.andThen_ok,run_underlying g2,Instr.sureAddr,h0,qx,and_self,if_true,run_sizeOf (hE.types e ei bT),mN];rfl
theorem Q5(hE:E.OK){t e len:Nat}{x:Operand}{ti ei:br}(bV:E.T[t]?=some ti)(bT:E.T[e]?=some ei)(hk:ti.k=.array len e)(cQ:0<len){b:Nat}{ds:List DV}(hb:h[b]?=some (.cells (ds.map .d)))(hlen:ds.length=len)(fA:ds.all DV.fa=true)(hx:aZ E.G s x (.ptr b 0)) :
  bw E (.slice t x none none none) s h (.d (.sl ds)) (h.set b .gone):=fun o c ac h1 h2 h3 h4=>by
 subst h2;obtain⟨me,d,g1,g2,g3,-⟩:=cD (hE.types t ti bV);obtain rfl:=we (hk.symm.trans g3);have eJ:=aQ hb;have key:∀ p,VR c (.ptr b 0) p->∃ blk cap,p=.pointer (some ⟨blk,0,none⟩)/\c.own b=some (blk,cap):=fun p hp=>by
  cases hp with
  |ptr _ _ cs' blk cap k1 k2=>exact⟨blk,cap,rfl,k2⟩
  |iv _ _ _ k1 _=>rw[hb]at k1;cases k1
 obtain⟨blk,cap,q1,q2⟩:=key _ (hx c ac h3 h4);obtain⟨iM,gV,vs,ty,p1,p2,p3⟩:=h3.cells hb;rw[q2]at p1;cases p1
 let c':Cx:={ c with own:=fun i=>if i=b then none else c.own i,heap:=c.heap.set b .gone }
 have eW:c'.heap[b]?=some .gone:=by show(c.heap.set b .gone)[b]?=_;rw[List.getElem?_set_self eJ]
 have jN:∀ i,i≠b->c'.heap[i]?=c.heap[i]? := fun i hi=>by show(c.heap.set b .gone)[i]?=_;rw[List.getElem?_set_ne (Ne.symm hi)]
 have bF:∀ i,i≠b->c'.own i=c.own i:=fun i hi=>by simp only[c',if_neg hi]
 have js:∀ i p,c'.own i=some p->i≠b/\c.own i=some p:=fun i p hp=>by
  simp only[c']at hp;split at hp
  ·cases hp
  ·rename_i q;exact⟨q,hp⟩
 have bg:Step c c':=⟨rfl,h3.bQ,rfl,rfl,rfl,Nat.le_refl _,fun _ _ _=>rfl,fun i x n hi _=>⟨n,(js i _ hi).2⟩,fun i bx hi=>by
  by_cases bE:i=b
  ·subst bE;cases bx with
   |cells cs=>exact .inr eW
   |arr g sz l=>exact .inr eW
   |map es=>exact .inr eW
   |gone=>exact eW
   |hole=>exact⟨_,eW⟩
  ·rw[<- jN i bE]at hi;cases bx with
   |cells cs=>exact .inl ⟨cs,hi,bF i bE,rfl⟩
   |arr g sz l=>exact .inl ⟨g,l,hi,.inr ⟨rfl,rfl,bF i bE⟩⟩
   |map es=>exact .inl ⟨es,hi,bF i bE⟩
   |gone=>exact hi
   |hole=>exact⟨_,hi⟩⟩
 have aM:aK E.G c':=by
  refine h3.next bg (fun i x n hi=>?_) (fun i j x n m hi hj=>h3.inj i j x n m (js i _ hi).2 (js j _ hj).2) (fun i bx hi=>?_)
  ·have:=h3.bA i x n (js i _ hi).2;refine⟨this.1,?_⟩;show i<(c.heap.set b .gone).length;rw[List.length_set];exact this.2
  ·by_cases bE:i=b
   ·subst bE;rw[eW]at hi;cases hi;right;show c'.own i=none;simp[c']
   ·rw[jN i bE]at hi;exact .inl ⟨hi,bF i bE,fun _ _ _=>rfl⟩
 have bH:∀ (j:Nat) (y:DV),ds[j]?=some y->∃ v,vs[j]?=some v/\v.oneCell'=true/\VD c.bad c.w y v:=fun j y hy=>by
  have hj:=aQ hy;have hl:=p3.1;simp at hl;have hv:vs.toList[j]?=some vs[j]:=by simp
  have:=p3.2 j (.d y) _ (by simp[hy]) hv;cases this with
  |d _ _ hd=>exact⟨_,by simp,yh hd (List.all_eq_true.1 fA y (List.mem_of_getElem? hy)),hd⟩
 refine⟨c',.slice (some ⟨blk,0,none⟩) ds.length ds.length,.inl ?_,rfl,aM,.d _ _ ?_,bg⟩
 ·have jO:(Instr.sliceBounds false len len none none none).run E.P c.w=.ok (0,len,len) c.w:=rfl;have aI:¬ (len=0):=by omega
  simp only[execOp,h1,q1,Instr.sliceAt,Sem.run_bind,Sem.run_pure,Result.andThen_ok,run_underlying g2,Instr.sureAddr,Option.map_none,jO,run_sizeOf (hE.types e ei bT),aI,if_false,Nat.zero_mul,mN,Nat.sub_zero,hlen];rfl
 ·have one:∀ (i j:Nat) (y z:DV),ds[i]?=some y->y.cells[j]?=some z->j=0/\z=y:=fun i j y z hy hz=>by
   have:=List.all_eq_true.1 fA y (List.mem_of_getElem? hy);have hc:y.cells=[y]:=by cases y<;>first|rfl|cases this
   rw[hc]at hz;cases j with
   |zero=>simp at hz;exact⟨rfl,hz.symm⟩
   |succ j=>simp at hz
  refine .sl ds blk 0 ds.length 1 (fun i j=>(vs[i]?).getD undef) (fun _ fb=>?_) (by omega) (Nat.le_refl _) (fun i y hy=>?_) (fun i j y z hy hz=>?_) (fun i j y z hy hz=>?_) (fun i j y z hy hz=>?_)
  ·rcases fb with fb|⟨i,n,hi⟩
   ·exact h3.sep b blk cap q2 fb
   ·obtain⟨k1,k2⟩:=js i _ hi;exact k1 (h3.inj i b blk n cap k2 q2)
  ·have:=List.all_eq_true.1 fA y (List.mem_of_getElem? hy);cases y<;>first|rfl|cases this
  ·obtain⟨rfl,rfl⟩:=one i j y z hy hz;obtain⟨v,r1,r2,r3⟩:=bH i z hy;rw[r1,Option.getD_some];have:=lY p2 i v (by simpa using r1)
   simpa using this
  ·obtain⟨rfl,rfl⟩:=one i j y z hy hz;obtain⟨v,r1,r2,r3⟩:=bH i z hy;simp only[r1,Option.getD_some];exact bg.vd r3
  ·obtain⟨rfl,rfl⟩:=one i j y z hy hz;obtain⟨v,r1,r2,r3⟩:=bH i z hy;simp only[r1,Option.getD_some];exact r2
theorem Q6(hE:E.OK){t e:Nat}{ti ei:br}(bV:E.T[t]?=some ti)(bT:E.T[e]?=some ei)(hk:ti.k=.slice e)(cQ:0<ei.size){parts:Array (Nat × Operand)}(hp:parts.toList=[]) :
  bw E (.buildSlice t 0 parts) s h (.own h.length 0) (h++[.arr 0 (e,ei.size) []]):=fun o c ac h1 h2 h3 h4=>by
 subst h2;obtain⟨me,d,g1,g2,g3,-⟩:=cD (hE.types t ti bV);obtain rfl:=lj (hk.symm.trans g3);obtain⟨k1,k2⟩:=h3.add (.arr 0 (e,ei.size) []) 0 (.cells #[] e);have bF:(c.add (.arr 0 (e,ei.size) []) 0 (.cells #[] e)).own c.heap.length=some (c.w.heap.size,0):=by simp[Cx.add]
 have mT:(c.add (.arr 0 (e,ei.size) []) 0 (.cells #[] e)).heap[c.heap.length]?=some (.arr 0 (e,ei.size) []):=by simp[Cx.add]
 refine⟨_,.slice (some ⟨c.w.heap.size,0,none⟩) 0 0,.inl ?_,rfl,k2 ⟨cQ,fun i e he=>by simp at he,.inr ⟨c.w.heap.size,0,#[],bF,heap_alloc_new _ _,by simp,by simp,by simp,fun i j e x he=>by simp at he⟩⟩,.own c.heap.length 0 (e,ei.size) [] c.w.heap.size 0 mT bF,k1⟩;have rS:parts = #[]:=by apply Array.ext';simpa using hp
 subst rS;have hn:¬ ((0:Nat)>2 ^ 24):=by decide
 simp only[execOp,h1,Instr.buildSlice,Sem.run_bind,Sem.run_pure,Result.andThen_ok,run_underlying g2,run_sizeOf (hE.types e ei bT),Nat.zero_mul,Array.map_empty,hn,if_false,if_true];simp[Instr.fill,newRow,show Array.range 0 = #[]from rfl];rfl
def yH(E:Env)(o:Op)(s:List AV)(h:List af)(stop:Prop)(k:AV->List af->Prop):Prop :=
 match o with
 | .indexAddr t x i=>aT E.T t stop fun ti=>match ti.k with
  | .array len e=>aT E.T e stop fun ei=>ca E.G s x stop fun
   | .ptr b off=>aT h b stop fun
    | .cells _=>ca E.G s i stop fun
     | .d (.int _ n)=>match n with
      | .ofNat m=>match Nat.blt m len with
       |true=>k (.ptr b (off+m*ei.size)) h
       |false=>stop
      |_=>stop
     |_=>stop
    |_=>stop
   |_=>stop
  |_=>stop
 | .slice t x none none none=>aT E.T t stop fun ti=>match ti.k with
  | .array len e=>aT E.T e stop fun _=>match Nat.blt 0 len with
   |true=>ca E.G s x stop fun
    | .ptr b 0=>aT h b stop fun
     | .cells cs=>qd cs stop fun ds=>match Nat.beq ds.length len,ds.all DV.fa with
      |true,true=>fz h b .gone fun h'=>k (.d (.sl ds)) h'
      |_,_=>stop
     |_=>stop
    |_=>stop
   |_=>stop
  |_=>stop
 | .buildSlice t len parts=>match len with
  |0=>aT E.T t stop fun ti=>match ti.k with
   | .slice e=>aT E.T e stop fun ei=>match Nat.blt 0 ei.size,parts.toList with
    |true,[]=>nL h (.arr 0 (e,ei.size) []) 0 fun h' n=>k (.own n 0) h'
    |_,_=>stop
   |_=>stop
  |_=>stop
 |_=>stop
theorem Je(hE:E.OK){o:Op}{stop:Prop}{k:AV->List af->Prop}(H:yH E o s h stop k):stop\/∃ v h',k v h'/\bw E o s h v h':=by
 unfold yH at H;split at H
 ·rename_i t x i;rcases bo H with h|⟨ti,bV,H⟩
  ·exact .inl h
  split at H
  ·rename_i len e hk;rcases bo H with h|⟨ei,bT,H⟩
   ·exact .inl h
   rcases cq H with h|⟨a,ha,H⟩
   ·exact .inl h
   split at H
   ·rename_i b off;rcases bo H with h|⟨bx,hb,H⟩
    ·exact .inl h
    split at H
    ·rcases cq H with h|⟨n,hn,H⟩
     ·exact .inl h
     split at H
     ·split at H
      ·split at H
       ·rename_i q;exact .inr ⟨_,_,H,Q4 hE bV bT hk hb ha hn (yF q)⟩
       ·exact .inl H
      ·exact .inl H
     ·exact .inl H
    ·exact .inl H
   ·exact .inl H
  ·exact .inl H
 ·rename_i t x;rcases bo H with h|⟨ti,bV,H⟩
  ·exact .inl h
  split at H
  ·rename_i len e hk;rcases bo H with h|⟨ei,bT,H⟩
   ·exact .inl h
   split at H
   ·rename_i q2;rcases cq H with h|⟨a,ha,H⟩
    ·exact .inl h
    split at H
    ·rename_i b;rcases bo H with h|⟨bx,hb,H⟩
     ·exact .inl h
     split at H
     ·rename_i cs
      rcases ye cs stop (fun ds=>match Nat.beq ds.length len,ds.all DV.fa with
       |true,true=>fz h b .gone fun h'=>k (.d (.sl ds)) h'
       |_,_=>stop)with⟨ds,e1,e2⟩|e2
      ·rw[e2]at H;split at H
       ·rename_i p1 p2;rw[gq]at H;subst e1;exact .inr ⟨_,_,H,Q5 hE bV bT hk (yF q2) hb (Nat.eq_of_beq_eq_true p1) p2 ha⟩
       ·exact .inl H
      ·rw[e2]at H;exact .inl H
     ·exact .inl H
    ·exact .inl H
   ·exact .inl H
  ·exact .inl H
 ·rename_i t len parts;split at H
  ·rcases bo H with h|⟨ti,bV,H⟩
   ·exact .inl h
   split at H
   ·rename_i e hk;rcases bo H with h|⟨ei,bT,H⟩
    ·exact .inl h
    split at H
    ·rename_i q1 q2;rw[rR,Nat.zero_add]at H;exact .inr ⟨_,_,H,Q6 hE bV bT hk (yF q1) q2⟩
    ·exact .inl H
   ·exact .inl H
  ·exact .inl H
 ·exact .inl H
def yI(E:Env)(o:Op)(s:List AV)(h:List af)(stop:Prop)(k:AV->List af->Prop):Prop:=yG E o s (yH E o s h stop k) fun v=>k v h
theorem Jf(hE:E.OK){o:Op}{stop:Prop}{k:AV->List af->Prop}(H:yI E o s h stop k):stop\/∃ v h',k v h'/\bw E o s h v h':=by
 rcases Jd hE H with H|⟨v,H,ho⟩
 ·exact Je hE H
 ·exact .inr ⟨v,h,H,ho h⟩
end
end Go.ay
end
section
namespace Go.ay
open Go Go.RowKit
def qy:DV->DV->Bool
 | .int j m,.int k n=>IntKind.same j k&&(m==n)
 | .str a,.str b=>a==b
 | .bool a,.bool b=>a==b
 |_,_=>false
def ud:List DV->List DV->Bool
 |[],[]=>true
 |a::l,b::m=>qy a b&&ud l m
 |_,_=>false
def eE:DV->DV->Bool
 | .agg l,.agg m=>ud l m
 |a,b=>qy a b
def eX(k:DV):List (DV × DV)->Option Nat
 |[]=>none
 |p::l=>if eE k p.1 then some 0 else(eX k l).map (· + 1)
def findD(k:DV):List (DV × DV)->Option DV
 |[]=>none
 |p::l=>if eE k p.1 then some p.2 else findD k l
def bU(k v:DV):List (DV × DV)->List (DV × DV)
 |[]=>[(k,v)]
 |p::l=>if eE k p.1 then(k,v)::l else p::bU k v l
def nX:TK->DV->Prop
 | .int j,x=>∃ n,x=.int j n
 | .string,x=>∃ s,x=.str s
 | .bool,x=>∃ b,x=.bool b
 |_,_=>False
def ue(T:List br):Nat->List (Nat × Nat)->List DV->Prop
 |_,[],[]=>True
 |n,f::fs,a::l=>f.1=n/\(∃ i,T[f.2]?=some i/\nX i.k a)/\ue T (n+1) fs l
 |_,_,_=>False
def dn(T:List br)(k:TK)(x:DV):Prop:=match k with
 | .struct fs=>∃ l,x=.agg l/\ue T 0 fs l
 |k=>nX k x
def gZ:DV->Value
 | .int j n => .int j n
 | .str s => .string ⟨s.toArray⟩
 | .bool b => .bool b
 | .agg l => .agg (l.map fun
  | .int j n => .int j n
  | .str s => .string ⟨s.toArray⟩
  | .bool b => .bool b
  |_=>undef).toArray
 |_=>undef
def wE:DV->Prop
 | .int _ _=>True
 | .str _=>True
 | .bool _=>True
 |_=>False
theorem nX.flat{k:TK}{x:DV}(h:nX k x):wE x:=by
 cases k<;>first|(obtain⟨_,rfl⟩:=h;trivial)|exact h.elim
theorem ue.flat{T:List br}:∀ {n:Nat} {fs:List (Nat × Nat)} {l:List DV},ue T n fs l->∀ x∈l,wE x
 |_,[],[],_,x,hx=>by simp at hx
 |_,_::_,[],h,_,_=>h.elim
 |_,[],_::_,h,_,_=>h.elim
 |n,f::fs,a::l,h,x,hx=>by
  rcases List.mem_cons.1 hx with rfl|hx
  ·obtain⟨-,⟨i,-,h⟩,-⟩:=h;exact h.flat
  ·exact h.2.2.flat x hx
theorem lv{bad:Nat->Prop}{w:World}{x:DV}{v:Value}(hf:wE x)(h:VD bad w x v):v=gZ x:=by
 cases x<;>first|exact hf.elim|(cases h;rfl)
theorem dn.cases{T:List br}{k:TK}{x:DV}(h:dn T k x):wE x\/∃ l,x=.agg l/\∀ y∈l,wE y:=by
 unfold dn at h;split at h
 ·obtain⟨l,rfl,h⟩:=h;exact .inr ⟨l,rfl,h.flat⟩
 ·exact .inl h.flat
theorem uf{T:List br}{k:TK}{bad:Nat->Prop}{w:World}{x:DV}{v:Value}(hf:dn T k x)(h:VD bad w x v):v=gZ x:=by
 rcases hf.cases with gw|⟨l,rfl,gw⟩
 ·exact lv gw h
 ·cases h with
  |agg _ vs hl hv =>
   simp only[gZ]
   congr 1
   apply Array.ext
   ·simpa using hl.symm
   ·intro j h1 h2;have hj:j<l.length:=by omega
    have e:=hv j l[j] vs[j] (by simp) (by simp[h1]);have:=lv (gw _ (List.getElem_mem hj)) e;rw[this];simp only[List.getElem_toArray,List.getElem_map];have nV:=gw _ (List.getElem_mem hj);generalize l[j]=y at nV;cases y<;>first|rfl|exact nV.elim
theorem Ev(j:IntKind):IntKind.same j j=true:=by cases j<;>rfl
theorem Jg{a b:DV}(h:qy a b=true):a=b:=by
 unfold qy at h;split at h
 ·simp only[Bool.and_eq_true,beq_iff_eq]at h;obtain rfl:=rT h.1;rw[h.2]
 ·simp at h;rw[h]
 ·simp at h;rw[h]
 ·cases h
theorem Jh:∀ {a b:List DV},ud a b=true->a=b
 |[],[],_=>rfl
 |[],_::_,h=>by cases h
 |_::_,[],h=>by cases h
 |x::a,y::b,h=>by
  simp only[ud,Bool.and_eq_true]at h;rw[Jg h.1,Jh h.2]
theorem Ji{a b:DV}(h:eE a b=true):a=b:=by
 unfold eE at h;split at h
 ·rw[Jh h]
 ·exact Jg h
theorem Ew(a b:List UInt8):((⟨a.toArray⟩:ByteArray)==⟨b.toArray⟩)=(a==b):=by
 show(a.toArray==b.toArray)=_;simp
theorem Ex{α:Type}:∀ {l:List α} {p:α × α},p∈l.zip l->p.1=p.2/\p.1∈l
 |[],p,h=>by simp at h
 |a::l,p,h=>by
  rcases List.mem_cons.1 h with rfl|h
  ·exact⟨rfl,List.mem_cons_self ..⟩
  ·exact⟨(Ex h).1,List.mem_cons_of_mem _ (Ex h).2⟩
theorem Q7(n:Nat){x:DV}(h:wE x):Instr.sameBits n (gZ x) (gZ x)=true:=by
 cases x<;>first|exact h.elim|(cases n<;>simp[gZ,Instr.sameBits,Ew])
theorem Jj{T:List br}{k:TK}{x:DV}(h:dn T k x):Instr.sameBits 10000 (gZ x) (gZ x)=true:=by
 rcases h.cases with h1|⟨l,rfl,h1⟩
 ·exact Q7 _ h1
 ·show Instr.sameBits (9999+1) _ _=true;simp only[gZ,Instr.sameBits,beq_self_eq_true,Bool.true_and,List.all_eq_true];intro p hp;obtain⟨e1,e2⟩:=Ex hp;obtain⟨p1,p2⟩:=p;simp only at e1 e2;subst e1;obtain⟨y,hy,rfl⟩:=List.mem_map.1 e2;have:=h1 y hy;cases y<;>first|exact this.elim|simp[Instr.sameBits,Ew]
def yJ(bad:Nat->Prop)(w:World)(es:List (DV × DV))(en:List MapEntry):Prop:=en.length=es.length/\∀ (j:Nat) (k x:DV) (m:MapEntry),es[j]?=some (k,x)->en[j]?=some m->VD bad w k m.key/\VD bad w x m.val
theorem yJ.cons{bad:Nat->Prop}{w:World}{p:DV × DV}{m:MapEntry}{es:List (DV × DV)}{en:List MapEntry}(h:yJ bad w (p::es) (m::en)):VD bad w p.1 m.key/\VD bad w p.2 m.val/\yJ bad w es en:=by
 obtain⟨h1,h2⟩:=h;have:=h2 0 p.1 p.2 m rfl rfl;exact⟨this.1,this.2,by simpa using h1,fun j k x m' hk hm=>h2 (j+1) k x m' (by simpa using hk) (by simpa using hm)⟩
theorem Br{k:DV}:∀ {es:List (DV × DV)} {j:Nat},eX k es=some j->∃ p,es[j]?=some p/\eE k p.1=true/\findD k es=some p.2
 |[],_,h=>by cases h
 |p::es,j,h=>by
  unfold eX at h;split at h
  ·rename_i q;cases h;exact⟨p,rfl,q,by simp[findD,q]⟩
  ·rename_i q;cases hf:eX k es with
   |none=>rw[hf]at h;cases h
   |some i =>
    rw[hf]at h;cases h;obtain⟨p',h1,h2,h3⟩:=Br hf;exact⟨p',by simpa using h1,h2,by simp[findD,q,h3]⟩
theorem Ey{k:DV}:∀ {es:List (DV × DV)},eX k es=none->findD k es=none
 |[],_=>rfl
 |p::es,h=>by
  unfold eX at h;split at h
  ·cases h
  ·rename_i q;cases hf:eX k es with
   |none=>simp[findD,q,Ey hf]
   |some i=>rw[hf]at h;cases h
theorem yK{k v:DV}:∀ {es:List (DV × DV)} {j:Nat},eX k es=some j->bU k v es=es.set j (k,v)
 |[],_,h=>by cases h
 |p::es,j,h=>by
  unfold eX at h;split at h
  ·rename_i q;cases h;simp[bU,q]
  ·rename_i q;cases hf:eX k es with
   |none=>rw[hf]at h;cases h
   |some i =>
    rw[hf]at h;cases h;simp[bU,q,yK hf]
theorem yL{k v:DV}:∀ {es:List (DV × DV)},eX k es=none->bU k v es=es++[(k,v)]
 |[],_=>rfl
 |p::es,h=>by
  unfold eX at h;split at h
  ·cases h
  ·rename_i q;cases hf:eX k es with
   |none=>simp[bU,q,yL hf]
   |some i=>rw[hf]at h;cases h
theorem qz{P:Program}{w:World}{r:Nat}{es:Array MapEntry}{clock:Nat}(hb:w.heap[r]?=some (.map es clock)):(getObj r).run P w=.ok (.map es clock) w:=by
 simp[getObj,Sem.run,hb]
theorem yM{P:Program}{w:World}{r:Nat}{es:Array MapEntry}{clock:Nat}(o:Obj)(hb:w.heap[r]?=some (.map es clock)):(setObj r o).run P w=.ok () { w with heap:=w.heap.setIfInBounds r o }:=by
 simp[setObj,Sem.run,hb]
theorem Q8{P:Program}{w:World}{kt:TypeId}{d:TypeDesc}{k:Value}{l:List MapEntry}{a:Option (Nat × Value)}(hd:P.underlying kt=some d)(h:Instr.findNow d k l 0=some a):(Instr.findKey kt k l).run P w=.ok a w:=by
 simp[Instr.findKey,run_underlying hd,Result.andThen,h]
section
variable {E:Env}
def Ez:TK->Prop
 | .int _=>True
 | .string=>True
 | .bool=>True
 |_=>False
inductive sh (E:Env) (t:Nat):TK->Prop
 |plain (i:br) (hi:E.T[t]?=some i) (h:Ez i.k):sh E t i.k
 |struct (i:br) (hi:E.T[t]?=some i) (fs:List (Nat × Nat)) (hk:i.k=.struct fs) (hq:t∈E.Q):sh E t (.struct fs)
theorem Jk{T:List br}:∀ {n:Nat} {fs:List (Nat × Nat)} {l m:List DV},ue T n fs l->ue T n fs m->nW T n fs l m False (· = ud l m)
 |_,[],[],[],_,_=>rfl
 |_,_::_,[],_,h,_=>h.elim
 |_,[],_::_,_,h,_=>h.elim
 |_,_::_,_::_,[],_,h=>h.elim
 |_,[],[],_::_,_,h=>h.elim
 |n,f::fs,a::l,b::m,h,h'=>by
  obtain⟨e1,⟨i,hi,ha⟩,hl⟩:=h;obtain⟨-,⟨i',cg,hb⟩,hm⟩:=h';rw[hi]at cg;cases cg;simp only[nW];have:Nat.beq f.1 n=true:=by rw[e1];exact Nat.beq_refl n
  rw[this];simp only;rw[AZ hi];have key:∀ (K:Bool->Prop),K (qy a b)->sf i.k a b False K:=fun K hK=>by
   unfold nX at ha hb;split at ha
   ·rename_i j hk;obtain⟨x,rfl⟩:=ha;rw[hk]at hb ⊢;obtain⟨y,rfl⟩:=hb;simp only[sf,Ev]
    simpa [qy,Ev]using hK
   ·rename_i hk;obtain⟨x,rfl⟩:=ha;rw[hk]at hb ⊢;obtain⟨y,rfl⟩:=hb;exact hK
   ·rename_i hk;obtain⟨x,rfl⟩:=ha;rw[hk]at hb ⊢;obtain⟨y,rfl⟩:=hb;exact hK
   ·exact ha.elim
  refine key _ ?_;have ih:=Jk hl hm;have mono:∀ {n:Nat} {fs:List (Nat × Nat)} {l m:List DV} {K K':Bool->Prop},(∀ p,K p->K' p)->nW T n fs l m False K->nW T n fs l m False K':=by
   intro n fs
   induction fs generalizing n with
   |nil=>intro l m K K' hk H;cases l<;>cases m<;>first|exact hk _ H|exact H
   |cons f fs EA =>
    intro l m K K' hk H;cases l with
    |nil=>exact H
    |cons a l=>cases m with
     |nil=>exact H
     |cons b m =>
      simp only[nW]at H ⊢;split at H
      ·rcases bo H with H|⟨i,hi,H⟩
       ·exact H.elim
       rw[AZ hi];unfold sf at H ⊢;split at H
       ·split at H
        ·exact EA (fun p hp=>hk _ hp) H
        ·exact H
       ·exact EA (fun p hp=>hk _ hp) H
       ·exact EA (fun p hp=>hk _ hp) H
       ·exact H
      ·exact H
  refine mono (fun p hp=>?_) ih;rw[hp,ud]
theorem Q9(hE:E.OK){t:Nat}{i:br}(hi:E.T[t]?=some i){fs:List (Nat × Nat)}(hk:i.k=.struct fs)(hq:t∈E.Q){x y:DV}(hx:dn E.T (.struct fs) x)(hy:dn E.T (.struct fs) y){bad:Nat->Prop}{w:World}{u v:Value}(hu:VD bad w x u)(hv:VD bad w y v) :
  (Op.equal t u v).run E.P w=.ok (eE x y) w:=by
 obtain⟨l,rfl,hl⟩:=hx;obtain⟨m,rfl,hm⟩:=hy;obtain⟨ti,d,g1,g2,g3,-⟩:=cD (hE.types t i hi);obtain⟨fl,rfl,rfl⟩:=qk (hk.symm.trans g3);have Bs:=hE.eqs t hq;simp only[AY,g2,Bool.and_eq_true,Bool.not_eq_true',List.all_eq_true,bne_iff_ne,ne_eq]at Bs;obtain⟨⟨q1,q2⟩,q3⟩:=Bs;rcases Jb hE.types (Jk hl hm) q3 with h|⟨p,rfl,hp⟩
 ·exact h.elim
 have gY:E.P.fieldsOf t=fl:=by simp[Program.fieldsOf,g2]
 cases hu with
 |agg _ xs x1 x2=>cases hv with
  |agg _ ys y1 y2 =>
   show(Op.equalIn (9999+1) t _ _).run E.P w=_;rw[run_equalIn_struct w 9999 t _ _ (by rw[gY];exact g2) q1,gY];have:=hp bad w w xs.toList ys.toList 9998 (fun j z hz=>?_) (fun j z hz=>?_)
   ·simpa [eE]using this
   ·have hj:=aQ hz;rw[x1]at hj;exact⟨xs[j],by simp[hj],x2 j z _ hz (by simp[hj])⟩
   ·have hj:=aQ hz;rw[y1]at hj;exact⟨ys[j],by simp[hj],y2 j z _ hz (by simp[hj])⟩
theorem Ra{td:TypeDesc}{k:TK}(hk:k=tk td)(hp:Ez k){x y:DV}(hx:nX k x)(hy:nX k y):Instr.sameNow td (gZ x) (gZ y)=some (eE x y):=by
 subst hk;cases td<;>simp only[tk,Ez]at hp hx hy
 ·obtain⟨a,rfl⟩:=hx;obtain⟨b,rfl⟩:=hy;rfl
 ·obtain⟨a,rfl⟩:=hx;obtain⟨b,rfl⟩:=hy;simp[Instr.sameNow,gZ,eE,qy,Ev]
 ·obtain⟨a,rfl⟩:=hx;obtain⟨b,rfl⟩:=hy;simp[Instr.sameNow,gZ,eE,qy,Ew]
def lx(k:DV)(es:List (DV × DV))(en:List MapEntry)(i:Nat):Option (Nat × Value):=(eX k es).bind fun j=>(en[j]?).map fun m=>(i+j,m.val)
theorem Jl{k:DV}{p:DV × DV}{m:MapEntry}{es:List (DV × DV)}{en:List MapEntry}{i:Nat}:lx k (p::es) (m::en) i=if eE k p.1 then some (i,m.val)else lx k es en (i+1):=by
 simp only[lx,eX];split
 ·simp
 ·cases eX k es with
  |none=>rfl
  |some j =>
   simp;cases en[j]? with
   |none=>rfl
   |some m=>simp;omega
theorem EB(hE:E.OK){t:Nat}{k:TK}(hT:sh E t k){x:DV}(hx:dn E.T k x){bad:Nat->Prop}{w:World}{u:Value}(hu:VD bad w x u){es:List (DV × DV)}{en:List MapEntry}(lZ:∀ p∈es,dn E.T k p.1)(wF:yJ bad w es en) :
  (Instr.findKey t u en).run E.P w=.ok (lx x es en 0) w:=by
 cases hT with
 |plain i hi h =>
  obtain⟨ti,d,g1,g2,g3,-⟩:=cD (hE.types t i hi);refine Q8 g2 ?_;have hF:∀ y,dn E.T i.k y->nX i.k y:=fun y hy=>by
   unfold dn at hy;split at hy
   ·rename_i q;rw[q]at h;exact h.elim
   ·exact hy
  obtain rfl:=uf hx hu;generalize 0=n
  induction es generalizing en n with
  |nil =>
   obtain rfl:en=[]:=List.eq_nil_of_length_eq_zero (by simpa using wF.1);rfl
  |cons p es ih=>cases en with
   |nil=>have:=wF.1;simp at this
   |cons m en =>
    obtain⟨h1,h2,h3⟩:=wF.cons;have hp:=lZ p (List.mem_cons_self ..);have e1:=uf hp h1;rw[Jl,Instr.findNow,e1,Ra g3 h (hF _ hx) (hF _ hp)];cases eE x p.1 with
    |true=>rfl
    |false =>
     have ha:∀ q∈es,dn E.T i.k q.1:=fun q hq=>lZ q (List.mem_cons_of_mem _ hq);first|exact ih ha h3 (n+1)|exact ih h3 ha (n+1)|exact ih h3 (n+1) ha
 |struct i hi fs hk hq =>
  obtain⟨ti,d,g1,g2,g3,-⟩:=cD (hE.types t i hi);obtain⟨fl,rfl,-⟩:=qk (hk.symm.trans g3);rw[run_findKey_eq w (by rw[g2]) u en];generalize 0=n
  induction es generalizing en n with
  |nil =>
   obtain rfl:en=[]:=List.eq_nil_of_length_eq_zero (by simpa using wF.1);simp[Instr.findAsking,lx,eX]
  |cons p es ih=>cases en with
   |nil=>have:=wF.1;simp at this
   |cons m en =>
    obtain⟨h1,h2,h3⟩:=wF.cons;have hp:=lZ p (List.mem_cons_self ..);rw[Jl];simp only[Instr.findAsking,Sem.run_bind,Q9 hE hi hk hq hx hp hu h1,Result.andThen_ok];cases eE x p.1 with
    |true=>simp
    |false =>
     simp only[Bool.false_eq_true,if_false];have ha:∀ q∈es,dn E.T (.struct _) q.1:=fun q hq=>lZ q (List.mem_cons_of_mem _ hq);first|exact ih ha h3 (n+1)|exact ih h3 ha (n+1)|exact ih h3 (n+1) ha
theorem EC(hE:E.OK){t:Nat}{k:TK}(hT:sh E t k){x:DV}(hx:dn E.T k x){bad:Nat->Prop}{w:World}{u:Value}(hu:VD bad w x u)(em:Bool):(Instr.checkKey em 10000 t u).run E.P w=.ok () w:=by
 have one:∀ (n:Nat) (t:Nat) (i:br) (hi:E.T[t]?=some i) (y:DV),nX i.k y->(Instr.checkKey em (n+1) t (gZ y)).run E.P w=.ok () w:=fun n t i hi y hy=>by
  obtain⟨ti,d,g1,g2,g3,-⟩:=cD (hE.types t i hi);unfold Instr.checkKey;simp only[Sem.run_bind,run_underlying g2,Result.andThen];unfold nX at hy;split at hy
  ·rename_i q;obtain⟨a,rfl⟩:=hy;obtain rfl:=wb (q.symm.trans g3);simp[gZ]
  ·rename_i q;obtain⟨a,rfl⟩:=hy;obtain rfl:=rU (q.symm.trans g3);simp[gZ]
  ·rename_i q;obtain⟨a,rfl⟩:=hy;have:d=.bool:=by rw[q]at g3;cases d<;>first|rfl|cases g3
   subst this;simp[gZ]
  ·exact hy.elim
 obtain rfl:=uf hx hu;cases hT with
 |plain i hi h =>
  have hF:nX i.k x:=by
   unfold dn at hx;split at hx
   ·rename_i q;rw[q]at h;exact h.elim
   ·exact hx
  exact one 9999 t i hi x hF
 |struct i hi fs hk hq =>
  obtain⟨ti,d,g1,g2,g3,-⟩:=cD (hE.types t i hi);obtain⟨fl,rfl,rfl⟩:=qk (hk.symm.trans g3);obtain⟨l,rfl,hl⟩:=hx;show(Instr.checkKey em (9999+1) t _).run E.P w=_;rw[Instr.checkKey];simp only[Sem.run_bind,run_underlying g2,Result.andThen_ok,gZ];rw[<- Array.forIn_toList]
  generalize ec:(l.map fun
   | .int j n=>Value.int j n
   | .str s => .string ⟨s.toArray⟩
   | .bool b => .bool b
   |_=>undef)=cs
  have bH:∀ (j:Nat) (y:DV),l[j]?=some y->cs[0+j]?=some (gZ y):=fun j y hy=>by
   rw[<- ec];have:=hl.flat y (List.mem_of_getElem? hy);simp[hy];cases y<;>first|rfl|exact this.elim
  clear ec;have go:∀ (fl:List Field) (n:Nat) (l:List DV),ue E.T n (fl.map fun f=>(f.offset,f.type)) l->(∀ (j:Nat) (y:DV),l[j]?=some y->cs[n+j]?=some (gZ y)) ->
    (forIn fl PUnit.unit fun f _ =>
     if f.name ≠ "_" then do
      let d <- part f.type cs.toArray f.offset
      Instr.checkKey em 9999 f.type d
      pure (ForInStep.yield PUnit.unit)
     else pure (ForInStep.yield PUnit.unit):Sem PUnit).run E.P w=.ok PUnit.unit w:=by
   intro fl
   induction fl with
   |nil=>intro n l _ _;simp
   |cons f fl ih =>
    intro n l h hv;cases l with
    |nil=>exact h.elim
    |cons a l =>
     obtain⟨e1,⟨fi,jH,oJ⟩,hr⟩:=h;simp only at e1 jH;have fK:fi.k.agg=false:=by
      unfold nX at oJ;split at oJ<;>first|(rename_i q;rw[q];rfl)|exact oJ.elim
     have h0 := hv 0 a rfl;rw [Nat.add_zero] at h0;have hp := yj (hE.types _ fi jH) w cs n (gZ a) h0 fK;have ug := ih (n + 1) l hr (fun j y hy => by rw [show n + 1 + j = n + (j + 1) by omega]; exact hv (j + 1) y (by simpa using hy));simp only [List.forIn_cons, Sem.run_bind];by_cases Bq : f.name = "_"
     ·simp only[Bq,ne_eq,not_true_eq_false,if_false,Sem.run_bind,Sem.run_pure,Result.andThen_ok];exact ug
     ·simp only[Bq,ne_eq,not_false_eq_true,if_true,Sem.run_bind,e1,hp,Result.andThen_ok,one 9998 f.type fi jH a oJ,Sem.run_pure];exact ug
  have:=go fl.toList 0 l hl bH;rw[this];rfl
end
section
variable {E:Env} {s:List AV} {h:List af} {c:Cx} {G:List (Nat × DV)}
theorem Rb{t:Nat}:bw E (.makeMap t none) s h (.map h.length) (h++[.map []]):=fun o c ac h1 h2 h3 h4=>by
 subst h2;obtain⟨k1,k2⟩:=h3.add (.map []) 0 (.map #[] 0);have bF:(c.add (.map []) 0 (.map #[] 0)).own c.heap.length=some (c.w.heap.size,0):=by simp[Cx.add]
 have mT:(c.add (.map []) 0 (.map #[] 0)).heap[c.heap.length]?=some (.map []):=by simp[Cx.add]
 refine⟨_,.map (some c.w.heap.size),.inl ?_,rfl,k2 ⟨c.w.heap.size,0,#[],0,bF,heap_alloc_new _ _,⟨rfl,by simp,by simp,by simp,rfl⟩,fun j k x m hj=>by simp at hj⟩,.map c.heap.length [] c.w.heap.size 0 mT bF,k1⟩;simp only[execOp,h1,Option.map_none,Instr.makeMap];rfl
theorem Rc{b:Nat}{es:List (DV × DV)}(hb:c.heap[b]?=some (.map es)){v:Value}(hv:VR c (.map b) v):∃ blk cap,v=.map (some blk)/\c.own b=some (blk,cap):=by
 cases hv with
 |map _ dV blk cap k1 k2=>exact⟨blk,cap,rfl,k2⟩
 |nK _ _ k1 _=>rw[hb]at k1;cases k1
theorem wG(h3:aK G c){b:Nat}{es:List (DV × DV)}(hb:c.heap[b]?=some (.map es)){v:Value}(hv:VR c (.map b) v):∃ (blk cap:Nat) (en:Array MapEntry) (ck:Nat),v=.map (some blk)/\c.own b=some (blk,cap)/\c.w.heap[blk]?=some (.map en ck)/\nM en ck es.length/\yJ c.bad c.w es en.toList:=by
 obtain⟨blk,cap,rfl,ho⟩:=Rc hb hv;obtain⟨iM,gV,en,ck,p1,p2,p3,p4⟩:=h3.box b _ hb;rw[ho]at p1;cases p1;exact⟨blk,cap,en,ck,rfl,ho,p2,p3,by simpa using p3.size,fun j k x m hk hm=>p4 j k x m hk (by simpa using hm)⟩
@[irreducible] def yN (E : Env) (e : Nat) (kd : TK) (x : DV) (es : List (DV × DV)) (K : DV -> Bool -> Prop) : Prop :=
 ∃ (z:DV) (zv:Value),dn E.T kd x/\(∀ p∈es,dn E.T kd p.1)/\(∀ w,(zeroValue e).run E.P w=.ok zv w)/\(∀ bad w,VD bad w z zv)/\K ((findD x es).getD z) (findD x es).isSome
theorem oK{E:Env}{e:Nat}{kd:TK}{x:DV}{es:List (DV × DV)}{K:DV->Bool->Prop}(z:DV)(zv:Value){v:DV}{f:Bool}(h1:dn E.T kd x)(h2:∀ p∈es,dn E.T kd p.1)(h3:∀ w,(zeroValue e).run E.P w=.ok zv w)(h4:∀ bad w,VD bad w z zv)
  (e1:(findD x es).getD z=v) (e2:(findD x es).isSome=f) (k:K v f):yN E e kd x es K:=by
 unfold yN;exact⟨z,zv,h1,h2,h3,h4,by rw[e1,e2];exact k⟩
theorem Re{E:Env}{e:Nat}{kd:TK}{x:DV}{es:List (DV × DV)}{K:DV->Bool->Prop}(h:yN E e kd x es K) :
  ∃ (z:DV) (zv:Value),dn E.T kd x/\(∀ p∈es,dn E.T kd p.1)/\(∀ w,(zeroValue e).run E.P w=.ok zv w)/\(∀ bad w,VD bad w z zv)/\K ((findD x es).getD z) (findD x es).isSome:=by unfold yN at h;exact h
theorem Rf(hE:E.OK){t kt e:Nat}{m ko:Operand}{ti:br}(bV:E.T[t]?=some ti)(hk:ti.k=.map kt e){kd:TK}(hT:sh E kt kd){b:Nat}{es:List (DV × DV)}(hb:h[b]?=some (.map es))(hm:aZ E.G s m (.map b)){x:DV}(hx:aZ E.G s ko (.d x))
  (h1:dn E.T kd x) (h2:∀ p∈es,dn E.T kd p.1) {z:DV} {zv:Value} (hz:∀ w,(zeroValue e).run E.P w=.ok zv w) (Rg:∀ bad w,VD bad w z zv) (ok:Bool) :
  bw E (.lookup t m ko ok) s h (match ok with|true => .d (.aD [(findD x es).getD z,.bool (findD x es).isSome])|false => .d ((findD x es).getD z)) h := .quiet fun o c ac e1 e2 h3 h4=>by
 subst e2;obtain⟨me,d,g1,g2,g3,-⟩:=cD (hE.types t ti bV);have hd:d=.map kt e:=by rw[hk]at g3;cases d<;>first|(cases g3;rfl)|cases g3
 subst hd;obtain⟨blk,cap,en,ck,q1,q2,q3,qe,q4⟩:=wG h3 hb (hm c ac h3 h4);have cG:=hx c ac h3 h4;generalize hu:ac.eval ko=u at cG;cases cG with
 |d _ _ cG =>
  have r1:=EC hE hT h1 cG en.isEmpty;have r2:=EB hE hT h1 cG h2 q4
  have hv:∃ (v:Value) (f:Bool),f=(findD x es).isSome/\VD c.bad c.w ((findD x es).getD z) v/\((match lx x es en.toList 0 with
    |some (_,v)=>pure (v,true)
    |none=>do pure (<- zeroValue e,false):Sem (Value × Bool))).run E.P c.w=.ok (v,f) c.w:=by
   cases hf:eX x es with
   |none =>
    rw[Ey hf];refine⟨zv,false,rfl,Rg _ _,?_⟩;simp[lx,hf,hz]
   |some j =>
    obtain⟨p,p1,p2,p3⟩:=Br hf;rw[p3];have hj:j<en.toList.length:=by rw[q4.1];exact aQ p1
    refine⟨en.toList[j].val,true,rfl,(q4.2 j p.1 p.2 _ p1 (by simp)).2,?_⟩;have:en.toList[j]?=some en.toList[j]:=by simp
    simp only[lx,hf,Option.bind_some,this,Option.map_some];rfl
  obtain⟨v,f,rfl,fh,cI⟩:=hv;have main:(Instr.lookup t (.map (some blk)) u ok).run E.P c.w=.ok (if ok then .tuple #[v,.bool (findD x es).isSome]else v) c.w:=by
   simp only[Instr.lookup,Sem.run_bind,run_underlying g2,Result.andThen_ok,qz q3,Sem.run_pure,r1,r2];have:=cI;cases Jm:lx x es en.toList 0 with
   |none =>
    rw[Jm]at this;simp only[Sem.run_bind,Sem.run_pure]at this ⊢;rw[hz]at this ⊢;simp only[Result.andThen_ok,Result.ok.injEq,Prod.mk.injEq]at this ⊢;rw[<- this.1.1,<- this.1.2];first|exact⟨rfl,rfl⟩|exact⟨rfl,trivial⟩|rfl
   |some q =>
    rw[Jm]at this;simp only[Sem.run_pure,Result.ok.injEq,Prod.mk.injEq]at this ⊢;rw[<- this.1.1,<- this.1.2];first|exact⟨rfl,rfl⟩|exact⟨rfl,trivial⟩|rfl
  refine⟨_,by simp only[execOp,e1,q1,hu,Sem.run_bind,main,Result.andThen_ok,Sem.run_pure];rfl,?_⟩;cases ok with
  |true =>
   refine .d _ _ (.aD _ _ rfl fun j y w hy hw=>?_)
   match j with
   |0=>simp at hy hw;subst hy;subst hw;exact fh
   |1=>simp at hy hw;subst hy;subst hw;exact .bool _
   |j+2=>simp at hy
  |false=>exact .d _ _ fh
theorem Jn(hE:E.OK){op:Op}{t kt e:Nat}{m ko vo:Operand}(cm:op=.mapUpdate t m ko vo\/op=.insert t m ko vo){ti:br}(bV:E.T[t]?=some ti)(hk:ti.k=.map kt e){kd:TK}(hT:sh E kt kd){b:Nat}{es:List (DV × DV)}(hb:h[b]?=some (.map es))(hm:aZ E.G s m (.map b)){x y:DV}(hx:aZ E.G s ko (.d x))(hy:aZ E.G s vo (.d y))
  (h1:dn E.T kd x) (h2:∀ p∈es,dn E.T kd p.1):bw E op s h (.d .undef) (h.set b (.map (bU x y es))):=fun o c ac e1 e2 h3 h4=>by
 subst e2;obtain⟨me,d,g1,g2,g3,-⟩:=cD (hE.types t ti bV);have hd:d=.map kt e:=by rw[hk]at g3;cases d<;>first|(cases g3;rfl)|cases g3
 subst hd;have eJ:=aQ hb;obtain⟨blk,cap,en,ck,q1,q2,q3,qe,q4⟩:=wG h3 hb (hm c ac h3 h4);have cG:=hx c ac h3 h4;have mc:=hy c ac h3 h4;generalize hu:ac.eval ko=u at cG;generalize hw:ac.eval vo=w at mc;cases cG with
 |d _ _ cG=>cases mc with
  |d _ _ mc =>
   have r1:=EC hE hT h1 cG false;have r2:=EB hE hT h1 cG h2 q4;have hblk:blk<c.w.heap.size:=(h3.bA b blk cap q2).1;have main:∃ (iS:Array MapEntry) (mU:Nat),(Instr.mapUpdate t (.map (some blk)) u w).run E.P c.w=.ok () { c.w with heap:=c.w.heap.setIfInBounds blk (.map iS mU) }/\nM iS mU (bU x y es).length /\
     ∀ (j:Nat) (k v:DV) (mm:MapEntry),(bU x y es)[j]?=some (k,v)->iS[j]?=some mm->VD c.bad c.w k mm.key/\VD c.bad c.w v mm.val:=by
    cases hf:eX x es with
    |none =>
     refine⟨en.push { key:=u,val:=w,born:=ck },ck+1,?_,?_,?_⟩
     ·simp only[Instr.mapUpdate,Sem.run_bind,run_underlying g2,Result.andThen_ok,qz q3,r1,r2,lx,hf,Option.bind_none,yM _ q3]
     ·rw[yL hf,List.length_append];exact qe.push u w
     ·intro j k v mm hj ey;rw[yL hf]at hj;have hl:en.size=es.length:=by simpa using q4.1
      rcases Nat.lt_or_ge j es.length with ah|aA
      ·rw[List.getElem?_append_left ah]at hj;rw[Array.getElem?_push,if_neg (by omega)]at ey;exact q4.2 j k v mm hj (by simpa using ey)
      ·have jL:j=es.length:=by
        have:=aQ hj;simp at this;omega
       subst jL;rw[List.getElem?_append_right (Nat.le_refl _)]at hj;simp at hj;obtain⟨rfl,rfl⟩:=hj;rw[Array.getElem?_push,if_pos hl.symm]at ey;cases ey;exact⟨cG,mc⟩
    |some i =>
     obtain⟨p,p1,p2,p3⟩:=Br hf;have hl:en.size=es.length:=by simpa using q4.1
     have hi:i<en.size:=by rw[hl];exact aQ p1
     have kF:en[i]?=some en[i]:=by simp[hi]
     have Rh:=(q4.2 i p.1 p.2 en[i] p1 (by simp[hi])).1;have yO:=Ji p2;have e3:=uf h1 cG;have e4:=uf (h2 p (List.mem_of_getElem? p1)) Rh;have ED:Instr.sameBits 10000 en[i].key u=true:=by
      rw[e3,e4,<- yO];exact Jj h1
     refine⟨en.modify i fun e=>{ e with key:=u,val:=w },ck,?_,?_,?_⟩
     ·have EE:lx x es en.toList 0=some (i,en[i].val):=by
       simp[lx,hf,hi]
      have Bt:(Instr.keyThatStays en[i].key u).run E.P c.w=.ok u c.w:=by
       simp only[Instr.keyThatStays,ED,if_true,Sem.run_pure]
      simp only[Instr.mapUpdate,Sem.run_bind,run_underlying g2,Result.andThen_ok,qz q3,r1,r2,EE,kF,Option.map_some,Option.getD_some,Bt,yM _ q3]
     ·rw[yK hf,List.length_set];exact qe.modify i u w
     ·intro j k v mm hj ey;rw[yK hf]at hj;by_cases ly:j=i
      ·subst ly;rw[List.getElem?_set_self (by omega)]at hj;cases hj;rw[Array.getElem?_modify,if_pos rfl,kF]at ey;cases ey;exact⟨cG,mc⟩
      ·rw[List.getElem?_set_ne (Ne.symm ly)]at hj;rw[Array.getElem?_modify,if_neg (Ne.symm ly)]at ey;exact q4.2 j k v mm hj (by simpa using ey)
   obtain⟨iS,mU,cI,hlen,fU⟩:=main
   let c':Cx:={ c with heap:=c.heap.set b (.map (bU x y es)),w:={ c.w with heap:=c.w.heap.setIfInBounds blk (.map iS mU) } }
   have yP:c'.w.heap[blk]?=some (.map iS mU):=by simp[c',hblk]
   have si:∀ b',b'≠blk->c'.w.heap[b']?=c.w.heap[b']? := fun b' cw=>by simp[c',Array.getElem?_setIfInBounds,Ne.symm cw]
   have qA:c'.heap[b]?=some (.map (bU x y es)):=by show(c.heap.set b _)[b]?=_;rw[List.getElem?_set_self eJ]
   have jN:∀ i,i≠b->c'.heap[i]?=c.heap[i]? := fun i hi=>by show(c.heap.set b _)[i]?=_;rw[List.getElem?_set_ne (Ne.symm hi)]
   have bg:Step c c':=⟨rfl,h3.bQ,rfl,rfl,rfl,by simp[c'],fun b' _ bK=>si b' (fun oL=>bK b cap (oL ▸ q2)),fun i b' n hi _=>⟨n,hi⟩,fun i bx hi=>by
    by_cases bE:i=b
    ·subst bE;rw[hb]at hi;cases hi;exact .inl ⟨_,qA,rfl⟩
    ·rw[<- jN i bE]at hi;cases bx with
     |cells cs=>exact .inl ⟨cs,hi,rfl,rfl⟩
     |arr g sz l=>exact .inl ⟨g,l,hi,.inr ⟨rfl,rfl,rfl⟩⟩
     |map es=>exact .inl ⟨es,hi,rfl⟩
     |gone=>exact hi
     |hole=>exact⟨_,hi⟩⟩
   have aM:aK E.G c':=by
    refine h3.next bg (fun i b' n hi=>?_) h3.inj (fun i bx hi=>?_)
    ·have:=h3.bA i b' n hi;refine⟨by simpa [c']using this.1,?_⟩;show i<(c.heap.set b _).length;rw[List.length_set];exact this.2
    ·by_cases bE:i=b
     ·subst bE;rw[qA]at hi;cases hi;right;exact⟨blk,cap,iS,mU,q2,yP,hlen,fun j k v mm hj ey=>⟨bg.vd (fU j k v mm hj ey).1,bg.vd (fU j k v mm hj ey).2⟩⟩
     ·rw[jN i bE]at hi;exact .inl ⟨hi,rfl,fun b' n hn=>si b' (fun oL=>bE (h3.inj i b blk n cap (oL ▸ hn) q2))⟩
   refine⟨c',undef,.inr ⟨?_,rfl⟩,rfl,aM,.d _ _ .undef,bg⟩;rcases cm with rfl|rfl
   ·simp only[execOp,e1,q1,hu,hw,Sem.run_bind,cI,Result.andThen_ok,Sem.run_pure];rfl
   ·simp only[execOp,e1,q1,hu,hw,Sem.run_bind,cI,Result.andThen_ok,Sem.run_pure];rfl
theorem Ri(hE:E.OK){t:Nat}{args:Array Operand}{ts:Array TypeId}{m:Operand}(jK:args.toList[0]?=some m)(iR:ts.toList[0]?=some t){ti:br}(bV:E.T[t]?=some ti){kt e:Nat}(hk:ti.k=.map kt e){b:Nat}{es:List (DV × DV)}(hb:h[b]?=some (.map es))(hm:aZ E.G s m (.map b)) :
  bw E (.call { callee := .builtin .len,args:=args,argTypes:=ts }) s h (.d (.int .i64 es.length)) h := .quiet fun o c ac e1 e2 h3 h4=>by
 subst e2;obtain⟨me,d,g1,g2,g3,-⟩:=cD (hE.types t ti bV);have hd:d=.map kt e:=by rw[hk]at g3;cases d<;>first|(cases g3;rfl)|cases g3
 subst hd;obtain⟨blk,cap,en,ck,q1,q2,q3,qe,q4⟩:=wG h3 hb (hm c ac h3 h4);refine⟨.int .i64 es.length,?_,.d _ _ (.int _ _)⟩;have hl:en.size=es.length:=by simpa using q4.1
 have dX:args[0]?=some m:=by simpa using jK
 have nO:ts[0]?=some t:=by simpa using iR
 have wh:(args.map ac.eval)[0]?=some (.map (some blk)):=by rw[Array.getElem?_map,dX];simp[q1]
 simp only[execOp,e1,resolve,invoke,builtin,Builtin.len_,nO,wh,Sem.run_bind,Sem.run_pure,Result.andThen_ok,run_underlying g2,qz q3,goInt,hl]
def wH(E:Env)(kt:Nat)(stop:Prop)(k:TK->Prop):Prop:=aT E.T kt stop fun i=>match i.k with
 | .int j=>k (.int j)
 | .string=>k .string
 | .bool=>k .bool
 | .struct fs=>match yE kt E.Q with
  |true=>k (.struct fs)
  |false=>stop
 |_=>stop
theorem Bu{kt:Nat}{stop:Prop}{k:TK->Prop}(H:wH E kt stop k):stop\/∃ kd,sh E kt kd/\k kd:=by
 unfold wH at H;rcases bo H with H|⟨i,hi,H⟩
 ·exact .inl H
 split at H
 ·rename_i q;exact .inr ⟨_,q ▸ .plain i hi (by rw[q];trivial),H⟩
 ·rename_i q;exact .inr ⟨_,q ▸ .plain i hi (by rw[q];trivial),H⟩
 ·rename_i q;exact .inr ⟨_,q ▸ .plain i hi (by rw[q];trivial),H⟩
 ·rename_i fs q;split at H
  ·rename_i q2;exact .inr ⟨_,.struct i hi fs q (Bp q2),H⟩
  ·exact .inl H
 ·exact .inl H
def wI(E:Env)(o:Op)(s:List AV)(h:List af)(stop:Prop)(k:AV->List af->Prop):Prop :=
 match o with
 | .makeMap _ none=>nL h (.map []) 0 fun h' n=>k (.map n) h'
 | .lookup t m x ok=>aT E.T t stop fun ti=>match ti.k with
  | .map kt e=>ca E.G s m stop fun
   | .map b=>aT h b stop fun
    | .map es=>ca E.G s x stop fun
     | .d y=>wH E kt stop fun kd=>yN E e kd y es fun v f=>match ok with
      |true=>k (.d (.aD [v,.bool f])) h
      |false=>k (.d v) h
     |_=>stop
    |_=>stop
   |_=>stop
  |_=>stop
 | .call { callee := .builtin .len,args:=args,argTypes:=ts }=>aT args.toList 0 stop fun m=>aT ts.toList 0 stop fun t=>aT E.T t stop fun ti=>match ti.k with
  | .map _ _=>ca E.G s m stop fun
   | .map b=>aT h b stop fun
    | .map es=>k (.d (.int .i64 es.length)) h
    |_=>stop
   |_=>stop
  |_=>stop
 | .mapUpdate t m x v=>aT E.T t stop fun ti=>match ti.k with
  | .map kt _=>ca E.G s m stop fun
   | .map b=>aT h b stop fun
    | .map es=>ca E.G s x stop fun
     | .d y=>ca E.G s v stop fun
      | .d z=>wH E kt stop fun kd=>need (dn E.T kd y/\∀ p∈es,dn E.T kd p.1) (fz h b (.map (bU y z es)) fun h'=>k (.d .undef) h')
      |_=>stop
     |_=>stop
    |_=>stop
   |_=>stop
  |_=>stop
 |_=>stop
theorem Rj(hE:E.OK){o:Op}{stop:Prop}{k:AV->List af->Prop}(H:wI E o s h stop k):stop\/∃ v h',k v h'/\bw E o s h v h':=by
 unfold wI at H;split at H
 ·rw[rR,Nat.zero_add]at H;exact .inr ⟨_,_,H,Rb⟩
 ·rename_i t m x ok;rcases bo H with H|⟨ti,bV,H⟩
  ·exact .inl H
  split at H
  ·rename_i kt e hk;rcases cq H with H|⟨a,ha,H⟩
   ·exact .inl H
   split at H
   ·rename_i b;rcases bo H with H|⟨bx,hb,H⟩
    ·exact .inl H
    split at H
    ·rename_i es;rcases cq H with H|⟨y,hy,H⟩
     ·exact .inl H
     split at H
     ·rename_i y;rcases Bu H with H|⟨kd,hT,H⟩
      ·exact .inl H
      obtain⟨z,zv,f1,f2,f3,f4,H⟩:=Re H;have:=Rf (s:=s) hE bV hk hT hb ha hy f1 f2 f3 f4 ok;cases ok with
      |true=>exact .inr ⟨_,_,H,this⟩
      |false=>exact .inr ⟨_,_,H,this⟩
     ·exact .inl H
    ·exact .inl H
   ·exact .inl H
  ·exact .inl H
 ·rename_i args ts;rcases bo H with H|⟨m,hm,H⟩
  ·exact .inl H
  rcases bo H with H|⟨t,ht,H⟩
  ·exact .inl H
  rcases bo H with H|⟨ti,bV,H⟩
  ·exact .inl H
  split at H
  ·rename_i kt e hk;rcases cq H with H|⟨a,ha,H⟩
   ·exact .inl H
   split at H
   ·rename_i b;rcases bo H with H|⟨bx,hb,H⟩
    ·exact .inl H
    split at H
    ·exact .inr ⟨_,_,H,Ri hE hm ht bV hk hb ha⟩
    ·exact .inl H
   ·exact .inl H
  ·exact .inl H
 ·rename_i t m x v;rcases bo H with H|⟨ti,bV,H⟩
  ·exact .inl H
  split at H
  ·rename_i kt e hk;rcases cq H with H|⟨a,ha,H⟩
   ·exact .inl H
   split at H
   ·rename_i b;rcases bo H with H|⟨bx,hb,H⟩
    ·exact .inl H
    split at H
    ·rename_i es;rcases cq H with H|⟨y,hy,H⟩
     ·exact .inl H
     split at H
     ·rename_i y;rcases cq H with H|⟨z,hz,H⟩
      ·exact .inl H
      split at H
      ·rename_i z;rcases Bu H with H|⟨kd,hT,H⟩
       ·exact .inl H
       obtain⟨⟨f1,f2⟩,H⟩:=mR H;rw[gq]at H;exact .inr ⟨_,_,H,Jn hE (.inl rfl) bV hk hT hb ha hy hz f1 f2⟩
      ·exact .inl H
     ·exact .inl H
    ·exact .inl H
   ·exact .inl H
  ·exact .inl H
 ·exact .inl H
def nY(E:Env)(o:Op)(s:List AV)(h:List af)(stop:Prop)(k:AV->List af->Prop):Prop:=qv E.T E.G o s h (Eu E o s (wI E o s h stop k) fun v=>k v h) k
theorem yQ(hE:E.OK){o:Op}{stop:Prop}{k:AV->List af->Prop}(H:nY E o s h stop k):stop\/∃ v h',k v h'/\bw E o s h v h':=by
 rcases QU hE H with H|H
 ·rcases Q3 H with H|⟨v,H,ho⟩
  ·exact Rj hE H
  ·exact .inr ⟨v,h,H,ho h⟩
 ·exact .inr H
end
end Go.ay
end
