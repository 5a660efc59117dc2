/- Lemmas of mine. Conditions: as stated. -/
import Derived.Test.YtfmdaiojokniiaaGreatDoorS0
import Derived.RangeFuncNested
import Derived.RangeFuncLeaves
import Derived.Laws.AppendOwn
import Derived.Laws.MakeOwn
import Derived.Laws.StructEq
import Derived.Laws.BytesString
import Derived.Lib.ConvBytes
import Derived.WideKeyRuns
import Derived.MapKept
set_option linter.unusedVariables false
set_option linter.unusedSimpArgs false
open Array renaming ext'->afp,getElem?_eq_getElem->aev,replicate->afz,getElem?_toList->aeh,getElem?_push->aeL,getElem?_modify->aes
open Bool renaming false_eq_true->aet,and_eq_true->aft,true_and->afC,not_eq_true'->afD
open Int renaming toNat_natCast->afr,toNat_zero->afB
open List renaming mem_of_getElem?->afh,getElem?_set_self->aei,range->aeU,map_cons->ad0,replicate->ad6,getElem?_append_left->ael,getElem?_set_ne->aej,getElem?_eq_none->adW,all_eq_true->ad',mem_cons_self->aeQ,getElem?_append_right->ae9,getElem?_eq_getElem->afo,getElem?_take->aek,mem_cons_of_mem->aeR,getD->aem,append_assoc->afb,getElem_mem->aeZ,eq_nil_of_length_eq_zero->aee,length_set->aeX,mem_cons->afu,getElem?_replicate->aeC,exists_cons_of_ne_nil->aeo,getElem?_map->ad1,length_append->aey,getElem?_drop->afw,mapM_cons->ae6,mem_map->aer,take_append_drop->afA
open Nat renaming beq->adY,eq_of_beq_eq_true->adX,le_refl->aed,lt_or_ge->adV,add_mul->aec,blt->adZ,mul_le_mul_right->afg,zero_add->ad5,mul_comm->aeE,one_mul->aez,le_of_ble_eq_true->ad3,add_zero->aew,lt_of_lt_of_le->ad4,zero_le->afv,sub_zero->afx,beq_refl->afy,div_lt_of_lt_mul->afj,div_add_mod->afl,le_of_eq->aeW,add_assoc->ad7,zero_mul->ae8
open Option renaming getD_some->aeB,bind_some->ae0,getD_none->afq,map_none->afs,map_some->aeT
open Go.Result renaming andThen_ok->adU,andThen->afE
open Go.Sem renaming run_bind->adT,run_pure->adS
section
namespace Go.aA
open Go Go.RowKit
inductive aT where
 |code (c:Code)
 |inBlock (id:Nat)
 |inLoop (c:Code)
 |bw (ops:Array Oper) (l:List Oper)
 |pI (l:Nat)
 |qF
def aT.bK:aT->Item
 | .code c => .code c
 | .inBlock id => .inBlock id
 | .inLoop c => .inLoop c
 | .bw ops l => .inRegion ops ((aeU ops.size).drop (ops.size-l.length))
 | .pI l => .inRangeFunc l
 | .qF => .beginRound
def aT.ok:aT->Prop
 | .bw ops l=>∃ n,n<=ops.size/\l=ops.toList.drop n
 |_=>True
structure iZ where
 f:FuncId
 cA:Option Nat
 aN:List Nat
def marks(l:List Nat):List Deferred:=l.map fun d=>{ target := .collected d,args := #[] }
structure ca where
 aj:iZ
 todo:List aT
 iP:List AV
def bf(x:iZ):Frame:={ (default:Frame)with fn:=x.f,kind := .normal,roundOf:=x.cA }
def ca.bK(f:ca)(t:Array Value):Frame:=(bf f.aj).atR ⟨t,marks f.aj.aN⟩ (f.todo.map aT.bK)
def ca.ok(f:ca):Prop:=∀ i∈f.todo,i.ok
def eV:List ca->List (Array Value)->List Frame
 |f::fs,t::ts=>f.bK t::eV fs ts
 |_,_=>[]
def CR(c:Cx):List ca->List (Array Value)->Prop
 |[],[]=>True
 |f::fs,t::ts=>VS c f.iP t/\f.ok/\CR c fs ts
 |_,_=>False
theorem od{c c':Cx}(h:∀ x v,VR c x v->VR c' x v):∀ {fs:List ca} {ts:List (Array Value)},CR c fs ts->CR c' fs ts
 |[],[],_=>trivial
 |_::_,_::_,h'=>⟨⟨h'.1.1,fun i x v hx hv=>h x v (h'.1.2 i x v hx hv)⟩,h'.2.1,od h h'.2.2⟩
theorem Step.cr{c c':Cx}(h:Step c c'):∀ {fs:List ca} {ts:List (Array Value)},CR c fs ts->CR c' fs ts
 |[],[],_=>trivial
 |_::_,_::_,h'=>⟨h.vs h'.1,h'.2.1,h.cr h'.2.2⟩
def yM(c0 c:Cx)(i:Nat):af->Prop
 | .cells cs=>(∃ cs',c.heap[i]?=some (.cells cs')/\c.own i=c0.own i/\cs'.length=cs.length)\/c.heap[i]?=some .gone
 | .arr _ ts l=>(∃ g' l',c.heap[i]?=some (.arr g' ts l')/\(0<g'\/g'=0/\l'.length=l.length/\c.own i=c0.own i))\/c.heap[i]?=some .gone
 | .map _=>(∃ ee,c.heap[i]?=some (.map ee)/\c.own i=c0.own i)\/c.heap[i]?=some .gone
 | .gone=>c.heap[i]?=some .gone
 | .hole=>∃ b,c.heap[i]?=some b
structure Rel(c0 c:Cx):Prop where
 aE:c.aE=c0.aE
 os:c.w.os=c0.w.os
 tape:c.w.tape=c0.w.tape
 output:c.w.output=c0.w.output
 size:c0.w.heap.size<=c.w.heap.size
 keep:∀ b,b<c0.w.heap.size->(∀ i n,c0.own i≠some (b,n))->c.w.heap[b]?=c0.w.heap[b]?
 dB:∀ i b n,c.own i=some (b,n)->b<c0.w.heap.size->∃ m,c0.own i=some (b,m)
 boxes:∀ i bx,c0.heap[i]?=some bx->yM c0 c i bx
def wO(h:List af):Prop:=∀ (i g:Nat) (ts:Nat × Nat) (l:List DV),h[i]?=some (.arr g ts l)->g=0
theorem Rel.refl(c:Cx)(hf:wO c.heap):Rel c c:=⟨rfl,rfl,rfl,rfl,aed _,fun _ _ _=>rfl,fun i b n h _=>⟨n,h⟩,fun i bx h=>by
  cases bx with
  |cells cs=>exact .inl ⟨cs,h,rfl,rfl⟩
  |arr g sz l=>exact .inl ⟨g,l,h,.inr ⟨hf i g sz l h,rfl,rfl⟩⟩
  |map es=>exact .inl ⟨es,h,rfl⟩
  |gone=>exact h
  |hole=>exact⟨_,h⟩⟩
theorem Rel.step{c0 c c':Cx}(h:Rel c0 c)(k:Step c c'):Rel c0 c' where
 aE:=k.aE.trans h.aE
 os:=k.os.trans h.os
 tape:=k.tape.trans h.tape
 output:=k.output.trans h.output
 size:=Nat.le_trans h.size k.size
 keep:=fun x hx hn=>by
  rw[k.keep x (ad4 hx h.size) (fun i n hi=>by obtain⟨m,hj⟩:=h.dB i x n hi hx;exact hn i m hj)];exact h.keep x hx hn
 dB:=fun i x n hi hx=>by
  obtain⟨m,hj⟩:=k.dB i x n hi (ad4 hx h.size);exact h.dB i x m hj hx
 boxes:=fun i bx hi=>by
  have h1:=h.boxes i bx hi;cases bx with
  |cells cs =>
   rcases h1 with⟨cs',h1,h2,h3⟩|h1
   ·rcases k.boxes i _ h1 with⟨Ea,k1,k2,k3⟩|k1
    ·exact .inl ⟨Ea,k1,k2.trans h2,k3.trans h3⟩
    ·exact .inr k1
   ·exact .inr (k.boxes i _ h1)
  |arr g sz l =>
   rcases h1 with⟨g',l',h1,h2⟩|h1
   ·rcases k.boxes i _ h1 with⟨Eb,Ec,k1,k2⟩|k1
    ·refine .inl ⟨Eb,Ec,k1,?_⟩;rcases h2 with h2|⟨h2,h3,h4⟩<;>rcases k2 with k2|⟨k2,k3,k4⟩
     ·left;omega
     ·left;omega
     ·left;omega
     ·exact .inr ⟨k2.trans h2,k3.trans h3,k4.trans h4⟩
    ·exact .inr k1
   ·exact .inr (k.boxes i _ h1)
  |map es =>
   rcases h1 with⟨ee,h1,h2⟩|h1
   ·rcases k.boxes i _ h1 with⟨Ed,k1,k2⟩|k1
    ·exact .inl ⟨Ed,k1,k2.trans h2⟩
    ·exact .inr k1
   ·exact .inr (k.boxes i _ h1)
  |gone=>exact k.boxes i _ h1
  |hole=>obtain⟨b,h1⟩:=h1;exact(k.boxes i b h1).ex
structure dc(c0 c:Cx):Prop where
 lim:∀ b,c0.aE b->b<c0.w.heap.size
 mj:∀ i p,c0.own i=some p->i<c0.heap.length
 aE:∀ b,c0.aE b->c.aE b
 nb:∀ b,c.aE b->c0.aE b\/c0.w.heap.size<=b
 os:c.w.os=c0.w.os
 tape:c.w.tape=c0.w.tape
 output:c.w.output=c0.w.output
 size:c0.w.heap.size<=c.w.heap.size
 keep:∀ b,b<c0.w.heap.size->(∀ i n,c0.own i≠some (b,n))->c.w.heap[b]?=c0.w.heap[b]?
 dB:∀ i b n,c.own i=some (b,n)->b<c0.w.heap.size->∃ m,c0.own i=some (b,m)
 boxes:∀ i bx,c0.heap[i]?=some bx->yM c0 c i bx
theorem Rel.x{c0 c:Cx}(h:Rel c0 c)(hb:∀ b,c0.aE b->b<c0.w.heap.size)(ho:∀ i b n,c0.own i=some (b,n)->b<c0.w.heap.size/\i<c0.heap.length):dc c0 c:=⟨hb,fun i p hp=>(ho i p.1 p.2 hp).2,fun b h'=>by rw[h.aE];exact h',fun b h'=>by rw[h.aE]at h';exact .inl h',h.os,h.tape,h.output,h.size,h.keep,h.dB,h.boxes⟩
theorem dc.step{c0 c c':Cx}(h:dc c0 c)(k:Step c c'):dc c0 c':=by
 have h1:Rel ({ c0 with aE:=c.aE }) c:=⟨rfl,h.os,h.tape,h.output,h.size,h.keep,h.dB,fun i bx hi=>by
  have:=h.boxes i bx hi
  cases bx<;>exact this⟩
 have h2:=h1.step k
 exact⟨h.lim,h.mj,fun b hb=>by rw[k.aE];exact h.aE b hb,fun b hb=>by rw[k.aE]at hb;exact h.nb b hb,h2.os,h2.tape,h2.output,h2.size,h2.keep,h2.dB,fun i bx hi=>by
  have:=h2.boxes i bx hi
  cases bx<;>exact this⟩
def Cx.sy(c:Cx)(aE:Nat->Prop):Cx:={ c with aE:=aE }
theorem dc.clean{c0 c:Cx}(h:dc c0 c):Rel c0 (c.sy c0.aE):=⟨rfl,h.os,h.tape,h.output,h.size,h.keep,h.dB,fun i bx hi=>by
 have:=h.boxes i bx hi
 cases bx<;>exact this⟩
theorem ml{c c':Cx}{i:Nat}{bx:af}(h1:c.heap[i]?=some bx)(h2:c'.heap[i]?=c.heap[i]?)(h3:c'.own i=c.own i):tY c c' i bx:=by
 rw[h1]at h2;cases bx with
 |cells cs=>exact .inl ⟨cs,h2,h3,rfl⟩
 |arr g sz l=>exact .inl ⟨g,l,h2,.inr ⟨rfl,rfl,h3⟩⟩
 |map es=>exact .inl ⟨es,h2,h3⟩
 |gone=>exact h2
 |hole=>exact⟨_,h2⟩
theorem ka.gen{c c':Cx}(iQ:∀ x v,VR c x v->VR c' x v)(fw:∀ x v,VD c.bad c.w x v->VD c'.bad c'.w x v){i:Nat}{bx:af}(hb:ka c i bx)(ho:c'.own i=c.own i)(hw:∀ b n,c.own i=some (b,n)->c'.w.heap[b]?=c.w.heap[b]?):ka c' i bx:=by
 cases bx with
 |cells cs =>
  obtain⟨blk,cap,vs,ty,h1,h2,h3,h4⟩:=hb;exact⟨blk,cap,vs,ty,ho.trans h1,(hw blk cap h1).trans h2,h3,fun j x v hx hv=>iQ x v (h4 j x v hx hv)⟩
 |arr g ts l =>
  obtain⟨h0,h1,h2⟩:=hb;refine⟨h0,h1,?_⟩;rcases h2 with⟨h2,h3⟩|⟨blk,cap,vs,h2,h3,h4,h5,h6,h7⟩
  ·exact .inl ⟨ho.trans h2,h3⟩
  ·refine .inr ⟨blk,cap,vs,ho.trans h2,(hw blk cap h2).trans h3,h4,h5,h6,fun i j e x he hx=>?_⟩;obtain⟨v,h8,yC,h9⟩:=h7 i j e x he hx;exact⟨v,h8,yC,fw x v h9⟩
 |map es =>
  obtain⟨blk,cap,en,ck,h1,h2,h3,h4⟩:=hb;exact⟨blk,cap,en,ck,ho.trans h1,(hw blk cap h1).trans h2,h3,fun j k x m hx hm=>⟨fw _ _ (h4 j k x m hx hm).1,fw _ _ (h4 j k x m hx hm).2⟩⟩
 |gone=>exact ho.trans hb
 |hole=>exact ho.trans hb
theorem Jy{c:Cx}{aE:Nat->Prop}(hb:∀ b,aE b->c.aE b)(b:Nat)(_:b<c.w.heap.size)(hn:¬ c.bad b):¬ (c.sy aE).bad b/\(c.sy aE).w.heap[b]?=c.w.heap[b]? :=
 ⟨fun h=>hn (h.elim (fun h => .inl (hb b h)) .inr),rfl⟩
theorem EB{c:Cx}{aE:Nat->Prop}(hb:∀ b,aE b->c.aE b){x:AV}{v:Value}(hv:VR c x v):VR (c.sy aE) x v:=sj (Jy hb) (fun _ _ hi=>ml hi rfl rfl) hv
theorem aM.sy{G:List (Nat × DV)}{c:Cx}{aE:Nat->Prop}(ho:aM G c)(hb:∀ b,aE b->c.aE b):aM G (c.sy aE) where
 bS:=fun b h=>ho.bS b (hb b h)
 bB:=ho.bB
 inj:=ho.inj
 sep:=fun i b n hi h=>ho.sep i b n hi (hb b h)
 box:=fun i bx hi=>(ho.box i bx hi).gen (fun _ _=>EB hb) (fun _ _ hv=>hv.mono (Jy hb)) rfl (fun _ _ _=>rfl)
 fS:=fun g e hg=>EB hb (ho.fS g e hg)
structure Row where
 blk:Nat
 cap:Nat
 ts:Nat × Nat
 l:List DV
structure mn(lim:Nat)(c:Cx)(r:Row):Prop where
 aE:c.aE r.blk
 new:lim<=r.blk
 pos:0<r.ts.2
 len:∀ (i:Nat) (e:DV),r.l[i]?=some e->e.cells.length=r.ts.2
 mem:∃ vs:Array Value,c.w.heap[r.blk]?=some (.cells vs r.ts.1 (0,0))/\vs.size=r.cap*r.ts.2/\r.l.length<=r.cap/\r.cap<=maxLen /\
  ∀ (i j:Nat) (e x:DV),r.l[i]?=some e->e.cells[j]?=some x->∃ v,vs[i*r.ts.2+j]?=some v/\v.oneCell'=true/\VD c.bad c.w x v
structure Iter where
 bm:Nat
 r:Nat
 en:Array MapEntry
 ck:Nat
 since:Nat
 seen:List Nat
 es:List (DV × DV)
structure mo(lim:Nat)(c:Cx)(i:Iter):Prop where
 EC:c.aE i.bm
 yN:c.aE i.r
 Jz:lim<=i.r
 map:c.w.heap[i.bm]?=some (.map i.en i.ck)
 iter:∃ c0,i.since<=c0/\(i.seen≠[]->c0=i.ck)/\c.w.heap[i.r]?=some (.mapIter (some i.bm) i.since ((i.seen.map fun j=>((i.en[j]?).map (·.born)).getD 0).toArray) c0)
 old:∀ x∈i.en.toList,x.born<i.since
 cB:n' i.en i.ck i.es.length
 val:∀ (j:Nat) (k x:DV) (m:MapEntry),i.es[j]?=some (k,x)->i.en[j]?=some m->VD c.bad c.w k m.key/\VD c.bad c.w x m.val
 lt:∀ j∈i.seen,j<i.en.size
structure kT where
 l:Nat
 d:Nat
 st:LoopState
 pe:Option Code
 fn:FuncId
 tm:Array Value
 ps:Array Tmp
 assign:Code
 body:Code
 iP:List AV
def kT.ff(i:kT):Loop:={ state:=i.st,pending:=i.pe,fn:=i.fn,tmps:=i.tm,params:=i.ps,assign:=i.assign,body:=i.body,defers:=i.d }
structure oe(lim:Nat)(c:Cx)(i:kT):Prop where
 aE:c.aE i.l
 new:lim<=i.l
 mem:c.w.heap[i.l]?=some (.loop i.ff)
 iP:VS c i.iP i.tm
structure sA(lim:Nat)(c:Cx)(d:Nat):Prop where
 aE:c.aE d
 new:lim<=d
 mem:c.w.heap[d]?=some (.deferred (some []))
inductive bo where
 |row (r:Row)
 |iter (i:Iter)
 |loop (i:kT)
 |mark (d:Nat)
def bo.cm:bo->List Nat
 | .row r=>[r.blk]
 | .iter i=>[i.bm,i.r]
 | .loop i=>[i.l]
 | .mark d=>[d]
def ja(lim:Nat)(c:Cx):bo->Prop
 | .row r=>mn lim c r
 | .iter i=>mo lim c i
 | .loop i=>oe lim c i
 | .mark d=>sA lim c d
structure gH(lim:Nat)(c:Cx)(rows:List bo):Prop where
 each:∀ r∈rows,ja lim c r
 nodup:(rows.flatMap bo.cm).Nodup
theorem gH.nil{lim:Nat}{c:Cx}:gH lim c []:=⟨fun r hr=>by simp at hr,List.nodup_nil⟩
theorem mn.gen{lim:Nat}{c c':Cx}{r:Row}(h:mn lim c r)(hb:c'.aE r.blk)(hw:c'.w.heap[r.blk]?=c.w.heap[r.blk]?)(fw:∀ x v,VD c.bad c.w x v->VD c'.bad c'.w x v):mn lim c' r:=by
 obtain⟨h1,h2,h3,h4,vs,h5,h6,h7,h8,h9⟩:=h;exact⟨hb,h2,h3,h4,vs,hw.trans h5,h6,h7,h8,fun i j e x he hx=>by obtain⟨v,k1,k2,k3⟩:=h9 i j e x he hx;exact⟨v,k1,k2,fw x v k3⟩⟩
theorem mo.gen{lim:Nat}{c c':Cx}{i:Iter}(h:mo lim c i)(hb:c'.aE i.bm)(hr:c'.aE i.r)(hw:c'.w.heap[i.bm]?=c.w.heap[i.bm]?)(uk:c'.w.heap[i.r]?=c.w.heap[i.r]?)(fw:∀ x v,VD c.bad c.w x v->VD c'.bad c'.w x v):mo lim c' i:=by
 obtain⟨h1,h2,h3,h4,h5,h6,h7,h8,h9⟩:=h;exact⟨hb,hr,h3,hw.trans h4,(by obtain⟨c0,k1,k0,k2⟩:=h5;exact⟨c0,k1,k0,uk.trans k2⟩),h6,h7,fun j k x m h1 h2=>⟨fw _ _ (h8 j k x m h1 h2).1,fw _ _ (h8 j k x m h1 h2).2⟩,h9⟩
theorem ja.aE{lim:Nat}{c:Cx}:∀ {g:bo},ja lim c g->∀ b∈g.cm,c.aE b
 | .row r,h,b,hb=>by simp[bo.cm]at hb;subst hb;exact mn.aE h
 | .iter i,h,b,hb=>by simp[bo.cm]at hb;rcases hb with rfl|rfl;exact mo.EC h;exact mo.yN h
 | .loop i,h,b,hb=>by simp[bo.cm]at hb;subst hb;exact oe.aE h
 | .mark d,h,b,hb=>by simp[bo.cm]at hb;subst hb;exact sA.aE h
theorem ja.gen{lim:Nat}{c c':Cx}{g:bo}(h:ja lim c g)(hb:∀ b∈g.cm,c'.aE b/\c'.w.heap[b]?=c.w.heap[b]?)(fw:∀ x v,VD c.bad c.w x v->VD c'.bad c'.w x v)(iQ:∀ x v,VR c x v->VR c' x v):ja lim c' g:=by
 cases g with
 |loop i =>
  obtain⟨h1,h2,h3,h4⟩:=h;have:=hb i.l (by simp[bo.cm]);exact⟨this.1,h2,this.2.trans h3,h4.1,fun j x v hx hv=>iQ x v (h4.2 j x v hx hv)⟩
 |mark d =>
  obtain⟨h1,h2,h3⟩:=h;have:=hb d (by simp[bo.cm]);exact⟨this.1,h2,this.2.trans h3⟩
 |row r=>exact mn.gen h (hb _ (by simp[bo.cm])).1 (hb _ (by simp[bo.cm])).2 fw
 |iter i=>exact mo.gen h (hb i.bm (by simp[bo.cm])).1 (hb i.r (by simp[bo.cm])).1 (hb i.bm (by simp[bo.cm])).2 (hb i.r (by simp[bo.cm])).2 fw
theorem gH.step{G:List (Nat × DV)}{lim:Nat}{c c':Cx}{rows:List bo}(h:gH lim c rows)(ho:aM G c)(st:Step c c'):gH lim c' rows :=
 ⟨fun r hr=>(h.each r hr).gen (fun b hb=>by
  have h1:=(h.each r hr).aE b hb
  exact⟨by rw[st.aE];exact h1,st.keep b (ho.bS _ h1) (fun i n hi=>ho.sep i _ n hi h1)⟩) (fun _ _=>st.vd) (fun _ _=>st.vr),h.nodup⟩
def bo.flat:bo->Prop
 | .loop _=>False
 |_=>True
structure cT(lim:Nat)(c:Cx)(rows loops:List bo):Prop where
 all:gH lim c (rows++loops)
 flat:∀ g∈rows,g.flat
theorem cT.nil{lim:Nat}{c:Cx}:cT lim c [] []:=⟨.nil,fun g h=>by simp at h⟩
theorem cT.step{G:List (Nat × DV)}{lim:Nat}{c c':Cx}{rows loops:List bo}(h:cT lim c rows loops)(ho:aM G c)(st:Step c c'):cT lim c' rows loops:=⟨h.all.step ho st,h.flat⟩
structure FX where
 f0:FuncId
 cA:Option Nat
 aN:List Nat
 cls:List ca
 loops:List bo
 inl:List FuncId
structure cF where
 n:Nat
 Q:AV->List af->Prop
 rows:List bo
 fx:FX
@[irreducible] def AW (E : Env) (f0 : FuncId) (cur : ca) (cls : List ca) (h : List af) (R : cF) : Prop :=
 ∀ (c0 c:Cx) (t:Array Value) (ts:List (Array Value)),c0.heap.length=R.n->cur.ok->c.heap=h->aM E.G c->dc c0 c->cT c0.w.heap.size c R.rows R.fx.loops->VS c cur.iP t->CR c cls ts->∀ cs,∃ (c':Cx) (fr:Frame) (r:AV) (v:Value),
  R.Q r c'.heap/\VR c' r v/\aM E.G c'/\dc c0 c'/\Steps E.P (lone (cur.bK t) (eV cls ts++cs) c.w) (lone fr cs c'.w)/\fr.fn=f0/\fr.leaving E.P c'.w (.returned v)
def ED(E:Env)(cur:ca)(cls:List ca)(h:List af)(cur':ca)(cls':List ca)(h':List af):Prop :=
 ∀ (c:Cx) (t:Array Value) (ts:List (Array Value)),cur.ok->c.heap=h->aM E.G c->VS c cur.iP t->CR c cls ts->∃ (c':Cx) (t':Array Value) (eD:List (Array Value)),
  cur'.ok/\c'.heap=h'/\aM E.G c'/\VS c' cur'.iP t'/\CR c' cls' eD/\Step c c'/\∀ cs,Steps E.P (lone (cur.bK t) (eV cls ts++cs) c.w) (lone (cur'.bK t') (eV cls' eD++cs) c'.w)
theorem AW.kU{E:Env}{f0:FuncId}{cur cur':ca}{cls cls':List ca}{h h':List af}{R:cF}(hl:ED E cur cls h cur' cls' h')(H:AW E f0 cur' cls' h' R):AW E f0 cur cls h R:=by
 unfold AW at H ⊢;intro c0 c t ts h0 h1 h2 h3 hr br h4 h5 cs;obtain⟨c',t',eD,k1,k2,k3,k4,k5,k6,k7⟩:=hl c t ts h1 h2 h3 h4 h5;obtain⟨c2,fr,r,v,e1,e2,e3,e4,e5,e6⟩:=H c0 c' t' eD h0 k1 k2 k3 (hr.step k6) (br.step h3 k6) k4 k5 cs;exact⟨c2,fr,r,v,e1,e2,e3,e4,(k7 cs).trans e5,e6⟩
section
variable {E:Env} {f0:FuncId} {aj:iZ} {k:List aT} {s:List AV} {cls:List ca} {h:List af} {R:cF}
theorem ED.todo{td EE:List aT}(aP:(∀ i∈td,i.ok)->∀ i∈EE,i.ok)(hs:∀ (a:Act) (cs:List Frame) (w:World),step E.P (lone ((bf aj).atR a (td.map aT.bK)) cs w)=.next (lone ((bf aj).atR a (EE.map aT.bK)) cs w)) :
  ED E ⟨aj,td,s⟩ cls h ⟨aj,EE,s⟩ cls h:=fun c t ts h1 h2 h3 h4 h5 =>
 ⟨c,t,ts,aP h1,h2,h3,h4,h5,Step.refl c h3.bS,fun _ => .one (hs _ _ _)⟩
theorem ek{i:aT}(h:∀ j∈i::k,j.ok):∀ j∈k,j.ok:=fun j hj=>h j (aeR _ hj)
theorem wP{c:Code}:(aT.code c).ok:=trivial
theorem Rh{n:Nat}:(aT.inBlock n).ok:=trivial
theorem JA{c:Code}:(aT.inLoop c).ok:=trivial
theorem gP{i:aT}(h:i.ok)(hk:∀ j∈k,j.ok):∀ j∈i::k,j.ok:=fun j hj=>by
 rcases afu.1 hj with rfl|hj
 ·exact h
 ·exact hk j hj
theorem AW.skip(H:AW E f0 ⟨aj,k,s⟩ cls h R):AW E f0 ⟨aj,.code .skip::k,s⟩ cls h R := .kU (.todo ek fun _ _ _=>stepR_skip) H
theorem AW.inBlock{id:Nat}(H:AW E f0 ⟨aj,k,s⟩ cls h R):AW E f0 ⟨aj,.inBlock id::k,s⟩ cls h R := .kU (.todo ek fun _ _ _=>stepR_inBlock) H
theorem AW.seq{a b:Code}(H:AW E f0 ⟨aj,.code a :: .code b::k,s⟩ cls h R):AW E f0 ⟨aj,.code (.seq a b)::k,s⟩ cls h R := .kU (.todo (fun h=>gP wP (gP wP (ek h))) fun _ _ _=>stepR_seq) H
theorem AW.block{id:Nat}{b:Code}(H:AW E f0 ⟨aj,.code b :: .inBlock id::k,s⟩ cls h R):AW E f0 ⟨aj,.code (.block id b)::k,s⟩ cls h R := .kU (.todo (fun h=>gP wP (gP Rh (ek h))) fun _ _ _=>stepR_block) H
theorem AW.loop{b:Code}(H:AW E f0 ⟨aj,.code b :: .inLoop b::k,s⟩ cls h R):AW E f0 ⟨aj,.code (.loop b)::k,s⟩ cls h R := .kU (.todo (fun h=>gP wP (gP JA (ek h))) fun _ _ _=>stepR_loop) H
theorem AW.inLoop{b:Code}(H:AW E f0 ⟨aj,.code b :: .inLoop b::k,s⟩ cls h R):AW E f0 ⟨aj,.inLoop b::k,s⟩ cls h R := .kU (.todo (fun h=>gP wP (gP JA (ek h))) fun _ _ _=>stepR_inLoop) H
theorem AW.region{id:Nat}{ops:Array Oper}(H:AW E f0 ⟨aj,.bw ops ops.toList::k,s⟩ cls h R):AW E f0 ⟨aj,.code (.region id ops false)::k,s⟩ cls h R :=
 .kU (.todo (fun h=>gP (i := .bw ops ops.toList) ⟨0,by simp,by simp⟩ (ek h)) fun a cs w=>by
  rw[ad0,ad0];simp only[aT.bK];rw[stepR_region]
  simp) H
theorem AW.Ri{ops:Array Oper}(H:AW E f0 ⟨aj,k,s⟩ cls h R):AW E f0 ⟨aj,.bw ops []::k,s⟩ cls h R :=
 .kU (.todo ek fun a cs w=>by
  rw[ad0];simp only[aT.bK,List.length_nil,afx]
  rw[List.drop_of_length_le (by simp),stepR_region_end]) H
def nd(id:Nat):List aT->Option (List aT)
 | .inBlock i::r=>match adY i id with
  |true=>some r
  |false=>nd id r
 |_::r=>nd id r
 |[]=>none
theorem um{id:Nat}:∀ {l r:List aT},nd id l=some r->exitTo id (l.map aT.bK)=some (r.map aT.bK)
 | .inBlock i::l,r,hl=>by
  simp only[nd]at hl;simp only[ad0,aT.bK,exitTo];split at hl
  ·rename_i q;cases hl;rw[if_pos (by simpa using adX q)]
  ·rename_i q
   rw[if_neg (by intro hh;have : i=id := by simpa using hh
                 rw[this, afy]at q;cases q)]
   exact um hl
 | .code c::l,r,hl=>um (l:=l) hl
 | .inLoop c::l,r,hl=>um (l:=l) hl
 | .pI c::l,r,hl=>um (l:=l) hl
 | .qF::l,r,hl=>um (l:=l) hl
 | .bw ops q::l,r,hl=>um (l:=l) hl
theorem uo{id:Nat}:∀ {l r:List aT},nd id l=some r->(∀ i∈l,i.ok)->∀ i∈r,i.ok
 | .inBlock i::l,r,hl,hk=>by
  simp only[nd]at hl;split at hl
  ·cases hl;exact ek hk
  ·exact uo hl (ek hk)
 | .code c::l,r,hl,hk=>uo (l:=l) hl (ek hk)
 | .inLoop c::l,r,hl,hk=>uo (l:=l) hl (ek hk)
 | .pI c::l,r,hl,hk=>uo (l:=l) hl (ek hk)
 | .qF::l,r,hl,hk=>uo (l:=l) hl (ek hk)
 | .bw ops q::l,r,hl,hk=>uo (l:=l) hl (ek hk)
theorem AW.exit{id:Nat}{r:List aT}(hr:nd id k=some r)(H:AW E f0 ⟨aj,r,s⟩ cls h R):AW E f0 ⟨aj,.code (.exit id)::k,s⟩ cls h R :=
 .kU (.todo (fun h=>uo hr (ek h)) fun _ _ _=>stepR_exit (um hr)) H
theorem AW.cond{x:Operand}{a b:Code}{t:Bool}(hx:bh E.G s x (.d (.bool t)))(H:AW E f0 ⟨aj,.code (if t then a else b)::k,s⟩ cls h R):AW E f0 ⟨aj,.code (.cond x a b)::k,s⟩ cls h R :=
 .kU (cur':=⟨aj,.code (if t then a else b)::k,s⟩) (cls':=cls) (h':=h) (fun c t' ts h1 h2 h3 h4 h5=>⟨c,t',ts,gP wP (ek h1),h2,h3,h4,h5,Step.refl c h3.bS,fun _ => .one (stepR_cond (uf (hx c ⟨t',marks aj.aN⟩ h3 h4)))⟩) H
theorem nf{ops:Array Oper}{o:Oper}{l:List Oper}(hk:(aT.bw ops (o::l)).ok):∃ i,ops[i]?=some o/\(aT.bw ops (o::l)).bK=.inRegion ops (i::(aeU ops.size).drop (ops.size-l.length))/\(aT.bw ops l).ok:=by
 obtain⟨n,h1,h2⟩:=hk;have h3:(ops.toList.drop n).length=l.length+1:=by rw[<- h2];rfl
 have h4:ops.size-n=l.length+1:=by simpa using h3
 have hn:n<ops.size:=by omega
 refine⟨n,?_,?_,n+1,by omega,?_⟩
 ·have:=congrArg (·[0]?) h2;simp at this
  simpa using this.symm
 ·simp only[aT.bK,List.length_cons]
  congr 1
  rw[show ops.size-(l.length+1)=n by omega,show ops.size-l.length=n+1 by omega];rw[List.drop_eq_getElem_cons (by simpa using hn)];simp
 ·have:=congrArg List.tail h2
  simpa using this
theorem sB{P:Program}{o:Oper}{ρ : Operand->Value}{ro:Option Nat}{w w':World}{n:Next}(h:(execOp ρ o).run P w=.ok n w')(hn:∀ d,n ≠ .defer d):(o.semAt ro ρ).run P w=.ok n w':=by
 rw[Oper.semAt_eq]
 ·exact h
 ·intro c hc;simp only[execOp,hc,adT]at h;cases hr:(resolve ρ c o.type).run P w with
  |ok d w1 =>
   rw[hr]at h;simp only[adU,adS]at h;cases h;exact hn d rfl
  |halt a b=>rw[hr]at h;cases h
theorem wQ{P:Program}{b:Frame}{a:Act}{k:List Item}{cs:List Frame}{w w':World}{ops:Array Oper}{i:Nat}{rest:List Nat}{o:Oper}{v:Value}(ho:ops[i]?=some o)(hw:Region.wanted o (yielded ops a.tmps)=true)(hd:Em P o a w v w') :
  step P (lone (b.atR a (.inRegion ops (i::rest)::k)) cs w)=.next (lone (b.atR (a.put o.dst v) (.inRegion ops rest::k)) cs w'):=by
 have hg:=stepGR_op (P:=P) (b:=b) (k:=k) (cs:=cs) (w:=w) (rest:=rest) ho hw;have gI:∀ v,(b.atR a (.inRegion ops (i::rest)::k)).finish v=b.atR (a.put o.dst v) (.inRegion ops rest::k):=by
  intro v;rw[Frame.finish_atR,ho];rfl
 rcases hd with hr|⟨hr,rfl⟩
 ·exact step_lone_go (by rw[hg,<- gI];simp[stepG.apply,sB hr])
 ·exact step_lone_go (by rw[hg,<- gI];simp[stepG.apply,sB hr])
def b8(s:List AV)(d:Option Nat)(v:AV):List AV:=match d with
 |some d=>s.set d v
 |none=>s
theorem dX{α:Sort _}(s:List AV)(d:Option Nat)(v:AV)(k:List AV->α):cg s d v k=k (b8 s d v):=by
 cases d with
 |none=>rfl
 |some d=>simp only[cg,gF,b8]
theorem VS.b8{c:Cx}{a:Act}(hs:VS c s a.tmps)(d:Option Nat){x:AV}{v:Value}(hv:VR c x v):VS c (b8 s d x) (a.put d v).tmps:=by
 cases d with
 |none=>exact hs
 |some d=>exact hs.put d hv
theorem put_defers(a:Act)(d:Option Nat)(v:Value):(a.put d v)=⟨(a.put d v).tmps,a.defers⟩:=by cases d<;>rfl
def ig(ops:Array Oper)(o:Oper)(s:List AV)(b:Bool):Prop:=∀ (c:Cx) (t:Array Value),VS c s t->Region.wanted o (yielded ops t)=b
theorem gb{ops:Array Oper}{o:Oper}(h:o.guard=none):ig ops o s true:=fun _ _ _=>by simp[Region.wanted,h]
theorem wR{ops:Array Oper}{o oj:Oper}{j d:Nat}{g b:Bool}(h:o.guard=some (j,g))(hj:ops.toList[j]?=some oj)(hd:oj.dst=some d)(hs:s[d]?=some (.d (.bool b))):ig ops o s (b==g):=fun c t hv=>by
 have ik:d<t.size:=by
  rw[<- hv.1];rcases adV d s.length with h|h
  ·exact h
  ·rw[adW h]at hs;cases hs
 have ht:t[d]?=some (.bool b):=by
  rw[aev ik,uf (hv.2 d _ _ hs (aev ik))]
 have eU:ops[j]?=some oj:=by simpa using hj
 simp only[Region.wanted,h,yielded,eU,hd,ae0,ht];cases b<;>cases g<;>rfl
theorem JB{ops:Array Oper}{o oj:Oper}{j d:Nat}{g:Bool}(h:o.guard=some (j,g))(hj:ops.toList[j]?=some oj)(hd:oj.dst=some d)(hs:s[d]?=some (.d .undef)):ig ops o s false:=fun c t hv=>by
 have ik:d<t.size:=by
  rw[<- hv.1];rcases adV d s.length with h|h
  ·exact h
  ·rw[adW h]at hs;cases hs
 have ht:t[d]?=some Go.undef:=by
  have:=hv.2 d _ _ hs (aev ik);rw[aev ik];generalize t[d]=u at this;cases this with
  |d _ _ hx=>cases hx;rfl
 have eU:ops[j]?=some oj:=by simpa using hj
 simp only[Region.wanted,h,yielded,eU,hd,ae0,ht];rfl
theorem AW.op{ops:Array Oper}{o:Oper}{l:List Oper}{v:AV}{h':List af}(hw:ig ops o s true)(ho:bz E o.op s h v h')(H:AW E f0 ⟨aj,.bw ops l::k,b8 s o.dst v⟩ cls h' R):AW E f0 ⟨aj,.bw ops (o::l)::k,s⟩ cls h R :=
 .kU (fun c t ts h1 h2 h3 h4 h5=>by
  obtain⟨i,hi,hc,aP⟩:=nf (h1 _ (aeQ ..));obtain⟨c',u,k1,k2,k3,k4,k5⟩:=ho o c ⟨t,marks aj.aN⟩ rfl h2 h3 h4;refine⟨c',((⟨t,marks aj.aN⟩:Act).put o.dst u).tmps,ts,gP aP (ek h1),k2,k3,VS.b8 (a:=⟨t,marks aj.aN⟩) (k5.vs h4) o.dst k4,k5.cr h5,k5,fun cs => .one ?_⟩;simp only[ca.bK,ad0,hc];rw[wQ hi (hw c t h4) k1,put_defers]
  rfl) H
theorem AW.JC{ops:Array Oper}{o:Oper}{l:List Oper}(hw:ig ops o s false)(H:AW E f0 ⟨aj,.bw ops l::k,b8 s o.dst (.d .undef)⟩ cls h R):AW E f0 ⟨aj,.bw ops (o::l)::k,s⟩ cls h R :=
 .kU (fun c t ts h1 h2 h3 h4 h5=>by
  obtain⟨i,hi,hc,aP⟩:=nf (h1 _ (aeQ ..));refine⟨c,((⟨t,marks aj.aN⟩:Act).put o.dst Go.undef).tmps,ts,gP aP (ek h1),h2,h3,VS.b8 (a:=⟨t,marks aj.aN⟩) h4 o.dst (.d _ _ .undef),h5,Step.refl c h3.bS,fun cs => .one ?_⟩;simp only[ca.bK,ad0,hc];rw[stepR_op_skip (by simp[hi];exact hw c t h4)];simp only[hi,ae0];rw[put_defers]
  rfl) H
end
end Go.aA
end
section
namespace Go.aA
open Go Go.RowKit
def jE(bad:Nat->Prop)(w:World)(l:List DV)(vs:List Value):Prop:=l.length=vs.length/\∀ (j:Nat) (x:DV) (v:Value),l[j]?=some x->vs[j]?=some v->VD bad w x v
def uq(G:List (Nat × DV))(aE:Nat->Prop)(w:World):Prop:=∀ g e,(g,e)∈G->VR ⟨fun _=>none,[],aE,w⟩ (.bQ e 0) (.pointer (some ⟨g,0,none⟩))
def lH (P : Program) (f : FuncId) : Prop := ∃ fn, P.funcs[f]? = some fn /\ fn.body.isNone = false /\ (fn.name == "runtime.NumGoroutine") = false
@[irreducible] def ar (E : Env) (f : FuncId) (args : List DV) (R : DV -> Prop) : Prop :=
 lH E.P f/\∀ (aE:Nat->Prop) (w:World) (vs:List Value),(∀ b,aE b->b<w.heap.size)->uq E.G aE w->jE aE w args vs ->
  Calls E.P f vs.toArray w fun e w'=>∃ v r,e=.returned v/\R r/\VD aE w' r v/\Proofs.YtfmdaiojokniiaaGreatDoor.Ext w w'
theorem wS{aE:Nat->Prop}{w:World}{h:List af}{b:Nat}:(⟨fun _=>none,h,aE,w⟩:Cx).bad b↔aE b :=
 ⟨fun hb=>hb.elim id (fun⟨_,_,h⟩=>(by cases h)),.inl⟩
theorem wT{aE:Nat->Prop}{w:World}{h:List af}{x:DV}{v:Value}(hv:VD aE w x v):VD (⟨fun _=>none,h,aE,w⟩:Cx).bad w x v :=
 hv.mono fun _ _ hn=>⟨fun hb=>hn (wS.1 hb),rfl⟩
theorem ar.mono{E:Env}{f:FuncId}{args:List DV}{R R':DV->Prop}(H:ar E f args R)(hr:∀ r,R r->R' r):ar E f args R':=by
 unfold ar at H ⊢;exact⟨H.1,fun aE w vs h1 h2 h3=>(H.2 aE w vs h1 h2 h3).mono fun e w' ⟨v,r,k1,k2,k3,k4⟩=>⟨v,r,k1,hr r k2,k3,k4⟩⟩
def og(args:List AV)(n:Nat):List AV:=args++ad6 (n-args.length) (.d .undef)
theorem EF{c:Cx}{args:List AV}{vs:List Value}(n:Nat)(hv:VL c args vs):VS c (og args n) (vs.toArray++afz (n-vs.toArray.size) undef):=by
 have hl:=hv.1;refine⟨by simp[og,hl],fun i x v hx hu=>?_⟩;simp only[og]at hx;rcases adV i args.length with hi|hi
 ·rw[ael hi]at hx;rw[Array.getElem?_append_left (by simp;omega)]at hu;exact hv.2 i x v hx (by simpa using hu)
 ·rw[ae9 hi,aeC]at hx;rw[Array.getElem?_append_right (by simp;omega)]at hu;split at hx
  ·cases hx;simp[Array.getElem?_replicate]at hu;obtain⟨-,rfl⟩:=hu;exact .d _ _ .undef
  ·cases hx
section
variable {E:Env} {f0:FuncId} {aj:iZ} {k:List aT} {s:List AV} {cls:List ca} {h:List af} {R:cF}
theorem Rel.ext{c0 c:Cx}(h:Rel c0 c)(hn:∀ i,c0.own i=none):Proofs.YtfmdaiojokniiaaGreatDoor.Ext c0.w c.w:=⟨h.os,h.tape,h.output,h.size,fun b hb=>h.keep b hb (fun i n hi=>by rw[hn i]at hi;cases hi)⟩
@[irreducible] def aw (E : Env) (f : FuncId) (h : List af) (args : List AV) (Q : AV -> List af -> Prop) : Prop :=
 lH E.P f/\wO h/\∀ (c:Cx) (vs:List Value),c.heap=h->aM E.G c->VL c args vs ->
  Calls E.P f vs.toArray c.w fun e w'=>∃ (c':Cx) (r:AV) (v:Value),e=.returned v/\c'.w=w'/\Q r c'.heap/\VR c' r v/\aM E.G c'/\Rel c c'
theorem aw.mono{E:Env}{f:FuncId}{h:List af}{args:List AV}{Q Q':AV->List af->Prop}(H:aw E f h args Q)(hq:∀ r h,Q r h->Q' r h):aw E f h args Q':=by
 unfold aw at H ⊢;exact⟨H.1,H.2.1,fun c vs h1 h2 h3=>(H.2.2 c vs h1 h2 h3).mono fun e w' ⟨c',r,v,k1,k2,k3,k4⟩=>⟨c',r,v,k1,k2,hq _ _ k3,k4⟩⟩
theorem aw.JD {f : FuncId} {fn : Func} {body : Code} {args : List AV} {Q : AV -> List af -> Prop} (hf : E.P.funcs[f]? = some fn) (hb : fn.body = some body) (hn : (fn.name == "runtime.NumGoroutine") = false) (mq : wO h)
  (H:AW E f ⟨⟨f,none,[]⟩,[.code body],og args fn.ntmps⟩ [] h ⟨h.length,Q,[],⟨f,none,[],[],[],[]⟩⟩):aw E f h args Q:=by
 unfold AW at H;unfold aw;refine⟨⟨fn,hf,by rw[hb];rfl,hn⟩,mq,fun c vs h1 h2 h3=>?_⟩;intro cs;obtain⟨c',fr,r,v,e1,e2,e3,e4,e5,e6,e7⟩:=H c c _ [] (by rw[h1]) (fun i hi=>by simp at hi;subst hi;trivial) h1 h2 ((Rel.refl c (by rw[h1];exact mq)).x h2.bS h2.bB) .nil (EF fn.ntmps h3) trivial cs;refine⟨.returned v,c'.w,fr,⟨c'.sy c.aE,r,v,rfl,rfl,e1,EB e4.aE e2,e3.sy e4.aE,e4.clean⟩,?_,e6,e7⟩;have Rj:Frame.enter E.P f vs.toArray .normal=(⟨⟨f,none,[]⟩,[.code body],og args fn.ntmps⟩:ca).bK (vs.toArray++afz (fn.ntmps-vs.toArray.size) undef):=by
  simp[Frame.enter,ca.bK,Frame.atR,hf,hb,bf,aT.bK,marks]
 show Steps E.P _ _;rw[Rj];exact e5
theorem yO{P:Program}{o:Oper}{a:Act}{w:World}{fx:Operand}{args:Array Operand}{ts:Array TypeId}{f:FuncId}{v1 v2:Array Value}(h1:o.op=.call { callee := .value fx,args:=args,argTypes:=ts })(hf:a.eval fx=.func (.func f) v1 v2)(hb:lH P f) :
  (execOp a.eval o).run P w=.ok (.enter f (v1++args.map a.eval++v2)) w:=by
 obtain⟨fn,g1,g2,g3⟩:=hb;simp only[execOp,h1,resolve,hf,Deferred.ofValue,invoke,callFunc,adT,adS,adU,program,Sem.run,g1,g3,g2,aet,if_false]
theorem EG{P:Program}{b:Frame}{a:Act}{k:List Item}{cs:List Frame}{w:World}{ops:Array Oper}{i:Nat}{rest:List Nat}{o:Oper}{f:FuncId}{args:Array Value}(ho:ops[i]?=some o)(hw:Region.wanted o (yielded ops a.tmps)=true)
  (hr:(execOp a.eval o).run P w=.ok (.enter f args) w) :
  step P (lone (b.atR a (.inRegion ops (i::rest)::k)) cs w)=.next (lone (Frame.enter P f args .normal) (b.atR a (.inRegion ops (i::rest)::k)::cs) w):=by
 have hg:=stepGR_op (P:=P) (b:=b) (k:=k) (cs:=cs) (w:=w) (rest:=rest) ho hw;have ur:=sB (ro:=b.roundOf) hr (by simp);exact step_lone_go (by rw[hg];simp[stepG.apply,ur,Frame.atR])
theorem mr{c:Cx}{f:Fn}{a1 a2:List AV}{v:Value}(hv:VR c (.fn f a1 a2) v):∃ v1 v2:List Value,v=.func f v1.toArray v2.toArray/\VL c a1 v1/\VL c a2 v2:=by
 cases hv with
 |fn _ _ _ v1 v2 h1 h2 h3 h4=>exact⟨v1.toList,v2.toList,by simp,⟨by simpa using h1,fun j x v hx hu=>h3 j x v hx (by simpa using hu)⟩,⟨by simpa using h2,fun j x v hx hu=>h4 j x v hx (by simpa using hu)⟩⟩
theorem VL.append{c:Cx}{a1 a2:List AV}{v1 v2:List Value}(h1:VL c a1 v1)(h2:VL c a2 v2):VL c (a1++a2) (v1++v2):=by
 refine⟨by simp[h1.1,h2.1],fun j x v hx hv=>?_⟩;rcases adV j a1.length with hj|hj
 ·rw[ael hj]at hx;rw[ael (by rw[<- h1.1];exact hj)]at hv;exact h1.2 j x v hx hv
 ·rw[ae9 hj]at hx;rw[ae9 (by rw[<- h1.1];exact hj),<- h1.1]at hv;exact h2.2 _ x v hx hv
theorem AW.call{ops:Array Oper}{o:Oper}{l:List Oper}{fx:Operand}{args:Array Operand}{ts:Array TypeId}{f:FuncId}{a1 a2 av:List AV}{ds:List DV}{R1:DV->Prop}(hw:ig ops o s true)(ho:o.op=.call { callee := .value fx,args:=args,argTypes:=ts })
  (hf:bh E.G s fx (.fn (.func f) a1 a2)) (ha:jC E.G s args.toList av) (hd:a1++av++a2=ds.map .d) (hc:ar E f ds R1)
  (H:∀ r,R1 r->AW E f0 ⟨aj,.bw ops l::k,b8 s o.dst (.d r)⟩ cls h R):AW E f0 ⟨aj,.bw ops (o::l)::k,s⟩ cls h R:=by
 unfold AW at H ⊢;unfold ar at hc;intro c0 c t ts h0 h1 h2 h3 hr br h4 h5 cs;obtain⟨i,hi,eo,aP⟩:=nf (h1 _ (aeQ ..));obtain⟨v1,v2,e1,e2,e3⟩:=mr (hf c ⟨t,marks aj.aN⟩ h3 h4);have e4:=ha c ⟨t,marks aj.aN⟩ h3 h4;have e5:=(e2.append e4).append e3;rw[hd]at e5;have yP:∀ b,c.bad b->b<c.w.heap.size:=fun b hb=>hb.elim (h3.bS b) fun⟨j,n,hj⟩=>(h3.bB j b n hj).1;have EH:uq E.G c.bad c.w:=fun g e hg=>by
  have hp:∀ p,VR c (.bQ e 0) p->VR ⟨fun _=>none,[],c.bad,c.w⟩ (.bQ e 0) p:=fun p hp=>by
   cases hp with
   |bQ _ _ blk o' fv k1 k2 k3 k4=>exact .bQ _ _ blk o' fv (fun hb=>k1 (wS.1 hb)) k2 k3 (fun j x hx=>wT (k4 j x hx))
  exact hp _ (h3.fS g e hg)
 obtain⟨e,w',fr,⟨v,r,rfl,hR,hv,hx⟩,EI,EJ,EK⟩:=hc.2 c.bad c.w _ yP EH ⟨by simpa using e5.1,e5.pF⟩ ((bf aj).atR ⟨t,marks aj.aN⟩ (.inRegion ops (i::(aeU ops.size).drop (ops.size-l.length))::k.map aT.bK)::(eV cls ts++cs));obtain⟨k1,k2⟩:=h3.grow hx;have ke:VS (c.eB w') (b8 s o.dst (.d r)) ((⟨t,marks aj.aN⟩:Act).put o.dst v).tmps:=VS.b8 (a:=⟨t,marks aj.aN⟩) (k2.vs h4) o.dst (.d _ _ hv);obtain⟨c2,uu,r2,u2,q1,q2,q3,uv,q4,q5,q6⟩:=H r hR c0 (c.eB w') _ ts h0 (gP aP (ek h1)) h2 k1 (hr.step k2) (br.step h3 k2) ke (k2.cr h5) cs;refine⟨c2,uu,r2,u2,q1,q2,q3,uv,?_,q5,q6⟩;have cK:=yO (P:=E.P) (w:=c.w) (a:=⟨t,marks aj.aN⟩) ho e1 hc.1;have kf:(v1.toArray++args.map (⟨t,marks aj.aN⟩:Act).eval++v2.toArray)=(v1++args.toList.map (⟨t,marks aj.aN⟩:Act).eval++v2).toArray:=by
  apply afp;simp
 rw[kf]at cK;have s1:=EG (P:=E.P) (b:=bf aj) (k:=k.map aT.bK) (cs:=eV cls ts++cs) (rest:=(aeU ops.size).drop (ops.size-l.length)) hi (hw c t h4) cK;have s2:=step_leave_returned (c:=(bf aj).atR ⟨t,marks aj.aN⟩ (.inRegion ops (i::(aeU ops.size).drop (ops.size-l.length))::k.map aT.bK)) (cs:=eV cls ts++cs) EK;rw[Frame.finish_atR,hi]at s2;have EL:(⟨aj,.bw ops (o::l)::k,s⟩:ca).bK t=(bf aj).atR ⟨t,marks aj.aN⟩ (.inRegion ops (i::(aeU ops.size).drop (ops.size-l.length))::k.map aT.bK):=by
  simp only[ca.bK,ad0,eo]
 rw[EL];refine .head s1 (Steps.trans EI (.head s2 ?_));have aG:(bf aj).atR ((⟨t,marks aj.aN⟩:Act).put ((some o).bind (·.dst)) v) (.inRegion ops ((aeU ops.size).drop (ops.size-l.length))::k.map aT.bK)=(⟨aj,.bw ops l::k,b8 s o.dst (.d r)⟩:ca).bK ((⟨t,marks aj.aN⟩:Act).put o.dst v).tmps:=by
  simp only[ca.bK,ad0,aT.bK,ae0];rw[put_defers]
 rw[aG];exact q4
end
end Go.aA
end
section
namespace Go.aA
open Go Go.RowKit
section
variable {E:Env} {f0 aj:FuncId} {k:List aT} {s:List AV} {cls:List ca} {h:List af} {R:cF}
def wU(G:List (Nat × DV))(h:List af)(x:AV)(r:DV):Prop:=∀ (c:Cx) (v:Value),aM G c->c.heap=h->VR c x v->VD c.aE c.w r v
theorem JE{c:Cx}{x:DV}{v:Value}(hv:VD c.bad c.w x v):VD c.aE c.w x v:=hv.mono fun _ _ hn=>⟨fun hb=>hn (.inl hb),rfl⟩
theorem Rk{G:List (Nat × DV)}(x:DV):wU G h (.d x) x:=fun c v _ _ hv=>by cases hv with|d _ _ hv=>exact JE hv
theorem Rl{G:List (Nat × DV)}{b g:Nat}{ts:Nat × Nat}{l:List DV}(hb:h[b]?=some (.arr g ts l)):wU G h (.own b g) (.sl l):=fun c v ho hh hv=>by
 subst hh;obtain⟨q0,q1,q2⟩:=ho.box b _ hb;cases hv with
 |own _ _ _ l' blk cap k1 k2 =>
  rw[hb]at k1;cases k1;rcases q2 with⟨q2,-⟩|⟨iX,gZ,vs,q2,q3,q4,q5,q6,q7⟩
  ·rw[k2]at q2;cases q2
  ·rw[k2]at q2;cases q2;have br:=mf q3;refine .sl l blk 0 cap ts.2 (fun i j=>vs.toList.getD (i*ts.2+j) undef) (fun _=>ho.sep b blk cap k2) q0 q5 q1 (fun i j e x he hx=>?_) (fun i j e x he hx=>?_) (fun i j e x he hx=>?_)
   ·obtain⟨v,g1,-,g2⟩:=q7 i j e x he hx;rw[br (i*ts.2+j) v (by simpa using g1)];simp[aem,g1]
   ·obtain⟨v,g1,-,g2⟩:=q7 i j e x he hx;simp only[aem,aeh,g1,aeB];exact JE g2
   ·obtain⟨v,g1,g2,-⟩:=q7 i j e x he hx;simp only[aem,aeh,g1,aeB];exact g2
 |iH _ _ _ k1 k2=>rw[hb]at k1;cases k1;exact .slnil
 |kQ _ _ g' _ _ _ k1 k2 _=>rw[hb]at k1;cases k1;omega
 |jY _ _ _ k1 _=>rw[hb]at k1;cases k1
 |mZ _ _ _ _ _ _ k1 _ _=>rw[hb]at k1;cases k1
def BD{α:Sort _}(h:List af)(x:AV)(stop:α)(k:DV->α):α :=
 match x with
 | .d x=>k x
 | .own b g=>aZ h b stop fun
  | .arr g' _ l=>match adY g g' with
   |true=>k (.sl l)
   |false=>stop
  |_=>stop
 |_=>stop
theorem JF{G:List (Nat × DV)}{x:AV}{stop:Prop}{k:DV->Prop}(H:BD h x stop k):stop\/∃ r,wU G h x r/\k r:=by
 unfold BD at H;split at H
 ·exact .inr ⟨_,Rk _,H⟩
 ·rcases bp H with h|⟨bx,hb,H⟩
  ·exact .inl h
  split at H
  ·split at H
   ·rename_i q;have:=adX q;subst this;exact .inr ⟨_,Rl hb,H⟩
   ·exact .inl H
  ·exact .inl H
 ·exact .inl H
def yQ{α:Sort _}(d:AV->α->(DV->α)->α):List AV->(stop:α)->(List DV->α)->α
 |[],_,k=>k []
 |x::l,stop,k=>d x stop fun r=>yQ d l stop fun l'=>k (r::l')
def Rm(G:List (Nat × DV))(h:List af)(l:List AV)(r:List DV):Prop:=∀ (c:Cx) (vs:List Value),aM G c->c.heap=h->VL c l vs->jE c.aE c.w r vs
theorem EM{G:List (Nat × DV)}{d:AV->Prop->(DV->Prop)->Prop}(hd:∀ {x:AV} {stop:Prop} {k:DV->Prop},d x stop k->stop\/∃ r,wU G h x r/\k r){stop:Prop}:∀ {l:List AV} {k:List DV->Prop},yQ d l stop k->stop\/∃ r,Rm G h l r/\k r
 |[],k,H => .inr ⟨[],fun c vs _ _ hv=>⟨by simpa using hv.1,fun j x v hx=>by simp at hx⟩,H⟩
 |x::l,k,H=>by
  simp only[yQ]at H;rcases hd H with h|⟨r,hr,H⟩
  ·exact .inl h
  rcases EM hd H with h|⟨rs,yR,H⟩
  ·exact .inl h
  refine .inr ⟨r::rs,fun c vs h1 h2 hv=>?_,H⟩;cases vs with
  |nil=>have:=hv.1;simp at this
  |cons v vs =>
   obtain⟨g1,g2⟩:=hv.head;have g3:=yR c vs h1 h2 g2;refine⟨by simp[g3.1],fun j y u hy hu=>?_⟩;cases j with
   |zero=>simp at hy hu;subst hy;subst hu;exact hr c v h1 h2 g1
   |succ j=>exact g3.2 j y u (by simpa using hy) (by simpa using hu)
def BE{α:Sort _}(h:List af)(x:AV)(stop:α)(k:DV->α):α :=
 match x with
 | .agg l=>yQ (BD h) l stop fun r=>k (.agg r)
 |x=>BD h x stop k
theorem JG{G:List (Nat × DV)}{x:AV}{stop:Prop}{k:DV->Prop}(H:BE h x stop k):stop\/∃ r,wU G h x r/\k r:=by
 unfold BE at H;split at H
 ·rcases EM (G:=G) (h:=h) JF H with h|⟨r,hr,H⟩
  ·exact .inl h
  refine .inr ⟨_,fun c v h1 h2 hv=>?_,H⟩;obtain⟨vs,rfl,iL⟩:=pG hv;have:=hr c vs h1 h2 iL;exact .agg _ _ (by simpa using this.1) fun j x v hx hu=>this.2 j x v hx (by simpa using hu)
 ·exact JF H
def wV{α:Sort _}(T:List bu)(s:List AV)(h:List af):List ResultVar->(stop:α)->(List AV->α)->α
 |[],_,k=>k []
 | .tmp t::l,stop,k=>aZ s t stop fun v=>wV T s h l stop fun l'=>k (v::l')
 | .cell a t::l,stop,k=>aZ T t stop fun i=>aZ s a stop fun
  | .ptr b off=>aZ h b stop fun
   | .cells c=>lE i c off stop fun v=>wV T s h l stop fun l'=>k (v::l')
   |_=>stop
  |_=>stop
def uw(t:Array Value):ResultVar->Sem Value
 | .tmp t'=>pure (t.getD t' undef)
 | .cell a t'=>do loadVar t' (<- asAddr (t.getD a undef))
theorem BF(hE:E.OK){stop:Prop}:∀ {l:List ResultVar} {k:List AV->Prop},wV E.T s h l stop k->stop\/∃ r,k r/\∀ (c:Cx) (t:Array Value),c.heap=h->aM E.G c->VS c s t->∃ vs:List Value,VL c r vs/\(l.mapM (uw t)).run E.P c.w=.ok vs c.w
 |[],k,H => .inr ⟨[],H,fun c t _ _ hs=>⟨[],.nil,by simp⟩⟩
 | .tmp n::l,k,H=>by
  simp only[wV]at H;rcases bp H with h|⟨x,hx,H⟩
  ·exact .inl h
  rcases BF hE H with h|⟨r,hk,hr⟩
  ·exact .inl h
  refine .inr ⟨x::r,hk,fun c t hc ho hs=>?_⟩;obtain⟨vs,h1,h2⟩:=hr c t hc ho hs;have hl:n<t.size:=by
   rw[<- hs.1];rcases adV n s.length with h|h
   ·exact h
   ·rw[adW h]at hx;cases hx
  refine⟨t[n]::vs,.cons (hs.2 n x _ hx (by simp[hl])) h1,?_⟩;rw[ae6];simp only[uw,adT,adS,adU,h2];simp[hl]
 | .cell a ty::l,k,H=>by
  simp only[wV]at H;rcases bp H with h|⟨i,hi,H⟩
  ·exact .inl h
  rcases bp H with h|⟨x,hx,H⟩
  ·exact .inl h
  split at H
  ·rename_i b off;rcases bp H with h1|⟨bx,hb,H⟩
   ·exact .inl h1
   split at H
   ·rename_i cs;rcases Bv H with h1|⟨v,H,hp⟩
    ·exact .inl h1
    rcases BF hE H with h|⟨r,hk,hr⟩
    ·exact .inl h
    refine .inr ⟨v::r,hk,fun c t hc ho hs=>?_⟩;obtain⟨vs,h1,h2⟩:=hr c t hc ho hs;subst hc;have hl:a<t.size:=by
     rw[<- hs.1];rcases adV a s.length with h|h
     ·exact h
     ·rw[adW h]at hx;cases hx
    obtain⟨blk,cap,us,ty',g1,g2,g3⟩:=ho.cells hb;obtain⟨u,hu,qA⟩:=hp E.P ty c blk 0 us.toList (hE.types ty i hi) g3 (mf g2);have sq:=hs.2 a _ t[a] hx (by simp[hl]);have Rn:t[a]=.pointer (some ⟨blk,0+off,none⟩):=by
     generalize t[a]=p at sq;cases sq with
     |ptr _ _ cs' iX gZ cw cW=>rw[g1]at cW;cases cW;rw[ad5]
     |iI _ _ _ cw _=>rw[hb]at cw;cases cw
    have yS:(loadVar ty ⟨blk,0+off,none⟩).run E.P c.w=.ok u c.w:=hu;refine⟨u::vs,.cons qA h1,?_⟩;rw[ae6];have hg:t.getD a undef=.pointer (some ⟨blk,0+off,none⟩):=by simp[hl,Rn]
    simp only[uw,hg,asAddr,adT,adS,adU,yS,h2]
   ·exact .inl H
  ·exact .inl H
def packed:List Value->Value
 |[v]=>v
 |vs => .tuple vs.toArray
theorem EN{P:Program}{fn:Func}{t:Array Value}{w:World}{vs:List Value}(h:(fn.results.toList.mapM (uw t)).run P w=.ok vs w) :
  (results fn t).run P w=.ok (packed vs) w:=by
 have e1:results fn t=(do let vs <- fn.results.mapM (uw t);pure (if h:vs.size=1 then vs[0]else .tuple vs)):=by
  rfl
 have e2:(fn.results.mapM (uw t):Sem (Array Value))=List.toArray <$> (fn.results.toList.mapM (uw t)):=by
  rw[Array.mapM_eq_mapM_toList]
 simp only[e1,e2,adT,map_eq_pure_bind,h,adU,adS];cases vs with
 |nil=>rfl
 |cons v vs=>cases vs with
  |nil=>rfl
  |cons u vs=>simp[packed]
def oh{α:Sort _}(T:List bu)(s:List AV)(h:List af)(rs:List ResultVar)(stop:α)(k:AV->List af->α):α :=
 wV T s h rs stop fun
  |[x]=>k x h
  |l=>k (.aF l) h
theorem AW.JI(hE:E.OK){td:List aT}(om:∀ (a:Act) (cs:List Frame) (w:World),step E.P (lone ((bf ⟨aj,none,[]⟩).atR a (td.map aT.bK)) cs w)=.next (lone { (bf ⟨aj,none,[]⟩).atR a (td.map aT.bK)with mode := .returning } cs w))
  {fn:Func} (hf:E.P.funcs[aj]?=some fn) (H:oh E.T s h fn.results.toList False R.Q):AW E aj ⟨⟨aj,none,[]⟩,td,s⟩ [] h R:=by
 unfold AW;intro c0 c t ts h0 h1 h2 h3 hr br h4 h5 cs;unfold oh at H;rcases BF hE H with h'|⟨l,H,hl⟩
 ·cases h'
 obtain⟨vs,g1,g2⟩:=hl c t h2 h3 h4;have fin:∀ r v,packed vs=v->R.Q r h->VR c r v->∃ (c':Cx) (fr:Frame) (r:AV) (v:Value),
   R.Q r c'.heap/\VR c' r v/\aM E.G c'/\dc c0 c'/\Steps E.P (lone ((⟨⟨aj,none,[]⟩,td,s⟩:ca).bK t) (eV [] ts++cs) c.w) (lone fr cs c'.w)/\fr.fn=aj/\fr.leaving E.P c'.w (.returned v):=fun r v e1 e2 e3=>by
  refine⟨c,_,r,v,by rw[h2];exact e2,e3,h3,hr,.one (om ⟨t,[]⟩ cs c.w),rfl,rfl,rfl,rfl,fn,hf,?_⟩;rw[<- e1];exact EN g2
 split at H
 ·rename_i x;cases vs with
  |nil=>have:=g1.1;simp at this
  |cons v vs=>cases vs with
   |cons u vs=>have:=g1.1;simp at this
   |nil=>exact fin x v rfl H g1.head.1
 ·rename_i aJ;refine fin (.aF l) (.tuple vs.toArray) ?_ H (.aF _ _ (by simpa using g1.1) fun j x v hx hu=>g1.2 j x v hx (by simpa using hu));cases vs with
  |nil=>rfl
  |cons v vs=>cases vs with
   |nil =>
    have:=g1.1;cases l with
    |nil=>simp at this
    |cons x l=>cases l with
     |nil=>exact absurd rfl (aJ x)
     |cons y l=>simp at this
   |cons u vs=>rfl
def ux(R:DV->Prop)(x:AV)(h:List af):Prop :=
 match x with
 | .aF l=>yQ (BE h) l False fun r=>R (.aF r)
 |x=>BE h x False R
theorem Ro{G:List (Nat × DV)}{R:DV->Prop}{x:AV}(H:ux R x h):∃ r,wU G h x r/\R r:=by
 unfold ux at H;split at H
 ·rcases EM (G:=G) (h:=h) JG H with h'|⟨r,hr,H⟩
  ·cases h'
  refine⟨_,fun c v h1 h2 hv=>?_,H⟩;cases hv with
  |aF _ vs hl bG =>
   have:=hr c vs.toList h1 h2 ⟨by simpa using hl,fun j x v hx hv=>bG j x v hx (by simpa using hv)⟩;exact .aF _ _ (by simpa using this.1) fun j x v hx hu=>this.2 j x v hx (by simpa using hu)
 ·rcases JG (G:=G) H with h'|h'
  ·cases h'
  ·exact h'
theorem ar.Rp{f:FuncId}{args:List DV}{R:DV->Prop}(H:aw E f [] (args.map .d) (ux R)):ar E f args R:=by
 unfold aw at H;unfold ar;refine⟨H.1,fun aE w vs h1 h2 h3=>?_⟩
 let c:Cx:=⟨fun _=>none,[],aE,w⟩
 have hv:VL c (args.map .d) vs := .ug h3.1 fun j x v hx hu=>wT (h3.2 j x v hx hu);have ho:aM E.G c:=⟨h1,fun i b n hi=>(by cases hi),fun i j b n m hi=>(by cases hi),fun i b n hi=>(by cases hi),fun i bx hi=>(by simp[c]at hi),h2⟩;refine(H.2.2 c vs rfl ho hv).mono fun e w' ⟨c',r,v,k1,k2,k3,k4,k5,k6⟩=>?_;obtain⟨d,hd,hR⟩:=Ro (G:=E.G) k3;subst k2;have:=hd c' v k5 rfl k4;rw[k6.aE]at this;exact⟨v,d,k1,hR,this,k6.ext fun _=>rfl⟩
theorem AW.ret(hE:E.OK){fn:Func}(hf:E.P.funcs[aj]?=some fn)(H:oh E.T s h fn.results.toList False R.Q):AW E aj ⟨⟨aj,none,[]⟩,.code .ret::k,s⟩ [] h R := .JI hE (fun _ _ _=>stepR_ret rfl) hf H
theorem AW.Rq(hE:E.OK){fn:Func}(hf:E.P.funcs[aj]?=some fn)(H:oh E.T s h fn.results.toList False R.Q):AW E aj ⟨⟨aj,none,[]⟩,[],s⟩ [] h R := .JI hE (fun _ _ _=>stepR_end rfl) hf H
end
end Go.aA
end
section
namespace Go.aA
open Go Go.RowKit
@[irreducible] def need (C K : Prop) : Prop := C /\ K
theorem aW{C K:Prop}(h:C)(k:K):need C K:=by unfold need;exact⟨h,k⟩
theorem ng{C K:Prop}(h:need C K):C/\K:=by unfold need at h;exact h
def kV(b:UInt8):DV := .int .u8 b.toNat
def two{β:Type}(l:List β)(stop:Prop)(k:β->β->Prop):Prop :=
 match l with
 |[a,b]=>k a b
 |_=>stop
theorem JJ{β:Type}{l:List β}{stop:Prop}{k:β->β->Prop}(H:two l stop k):stop\/∃ a b,l=[a,b]/\k a b:=by
 unfold two at H;split at H
 ·exact .inr ⟨_,_,rfl,H⟩
 ·exact .inl H
def BG(e:Nat)(ei:bu)(h:List af)(a:AV)(m:List DV)(stop:Prop)(k:AV->List af->Prop):Prop :=
 match a with
 | .d .aI=>need (m.length<=2147483648/\∀ e∈m,e.cells.length=ei.size) (n4 h (.arr 1 (e,ei.size) m) 0 fun h' n=>k (.own n 1) h')
 | .own b g=>aZ h b stop fun
  | .arr g' ts l=>match adY g g',adY ts.1 e,adY ts.2 ei.size with
   |true,true,true=>need (l.length+m.length<=2147483648/\∀ e∈m,e.cells.length=ei.size) (fG h b (.arr (g+1) ts (l++m)) fun h'=>k (.own b (g+1)) h')
   |_,_,_=>stop
  |_=>stop
 |_=>stop
def sD(T:List bu)(G:List (Nat × DV))(o:Op)(s:List AV)(h:List af)(stop:Prop)(k:AV->List af->Prop):Prop :=
 match o with
 | .call { callee := .builtin .append,args:=args,argTypes:=ts }=>two args.toList stop fun x y=>two ts.toList stop fun t0 t1=>aZ T t0 stop fun i0=>aZ T t1 stop fun i1 =>
  match i0.k with
  | .slice e=>aZ T e stop fun ei=>match adY ei.zero.length ei.size,adZ 0 ei.size,Nat.ble ei.bytes 65536 with
   |true,true,true=>cd G s x stop fun a=>cd G s y stop fun b =>
    match i1.k,b with
    | .slice _,.d (.sl m)=>BG e ei h a m stop k
    | .string,.d (.str z)=>match ei.k with
     | .int .u8=>BG e ei h a (z.map kV) stop k
     |_=>stop
    |_,_=>stop
   |_,_,_=>stop
  |_=>stop
 | .makeSlice t n c=>aZ T t stop fun i=>match i.k with
  | .slice e=>aZ T e stop fun ei=>match adY ei.zero.length ei.size,adZ 0 ei.size,Nat.ble ei.bytes 65536,ei.zero.all DV.fm with
   |true,true,true,true=>cd G s n stop fun
    | .d (.int _ a)=>cd G s c stop fun
     | .d (.int _ b) =>
      match ei.zero with
      |[z]=>need (0<=a/\a<=b/\b<=2147483648) (n4 h (.arr 0 (e,ei.size) (ad6 a.toNat z)) 0 fun h' n=>k (.own n 0) h')
      |zl=>need (0<=a/\a<=b/\b<=2147483648) (n4 h (.arr 0 (e,ei.size) (ad6 a.toNat (.agg zl))) 0 fun h' n=>k (.own n 0) h')
     |_=>stop
    |_=>stop
   |_,_,_,_=>stop
  |_=>stop
 |_=>stop
theorem aX{β:Type}{l:List β}{n:Nat}{e:β}(h:l[n]?=some e):n<l.length:=by
 rcases adV n l.length with h'|h'
 ·exact h'
 ·rw[adW h']at h;cases h
section
variable {E:Env} {s:List AV} {h:List af} {c:Cx} {G:List (Nat × DV)} {P:Program}
structure Src(P:Program)(size:Nat)(w:World)(x:Value)(n:Nat)(news:List Value):Prop where
 len:∀ w,(Builtin.lenOf x).run P w=.ok n w
 cells:∀ d:Nat,(Builtin.firstCells size n x).run P { w with drawn:=d }=.ok news.toArray { w with drawn:=d }
 one:∀ v∈news,v.oneCell'=true
 size:news.length=n*size
theorem Rr{t0 t1 e:TypeId}{i:TypeInfo}{d1:TypeDesc}(h0:P.underlying t0=some (.slice e))(h1:P.underlying t1=some d1)(nh:∀ k,d1 ≠ .int k)(hi:P.info? e=some i){w:World}{g n m cap:Nat}{cur:Array Value}{x:Value}{news:List Value}
  (hg:w.heap[g]?=some (.cells cur e (0,0))) (hs:Src P i.size w x m news) (qG:n+m<=cap) (iJ:n*i.size+news.length<=cur.size) (ty:TypeId) :
  (Builtin.append_ #[t0,t1] ty #[.slice (some ⟨g,0,none⟩) n cap,x]).run P w=.ok (.slice (some ⟨g,0,none⟩) (n+m) cap) (w.setCells g (n*i.size) news):=by
 have bg:=run_storeCells_cells (P:=P) g (n*i.size) news 0 w (fun j hj=>by
   simp only[World.cell?,hg]
   simp;omega) (fun j hj=>by simp[World.frozen?,hg]) hs.one
 simp only[aew]at bg;have hc:=hs.cells w.drawn;simp[Builtin.append_,run_underlying h0,run_underlying h1,Go.sizeOf,typeInfo,hi,hs.len,qG,hc,na,bg]
theorem Rs{t0 t1 e:TypeId}{i:TypeInfo}{d1:TypeDesc}(h0:P.underlying t0=some (.slice e))(h1:P.underlying t1=some d1)(nh:∀ k,d1 ≠ .int k)(hi:P.info? e=some i){w:World}{n cap:Nat}{b:Option Addr}{x:Value}
  (hs:Src P i.size w x 0 []) (qG:n<=cap) (ty:TypeId):(Builtin.append_ #[t0,t1] ty #[.slice b n cap,x]).run P w=.ok (.slice b n cap) w:=by
 have hc:=hs.cells w.drawn;cases b<;>simp[Builtin.append_,run_underlying h0,run_underlying h1,Go.sizeOf,typeInfo,hi,hs.len,qG,hc,storeCells]
theorem Rt{t0 t1 e:TypeId}{i:TypeInfo}{z:Value}{d1:TypeDesc}(h0:P.underlying t0=some (.slice e))(h1:P.underlying t1=some d1)(nh:∀ k,d1 ≠ .int k)(hi:P.info? e=some i)(hz:i.zero=some z){w:World}{n m cap:Nat}{b:Option Addr}{x:Value}{pJ news:List Value}
  (hold:∀ d:Nat,(Builtin.firstCells i.size n (.slice b n cap)).run P { w with drawn:=d }=.ok pJ.toArray { w with drawn:=d }) (hs:Src P i.size w x m news) (hg:cap<n+m) (Ru:n+m<=2147483648) (qH:i.bytes<=65536) (ty:TypeId) :
  (Builtin.append_ #[t0,t1] ty #[.slice b n cap,x]).run P w=.ok (.slice (some ⟨w.heap.size,0,none⟩) (n+m) (grownCap w (n+m) cap e)) (w.drew.alloc (.cells (pJ.toArray++news.toArray++Builtin.zeroCells z.cells (grownCap w (n+m) cap e-(n+m))) e)):=by
 have hn:¬ (n+m<=cap):=by omega
 have Rv:¬ (9223372036854775807<((n:Int)+(m:Int))):=by omega
 have iJ:(n+m)*i.bytes<=140737488355328:=by
  calc (n+m)*i.bytes<=2147483648*65536:=Nat.mul_le_mul Ru qH
   _=140737488355328:=by decide
 have Rw:¬ (281474976710656<Builtin.nextslicecap (n+m) cap*i.bytes):=by
  have:=growslice_fits (old:=cap) (need:=n+m) (bytes:=i.bytes) (by omega) iJ;omega
 have hc:=hs.cells w.drew.drawn;have ho:=hold w.drew.drawn;have yT:(Builtin.firstCells i.size m x).run P w.drew=.ok news.toArray w.drew:=hc;have cW:(Builtin.firstCells i.size n (.slice b n cap)).run P w.drew=.ok pJ.toArray w.drew:=ho;simp[Builtin.append_,run_underlying h0,run_underlying h1,Go.sizeOf,typeInfo,zeroValue,hi,hz,hs.len,hn,Rv,Rw,Question.forced,yT,cW,newRow,grownCap]
 congr 2
 apply afp;simp[afb]
theorem JK{c:Cx}{m:List DV}{x:Value}{sz:Nat}(bR:0<sz)(hm:∀ e∈m,e.cells.length=sz)(hv:VD c.bad c.w (.sl m) x):∃ news:List Value,Src P sz c.w x m.length news/\(∀ (j:Nat) (y:DV) (v:Value),(flat m)[j]?=some y->news[j]?=some v->VD c.bad c.w y v):=by
 have dW:iM sz m:=fun i e he=>hm e (afh he);cases hv with
 |slnil=>exact⟨[],⟨fun _=>rfl,fun _=>rfl,fun v hv=>by simp at hv,by simp⟩,fun j y v hy=>by simp[flat]at hy⟩
 |jX a=>exact⟨[],⟨fun _=>rfl,fun _=>by simp[Builtin.firstCells,loadCells,loadCellsFrom],fun v hv=>by simp at hv,by simp⟩,fun j y v hy=>by simp[flat]at hy⟩
 |sl _ blk off cap dk f hb BH jB hlen dO bG bZ =>
  by_cases aJ:m=[]
  ·subst aJ;exact⟨[],⟨fun _=>rfl,fun _=>by simp[Builtin.firstCells,loadCells,loadCellsFrom],fun v hv=>by simp at hv,by simp⟩,fun j y v hy=>by simp[flat]at hy⟩
  obtain⟨e0,r,hr⟩:=aeo aJ;have oa:dk=sz:=(hlen 0 e0 (by rw[hr];rfl)).symm.trans (hm e0 (by rw[hr];simp));subst oa;have at_:∀ (idx:Nat),idx<m.length*dk->∃ (i j:Nat) (e y:DV),idx=i*dk+j/\j<dk/\m[i]?=some e/\e.cells[j]?=some y/\idx / dk=i/\idx % dk=j:=fun idx pK=>by
   have hd:idx / dk<m.length:=afj (by rw[aeE];exact pK);have pL:idx % dk<dk:=Nat.mod_lt _ bR;have hl:idx % dk<m[idx / dk].cells.length:=by rw[hlen _ _ (afo hd)];exact pL
   exact⟨idx / dk,idx % dk,m[idx / dk],m[idx / dk].cells[idx % dk],by rw[aeE];exact(afl idx dk).symm,pL,afo hd,afo hl,rfl,rfl⟩
  have dE:∀ (j:Nat) (v:Value),((aeU (m.length*dk)).map fun idx=>f (idx / dk) (idx % dk))[j]?=some v->j<m.length*dk/\v=f (j / dk) (j % dk):=fun j v hv=>by
   have hj:j<m.length*dk:=by have:=aX hv;simpa using this
   simp[hj]at hv;exact⟨hj,hv.symm⟩
  refine⟨(aeU (m.length*dk)).map fun idx=>f (idx / dk) (idx % dk),⟨fun _=>rfl,fun d=>?_,fun v hv=>?_,by simp⟩,fun j y v hy hv=>?_⟩
  ·have:=run_loadCells_list (P:=P) { c.w with drawn:=d } ⟨blk,off,none⟩ ((aeU (m.length*dk)).map fun idx=>f (idx / dk) (idx % dk)) (fun j v hv=>by
    obtain⟨hj,rfl⟩:=dE j v hv;obtain⟨i,jj,e,y,e1,e2,e3,e4,e5,e6⟩:=at_ j hj;rw[na,e5,e6,e1]
    exact dO i jj e y e3 e4)
   simpa [Builtin.firstCells]using this
  ·obtain⟨j,Rx⟩:=List.getElem?_of_mem hv;obtain⟨hj,rfl⟩:=dE j v Rx;obtain⟨i,jj,e,y,e1,e2,e3,e4,e5,e6⟩:=at_ j hj;rw[e5,e6];exact bZ i jj e y e3 e4
  ·obtain⟨hj,rfl⟩:=dE j v hv;obtain⟨i,jj,e,y',e1,e2,e3,e4,e5,e6⟩:=at_ j hj;have:=flat_get dW e3 e2;rw[<- e1,hy,e4]at this;cases this;rw[e5,e6];exact bG i jj e y e3 e4
theorem JL{c:Cx}{z:List UInt8}:Src P 1 c.w (.string ⟨z.toArray⟩) (z.map kV).length (z.map fun b=>Value.int .u8 b.toNat)/\(∀ (j:Nat) (y:DV) (v:Value),(flat (z.map kV))[j]?=some y->(z.map fun b=>Value.int .u8 b.toNat)[j]?=some v->VD c.bad c.w y v):=by
 have Ry:flat (z.map kV)=z.map kV:=by
  induction z with
  |nil=>rfl
  |cons b z ih=>simp only[ad0,flat,List.flatMap_cons]at ih ⊢;rw[ih];rfl
 refine⟨⟨fun _=>by simp[Builtin.lenOf,ByteArray.size],fun d=>?_,fun v hv=>?_,by simp⟩,fun j y v hy hv=>?_⟩
 ·simp[Builtin.firstCells]
 ·obtain⟨b,-,rfl⟩:=aer.1 hv;rfl
 ·rw[Ry]at hy;rw[ad1]at hy hv;cases hz:z[j]? with
  |none=>rw[hz]at hy;cases hy
  |some b=>rw[hz]at hy hv;cases hy;cases hv;exact .int _ _
def lI(c:Cx)(l:List DV)(vs:List Value):Prop:=∀ (idx:Nat) (y:DV),(flat l)[idx]?=some y->∃ v,vs[idx]?=some v/\v.oneCell'=true/\VD c.bad c.w y v
theorem lI.ij{c:Cx}{l:List DV}{vs:Array Value}{sz:Nat}(dW:iM sz l)(h:lI c l vs.toList):∀ (i j:Nat) (e x:DV),l[i]?=some e->e.cells[j]?=some x->∃ v,vs[i*sz+j]?=some v/\v.oneCell'=true/\VD c.bad c.w x v:=fun i j e x he hx=>by
 have hj:j<sz:=by rw[<- dW i e he];exact aX hx
 obtain⟨v,h1,h2⟩:=h (i*sz+j) x (by rw[flat_get dW he hj];exact hx);exact⟨v,by simpa using h1,h2⟩
theorem lI.Rz{c:Cx}{l:List DV}{vs:Array Value}{sz:Nat}(bR:0<sz)(dW:iM sz l)(h:∀ (i j:Nat) (e x:DV),l[i]?=some e->e.cells[j]?=some x->∃ v,vs[i*sz+j]?=some v/\v.oneCell'=true/\VD c.bad c.w x v):lI c l vs.toList:=fun idx y hy=>by
 have ah:=aX hy;rw[oc dW]at ah;have hd:idx / sz<l.length:=afj (by rw[aeE];exact ah);have pL:idx % sz<sz:=Nat.mod_lt _ bR;have h1:=flat_get dW (afo hd) pL;have e1:idx / sz*sz+idx % sz=idx:=by rw[aeE];exact afl idx sz
 rw[e1,hy]at h1;obtain⟨v,h2,h3⟩:=h (idx / sz) (idx % sz) _ y (afo hd) h1.symm;rw[e1]at h2;exact⟨v,by simpa using h2,h3⟩
theorem lI.append{c:Cx}{l m:List DV}{vs news:List Value}{tail:List Value}{sz:Nat}(dW:iM sz l)(hl:lI c l vs)(eT:l.length*sz<=vs.length)(bZ:∀ v∈news,v.oneCell'=true)(hlen:news.length=(flat m).length)(hn:∀ (j:Nat) (y:DV) (v:Value),(flat m)[j]?=some y->news[j]?=some v->VD c.bad c.w y v) :
  lI c (l++m) (vs.take (l.length*sz)++news++tail):=fun idx y hy=>by
 rw[Ez]at hy;have mu:=oc dW;have iR:(vs.take (l.length*sz)).length=l.length*sz:=by simp;omega
 rcases adV idx (l.length*sz)with h|h
 ·rw[ael (by omega)]at hy;obtain⟨v,h1,h2⟩:=hl idx y hy;refine⟨v,?_,h2⟩;rw[afb,ael (by omega),aek,if_pos h];exact h1
 ·rw[ae9 (by omega),mu]at hy;have ah:=aX hy;have pK:idx-l.length*sz<news.length:=by omega
  refine⟨news[idx-l.length*sz],?_,bZ _ (aeZ pK),hn _ y _ hy (by simp[pK])⟩;rw[afb,ae9 (by omega),iR,ael pK];simp[pK]
theorem lI.step{c c':Cx}(hs:Step c c'){l:List DV}{vs:List Value}(h:lI c l vs):lI c' l vs:=fun idx y hy=>by
 obtain⟨v,h1,h2,h3⟩:=h idx y hy;exact⟨v,h1,h2,hs.vd h3⟩
theorem RA{sz:Nat}{l m:List DV}(hl:iM sz l)(hm:∀ e∈m,e.cells.length=sz):iM sz (l++m):=fun i e he=>by
 rcases adV i l.length with h|h
 ·rw[ael h]at he;exact hl i e he
 ·rw[ae9 h]at he;exact hm e (afh he)
def Cx.jF(c:Cx)(b g:Nat)(ts:Nat × Nat)(l:List DV)(own:Option (Nat × Nat))(w:World):Cx:={ c with own:=fun i=>if i=b then own else c.own i,heap:=c.heap.set b (.arr g ts l),w:=w }
theorem aM.jF{G:List (Nat × DV)}(ho:aM G c){b g:Nat}{ts:Nat × Nat}{l l':List DV}(hb:c.heap[b]?=some (.arr g ts l)){w:World}(own:Option (Nat × Nat))(EO:w.os=c.w.os)(RB:w.tape=c.w.tape)(RC:w.output=c.w.output)(jG:c.w.heap.size<=w.heap.size)
  (sE:∀ k,k<c.w.heap.size->(∀ n,c.own b≠some (k,n))->w.heap[k]?=c.w.heap[k]?) (bH:∀ k n,own=some (k,n)->k<w.heap.size/\(k<c.w.heap.size->∃ m,c.own b=some (k,m))) :
  let c':=c.jF b (g+1) ts l' own w
  Step c c'/\((iM ts.2 l'/\((own=none/\l'=[])\/∃ (blk cap:Nat) (vs:Array Value),own=some (blk,cap)/\w.heap[blk]?=some (.cells vs ts.1 (0,0))/\vs.size=cap*ts.2/\l'.length<=cap/\cap<=maxLen/\lI c' l' vs.toList))->aM G c'):=by
 intro c';have eS:=aX hb
 have bg:Step c c':={
  aE:=rfl
  bS:=ho.bS
  os:=EO
  tape:=RB
  output:=RC
  size:=jG
  keep:=fun x hx hn=>sE x hx (fun n=>hn b n)
  dB:=fun i x n hi hx=>by
   simp only[c',Cx.jF]at hi;split at hi
   ·rename_i bF;subst bF;exact(bH x n hi).2 hx
   ·exact⟨n,hi⟩
  boxes:=fun i bx hi=>by
   by_cases bF:i=b
   ·subst bF;rw[hb]at hi;cases hi;exact .inl ⟨g+1,l',by show(c.heap.set i _)[i]?=_;rw[aei eS],.inl (Nat.lt_succ_self _)⟩
   ·have h':c'.heap[i]?=some bx:=by show(c.heap.set b _)[i]?=_;rw[aej (Ne.symm bF)];exact hi
    have qC:c'.own i=c.own i:=by simp only[c',Cx.jF];rw[if_neg bF]
    cases bx with
    |cells cs=>exact .inl ⟨cs,h',qC,rfl⟩
    |arr g sz l=>exact .inl ⟨g,l,h',.inr ⟨rfl,rfl,qC⟩⟩
    |map es=>exact .inl ⟨es,h',qC⟩
    |gone=>exact h'
    |hole=>exact⟨_,h'⟩ }
 refine⟨bg,fun dx=>ho.next bg ?_ ?_ ?_⟩
 ·intro i x n hi;have hl:c'.heap.length=c.heap.length:=by simp[c',Cx.jF]
  rw[hl];simp only[c',Cx.jF]at hi;split at hi
  ·rename_i bF;subst bF;exact⟨(bH x n hi).1,eS⟩
  ·have:=ho.bB i x n hi;exact⟨ad4 this.1 jG,this.2⟩
 ·intro i j x n m hi hj;simp only[c',Cx.jF]at hi hj;split at hi<;>split at hj
  ·omega
  ·rename_i h1 h2;have:=(ho.bB j x m hj).1;obtain⟨q,hq⟩:=(bH x n hi).2 this;exact absurd (ho.inj j b x m q hj hq) h2
  ·rename_i h1 h2;have:=(ho.bB i x n hi).1;obtain⟨q,hq⟩:=(bH x m hj).2 this;exact absurd (ho.inj i b x n q hi hq) h1
  ·exact ho.inj i j x n m hi hj
 ·intro i bx hi;by_cases bF:i=b
  ·subst bF;have cj:(c.heap.set i (.arr (g+1) ts l'))[i]?=some bx:=hi;rw[aei eS]at cj;cases cj;right;have mv:c'.own i=own:=by simp[c',Cx.jF]
   obtain⟨q0,-,-⟩:=ho.box i _ hb;obtain⟨dW,RE⟩:=dx;refine⟨q0,dW,?_⟩;rcases RE with⟨h1,h2⟩|⟨blk,cap,vs,h1,h2,h3,h4,h5,h6⟩
   ·exact .inl ⟨mv.trans h1,h2⟩
   ·exact .inr ⟨blk,cap,vs,mv.trans h1,h2,h3,h4,h5,h6.ij dW⟩
  ·left;have cj:(c.heap.set b (.arr (g+1) ts l'))[i]?=some bx:=hi;rw[aej (Ne.symm bF)]at cj;refine⟨cj,by simp only[c',Cx.jF];rw[if_neg bF],fun x n hn=>sE x (ho.bB i x n hn).1 (fun m hm=>bF (ho.inj i b x n m hn hm))⟩
theorem kW{b g:Nat}{ts:Nat × Nat}{l:List DV}(hb:c.heap[b]?=some (.arr g ts l)){v:Value}(hv:VR c (.own b g) v):(∃ blk cap,c.own b=some (blk,cap)/\v=.slice (some ⟨blk,0,none⟩) l.length cap)\/(l=[]/\v=.slice none 0 0/\c.own b=none):=by
 cases hv with
 |own _ _ _ l' blk cap k1 k2=>rw[hb]at k1;cases k1;exact .inl ⟨blk,cap,k2,rfl⟩
 |iH _ _ _ k1 k2=>rw[hb]at k1;cases k1;exact .inr ⟨rfl,rfl,k2⟩
 |kQ _ _ g' _ _ _ k1 k2 _=>rw[hb]at k1;cases k1;omega
 |jY _ _ _ k1 _=>rw[hb]at k1;cases k1
 |mZ _ _ _ _ _ _ k1 _ _=>rw[hb]at k1;cases k1
theorem RF{β:Type}{vs news:List β}{o:Nat}(h:o+news.length<=vs.length):dy vs o news=vs.take o++news++vs.drop (o+news.length):=by
 have h1:vs=vs.take o++(vs.drop o).take news.length++vs.drop (o+news.length):=by
  rw[afb,<- List.drop_drop,afA,afA]
 have h2:(vs.take o).length=o:=by simp;omega
 have:=Ey news (vs.take o) ((vs.drop o).take news.length) (vs.drop (o+news.length)) (by simp;omega);rw[<- h1,h2]at this;exact this
theorem ni{n:Nat}(h:n<=2147483648):n<=maxLen:=by unfold maxLen;omega
theorem JM(aP:aM G c){t0 t1:TypeId}{i:TypeInfo}{z:Value}{d1:TypeDesc}{ts:Nat × Nat}(h0:P.underlying t0=some (.slice ts.1))(h1:P.underlying t1=some d1)(nh:∀ k,d1 ≠ .int k)(hi:P.info? ts.1=some i)(hz:i.zero=some z)(jD:z.cells.size=i.size)(jG:i.size=ts.2)(qH:i.bytes<=65536)
  {b g:Nat} {l m:List DV} (hb:c.heap[b]?=some (.arr g ts l)) {v x:Value} (hv:VR c (.own b g) v) {news:List Value} (hs:Src P i.size c.w x m.length news) (hn:∀ (j:Nat) (y:DV) (v:Value),(flat m)[j]?=some y->news[j]?=some v->VD c.bad c.w y v) (hm:∀ e∈m,e.cells.length=ts.2) (sF:l.length+m.length<=2147483648) (ty:TypeId) :
  ∃ (c':Cx) (v':Value),(Builtin.append_ #[t0,t1] ty #[v,x]).run P c.w=.ok v' c'.w/\c'.heap=c.heap.set b (.arr (g+1) ts (l++m))/\aM G c'/\VR c' (.own b (g+1)) v'/\Step c c':=by
 obtain⟨q0,q1,q2⟩:=aP.box b _ hb;have eS:=aX hb;have JN:iM ts.2 (l++m):=RA q1 hm;have yU:(flat m).length=m.length*ts.2:=oc (fun i e he=>hm e (afh he));have wW:news.length=(flat m).length:=by rw[hs.size,yU,jG]
 have nj:∀ own w,(c.jF b (g+1) ts (l++m) own w).heap[b]?=some (.arr (g+1) ts (l++m)):=fun own w=>by show(c.heap.set b _)[b]?=_;rw[aei eS]
 have EP:∀ own w,(c.jF b (g+1) ts (l++m) own w).own b=own:=fun own w=>by simp[Cx.jF]
 have grown:∀ (pJ:List Value) (cap:Nat) (bs:Option Addr),(∀ (idx:Nat) (y:DV),(flat l)[idx]?=some y->∃ v,pJ[idx]?=some v/\v.oneCell'=true/\VD c.bad c.w y v)->pJ.length=l.length*ts.2->(∀ d:Nat,(Builtin.firstCells i.size l.length (.slice bs l.length cap)).run P { c.w with drawn:=d }=.ok pJ.toArray { c.w with drawn:=d })->cap<l.length+m.length->v=.slice bs l.length cap ->
   ∃ (c':Cx) (v':Value),(Builtin.append_ #[t0,t1] ty #[v,x]).run P c.w=.ok v' c'.w/\c'.heap=c.heap.set b (.arr (g+1) ts (l++m))/\aM G c'/\VR c' (.own b (g+1)) v'/\Step c c':=by
  intro pJ cap bs hold BI RG jB RH;subst RH;have hr:=Rt h0 h1 nh hi hz RG hs jB sF qH ty;have aC:=grownCap_ge c.w (l.length+m.length) cap ts.1;have hle:=grownCap_le_maxLen c.w (l.length+m.length) cap ts.1 (ni sF);generalize grownCap c.w (l.length+m.length) cap ts.1=nc at hr aC hle
  let cells:Array Value:=pJ.toArray++news.toArray++Builtin.zeroCells z.cells (nc-(l.length+m.length))
  have hw:(c.w.drew.alloc (.cells cells ts.1)).heap[c.w.heap.size]?=some (.cells cells ts.1 (0,0)):=heap_alloc_new c.w.drew _;obtain⟨k1,k2⟩:=aP.jF (l':=l++m) hb (w:=c.w.drew.alloc (.cells cells ts.1)) (some (c.w.heap.size,nc)) rfl rfl rfl (by simp) (fun k hk _=>Below.heap_alloc c.w.drew _ k hk) (fun k n e=>by cases e;exact⟨by simp,fun h=>by omega⟩);refine⟨_,_,hr,rfl,k2 ⟨JN,.inr ⟨c.w.heap.size,nc,cells,rfl,hw,?_,by simpa using aC,hle,?_⟩⟩,?_,k1⟩
  ·simp only[cells,Array.size_append,List.size_toArray,size_zeroCells,jD,BI,wW,yU,jG,<- aec]
   congr 1
   omega
  ·have:=lI.append (c:=c) (l:=l) (m:=m) (vs:=pJ) (news:=news) (tail:=(Builtin.zeroCells z.cells (nc-(l.length+m.length))).toList) q1 hold (by omega) hs.one wW hn;rw[List.take_of_length_le (by omega)]at this;have:=this.step k1
   simpa [cells]using this
  ·have:=VR.own (c:=c.jF b (g+1) ts (l++m) (some (c.w.heap.size,nc)) (c.w.drew.alloc (.cells cells ts.1))) b (g+1) ts (l++m) c.w.heap.size nc (nj _ _) (EP _ _);rw[aey]at this;exact this
 rcases kW hb hv with⟨blk,cap,r1,rfl⟩|⟨rfl,rfl,r1⟩
 ·rcases q2 with⟨q2,-⟩|⟨iX,gZ,vs,q2,q3,q4,q5,q6,q7⟩
  ·rw[r1]at q2;cases q2
  rw[r1]at q2;cases q2;have mu:=lI.Rz q0 q1 q7;have eT:l.length*ts.2<=vs.size:=by rw[q4];exact afg _ q5
  by_cases qG:l.length+m.length<=cap
  ·have iJ:l.length*i.size+news.length<=vs.size:=by
    rw[wW,yU,jG,q4,<- aec];exact afg _ qG
   have hr:=Rr h0 h1 nh hi q3 hs qG iJ ty;obtain⟨e1,e2,e3,e4⟩:=Bw blk news (l.length*i.size) c.w;obtain⟨k1,k2⟩:=aP.jF (l':=l++m) hb (w:=c.w.setCells blk (l.length*i.size) news) (some (blk,cap)) e1 e2 e3 (aeW e4.symm) (fun k _ hk=>wF blk news _ c.w k (fun e=>hk cap (by rw[e];exact r1))) (fun k n e=>by cases e;exact⟨by rw[e4];exact(aP.bB b blk cap r1).1,fun _=>⟨cap,r1⟩⟩);refine⟨_,_,hr,rfl,k2 ⟨JN,.inr ⟨blk,cap,(dy vs.toList (l.length*i.size) news).toArray,rfl,Bx blk ts.1 (0,0) news _ c.w vs q3,by simp[yF,q4],by simpa using qG,q6,?_⟩⟩,?_,k1⟩
   ·have:=lI.append (c:=c) (l:=l) (m:=m) (vs:=vs.toList) (news:=news) (tail:=vs.toList.drop (l.length*ts.2+news.length)) q1 mu (by simpa using eT) hs.one wW hn;have:=this.step k1;show lI _ (l++m) (dy vs.toList (l.length*i.size) news);rw[RF (by simp;exact iJ)];rw[<- jG]at this;exact this
   ·have:=VR.own (c:=c.jF b (g+1) ts (l++m) (some (blk,cap)) (c.w.setCells blk (l.length*i.size) news)) b (g+1) ts (l++m) blk cap (nj _ _) (EP _ _);rw[aey]at this;exact this
  ·have br:=mf q3;refine grown (vs.toList.take (l.length*ts.2)) cap (some ⟨blk,0,none⟩) (fun idx y hy=>?_) (by simp;omega) (fun d=>?_) (by omega) rfl
   ·obtain⟨u,g1,g2⟩:=mu idx y hy;have ah:=aX hy;rw[oc q1]at ah;exact⟨u,by rw[aek,if_pos ah];exact g1,g2⟩
   ·have:=run_loadCells_list (P:=P) { c.w with drawn:=d } ⟨blk,0,none⟩ (vs.toList.take (l.length*ts.2)) (fun j u hu=>by
     rw[aek]at hu;split at hu
     ·rw[na];exact br j u hu
     ·cases hu)
    have hlen:(vs.toList.take (l.length*ts.2)).length=l.length*i.size:=by simp;rw[jG];omega
    rw[hlen]at this;exact this
 ·by_cases RI:m.length=0
  ·obtain rfl:m=[]:=aee RI;have qI:news=[]:=aee (by rw[hs.size];simp);subst qI;have hr:=Rs (b:=none) (n:=0) (cap:=0) h0 h1 nh hi hs (aed _) ty;obtain⟨k1,k2⟩:=aP.jF (l':=[]++[]) hb (w:=c.w) none rfl rfl rfl (aed _) (fun k _ _=>rfl) (fun k n e=>by cases e);exact⟨c.jF b (g+1) ts ([]++[]) none c.w,.slice none 0 0,hr,rfl,k2 ⟨fun i e he=>by simp at he,.inl ⟨rfl,rfl⟩⟩,.iH b (g+1) ts (nj _ _) (EP _ _),k1⟩
  ·exact grown [] 0 none (fun idx y hy=>by simp[flat]at hy) (by simp) (fun d=>by simp[Builtin.firstCells]) (by simp;omega) rfl
theorem aM.wX(aP:aM G c)(ts:Nat × Nat)(jb:0<ts.2):let c':Cx:={ c with heap:=c.heap++[.arr 0 ts []] }
  aM G c'/\Step c c'/\c'.heap[c.heap.length]?=some (.arr 0 ts [])/\VR c' (.own c.heap.length 0) (.slice none 0 0):=by
 intro c';have bI:c.own c.heap.length=none:=by
  cases ho:c.own c.heap.length with
  |none=>rfl
  |some p=>have:=(aP.bB _ p.1 p.2 ho).2;omega
 have bg:Step c c':=⟨rfl,aP.bS,rfl,rfl,rfl,aed _,fun _ _ _=>rfl,fun i b n hi _=>⟨n,hi⟩,fun i bx hi=>by
  have h':c'.heap[i]?=some bx:=by show(c.heap++_)[i]?=_;rw[ael (aX hi)];exact hi
  cases bx with
  |cells cs=>exact .inl ⟨cs,h',rfl,rfl⟩
  |arr g sz l=>exact .inl ⟨g,l,h',.inr ⟨rfl,rfl,rfl⟩⟩
  |map es=>exact .inl ⟨es,h',rfl⟩
  |gone=>exact h'
  |hole=>exact⟨_,h'⟩⟩
 have dF:c'.heap[c.heap.length]?=some (.arr 0 ts []):=by show(c.heap++_)[_]?=_;simp
 refine⟨aP.next bg (fun i b n hi=>⟨(aP.bB i b n hi).1,by have:=(aP.bB i b n hi).2;show i<(c.heap++_).length;simp;omega⟩) aP.inj (fun i bx hi=>?_),bg,dF,.iH _ _ ts dF bI⟩;by_cases ga:i=c.heap.length
 ·subst ga;rw[dF]at hi;cases hi;exact .inr ⟨jb,fun i e he=>by simp at he,.inl ⟨bI,rfl⟩⟩
 ·have ah:i<c.heap.length:=by
   have:=aX hi;have h2:c'.heap.length=c.heap.length+1:=by show(c.heap++_).length=_;simp
   omega
  have cj:(c.heap++[.arr 0 ts []])[i]?=some bx:=hi;rw[ael ah]at cj;exact .inl ⟨cj,rfl,fun _ _ _=>rfl⟩
theorem JO{o:Oper}{ac:Act}{w w':World}{args:Array Operand}{ts:Array TypeId}{x y:Operand}{t0 t1:Nat}{v v0 v1:Value}(h1:o.op=.call { callee := .builtin .append,args:=args,argTypes:=ts })(hx:args.toList=[x,y])(ht:ts.toList=[t0,t1])(e0:ac.eval x=v0)(e1:ac.eval y=v1)
  (hr:(Builtin.append_ #[t0,t1] o.type #[v0,v1]).run P w=.ok v w'):(execOp ac.eval o).run P w=.ok (.value v) w':=by
 have ha:args.map ac.eval = #[v0,v1]:=by
  apply afp;rw[Array.toList_map,hx];simp[e0,e1]
 have jb:ts = #[t0,t1]:=by apply afp;rw[ht]
 simp only[execOp,h1,resolve,ha,jb,adT,adS,adU,invoke,builtin,hr]
theorem JP(hE:E.OK){args:Array Operand}{uy:Array TypeId}{x y:Operand}{t0 t1 e:Nat}{i0 i1 ei:bu}(hx:args.toList=[x,y])(BJ:uy.toList=[t0,t1])(lG:E.T[t0]?=some i0)(wY:E.T[t1]?=some i1)(b9:i0.k=.slice e)(dm:∀ k,i1.k ≠ .int k)(bV:E.T[e]?=some ei)
  (hz:ei.zero.length=ei.size) (cS:0<ei.size) (qH:ei.bytes<=65536) {bv:AV} (hy:bh E.G s y bv) {m:List DV} (hm:∀ e∈m,e.cells.length=ei.size)
  (qJ:∀ (c:Cx) (v:Value),VR c bv v->∃ news:List Value,Src E.P ei.size c.w v m.length news/\(∀ (j:Nat) (y:DV) (v:Value),(flat m)[j]?=some y->news[j]?=some v->VD c.bad c.w y v))
  {a:AV} (ha:bh E.G s x a) {r:AV} {h':List af}
  (ER:(∃ b g ts l,a=.own b g/\h[b]?=some (.arr g ts l)/\ts.1=e/\ts.2=ei.size/\l.length+m.length<=2147483648/\r=.own b (g+1)/\h'=h.set b (.arr (g+1) ts (l++m)))\/(a=.d .aI/\m.length<=2147483648/\r=.own h.length 1/\h'=h++[.arr 1 (e,ei.size) m])) :
  bz E (.call { callee := .builtin .append,args:=args,argTypes:=uy }) s h r h':=fun o c ac h1 h2 h3 h4=>by
 subst h2;obtain⟨By,d0,g1,g2,g3,-⟩:=cC (hE.types _ _ lG);obtain rfl:=lF (b9.symm.trans g3);obtain⟨ti1,d1,k1,k2,k3,-⟩:=cC (hE.types _ _ wY);obtain⟨ti,z,q1,q2,q3,q4⟩:=zeroOf (hE.types _ _ bV) hz cS;obtain⟨wN,d',p1,p2,p3,p4,p5,-⟩:=cC (hE.types _ _ bV);rw[q1]at p1;cases p1;have nh:∀ k,d1 ≠ .int k:=fun k e=>dm k (by rw[k3,e];rfl);have jD:z.cells.size=ti.size:=by
  obtain⟨vs,e1,e2⟩:=q4 c;rw[e1];have:=e2.1;simp at this;simp[<- this,hz,q3]
 rcases ER with⟨b,g,ts,l,rfl,hb,rfl,JQ,sF,rfl,rfl⟩|⟨rfl,sF,rfl,rfl⟩
 ·obtain⟨news,hs,hn⟩:=qJ c _ (hy c ac h3 h4);rw[q3]at hs;obtain⟨c',v',r1,r2,r3,r4,r5⟩:=JM h3 g2 k2 nh q1 q2 jD (by rw[<- q3];exact JQ.symm) (by rw[<- p5];exact qH) hb (ha c ac h3 h4) hs hn (fun e he=>by rw[JQ];exact hm e he) sF o.type;exact⟨c',v',.inl (JO h1 hx BJ rfl rfl r1),r2,r3,r4,r5⟩
 ·obtain⟨w1,w2,w3,w4⟩:=h3.wX (e,ei.size) cS;have mw:=w2.vr (hy c ac h3 h4);obtain⟨news,hs,hn⟩:=qJ _ _ mw;rw[q3]at hs;have cI:ac.eval x=.slice none 0 0:=by
   have:=ha c ac h3 h4;generalize ac.eval x=u at this;cases this with
   |d _ _ hd=>cases hd;rfl
  obtain⟨c',v',r1,r2,r3,r4,r5⟩:=JM (ts:=(e,ei.size)) w1 g2 k2 nh q1 q2 jD q3.symm (by rw[<- p5];exact qH) w3 w4 hs hn hm (by simpa using sF) o.type;refine⟨c',v',.inl (JO h1 hx BJ cI rfl r1),?_,r3,r4,w2.trans r5⟩;rw[r2];simp
theorem JR(hE:E.OK){t e:Nat}{n cc:Operand}{i ei:bu}(hi:E.T[t]?=some i)(hk:i.k=.slice e)(bV:E.T[e]?=some ei)(hz:ei.zero.length=ei.size)(cS:0<ei.size)(qH:ei.bytes<=65536)(fH:∀ y∈ei.zero,y.fm=true){j j':IntKind}{a b:Int}(hn:bh E.G s n (.d (.int j a)))(hc:bh E.G s cc (.d (.int j' b)))
  (ha:0<=a) (my:a<=b) (hb:b<=2147483648) {zd:DV} (JS:zd.cells=ei.zero):bz E (.makeSlice t n cc) s h (.own h.length 0) (h++[.arr 0 (e,ei.size) (ad6 a.toNat zd)]):=fun o c ac h1 h2 h3 h4=>by
 subst h2;obtain⟨By,d0,g1,g2,g3,-⟩:=cC (hE.types _ _ hi);obtain rfl:=lF (hk.symm.trans g3);obtain⟨ti,z,q1,q2,q3,q4⟩:=zeroOf (hE.types _ _ bV) hz cS;obtain⟨wN,d',p1,p2,p3,p4,p5,-⟩:=cC (hE.types _ _ bV);rw[q1]at p1;cases p1;obtain⟨zs,jD,kS⟩:=q4 c;have mh:zs.length=ei.size:=by rw[<- kS.1];simpa using hz
 have RJ:(ti.bytes:Int)*b<=281474976710656:=by
  have h5:(ti.bytes:Int)<=65536:=by rw[<- p5];omega
  calc (ti.bytes:Int)*b<=65536*2147483648:=Int.mul_le_mul h5 hb (by omega) (by omega)
   _<=281474976710656:=by decide
 have hr:=run_make (P:=E.P) c.w t e ti z g2 q1 q2 j j' a b ha my RJ (by omega);have e1:=ef (hn c ac h3 h4);have e2:=ef (hc c ac h3 h4);obtain⟨k1,k2⟩:=h3.add (.arr 0 (e,ei.size) (ad6 a.toNat zd)) b.toNat (.cells (madeCells z.cells (b.toNat*ti.size)) e);have dW:iM ei.size (ad6 a.toNat zd):=fun i e he=>by
  rw[aeC]at he;split at he
  ·cases he;rw[JS,hz]
  ·cases he
 have bH:(c.add (.arr 0 (e,ei.size) (ad6 a.toNat zd)) b.toNat (.cells (madeCells z.cells (b.toNat*ti.size)) e)).own c.heap.length=some (c.w.heap.size,b.toNat):=by simp[Cx.add]
 have nj:(c.add (.arr 0 (e,ei.size) (ad6 a.toNat zd)) b.toNat (.cells (madeCells z.cells (b.toNat*ti.size)) e)).heap[c.heap.length]?=some (.arr 0 (e,ei.size) (ad6 a.toNat zd)):=by simp[Cx.add]
 refine⟨_,.slice (some ⟨c.w.heap.size,0,none⟩) a.toNat b.toNat,.inl ?_,rfl,k2 ⟨cS,dW,.inr ⟨c.w.heap.size,b.toNat,madeCells z.cells (b.toNat*ti.size),bH,heap_alloc_new _ _,by rw[size_madeCells,q3],by simp;omega,ni (by omega),?_⟩⟩,?_,k1⟩
 ·simp only[execOp,h1,e1,e2,adT,hr,adU,adS];rfl
 ·intro i' j2 e' x he hx;have kg:j2<ei.size:=by rw[<- dW i' e' he];exact aX hx
  rw[aeC]at he;split at he
  ·rename_i ah;cases he;rw[JS]at hx;have pK:i'*ei.size+j2<b.toNat*ti.size:=by
    rw[<- q3];have:(i'+1)*ei.size<=b.toNat*ei.size:=afg _ (by omega);rw[aec,aez]at this;omega
   have pL:(i'*ei.size+j2) % ei.size=j2:=by rw[aeE,Nat.mul_add_mod,Nat.mod_eq_of_lt kg]
   have bG:(madeCells z.cells (b.toNat*ti.size))[i'*ei.size+j2]?=some (zs[j2]'(by omega)):=by
    simp[madeCells,pK,jD,mh,pL,kg]
   have fw:=kS.pF j2 x (zs[j2]'(by omega)) hx (by simp[mh,kg]);exact⟨_,bG,yE fw (fH x (afh hx)),k1.vd fw⟩
  ·cases he
 ·have:=VR.own (c:=c.add (.arr 0 (e,ei.size) (ad6 a.toNat zd)) b.toNat (.cells (madeCells z.cells (b.toNat*ti.size)) e)) c.heap.length 0 (e,ei.size) _ c.w.heap.size b.toNat nj bH;rw[List.length_replicate]at this;exact this
theorem JT(hE:E.OK){o:Op}{stop:Prop}{k:AV->List af->Prop}(H:sD E.T E.G o s h stop k):stop\/∃ v h',k v h'/\bz E o s h v h':=by
 unfold sD at H;split at H
 ·rename_i args uy;rcases JJ H with h|⟨x,y,hx,H⟩
  ·exact .inl h
  rcases JJ H with h|⟨t0,t1,ht,H⟩
  ·exact .inl h
  rcases bp H with h|⟨i0,lG,H⟩
  ·exact .inl h
  rcases bp H with h|⟨i1,wY,H⟩
  ·exact .inl h
  split at H
  ·rename_i e b9;rcases bp H with h|⟨ei,bV,H⟩
   ·exact .inl h
   split at H
   ·rename_i q1 q2 q3;rcases cu H with h|⟨a,ha,H⟩
    ·exact .inl h
    rcases cu H with h|⟨b,hb,H⟩
    ·exact .inl h
    have fin:∀ (m:List DV),(∀ k,i1.k ≠ .int k)->((∀ e∈m,e.cells.length=ei.size)->∀ (c:Cx) (v:Value),VR c b v->∃ news:List Value,Src E.P ei.size c.w v m.length news/\(∀ (j:Nat) (y:DV) (v:Value),(flat m)[j]?=some y->news[j]?=some v->VD c.bad c.w y v)) ->
      BG e ei h a m stop k->stop\/∃ v h',k v h'/\bz E (.call { callee := .builtin .append,args:=args,argTypes:=uy }) s h v h':=by
     intro m dm qJ H;have gen:=fun{r h'} (hm:∀ e∈m,e.cells.length=ei.size) ER=>JP (h:=h) (r:=r) (h':=h') hE hx ht lG wY b9 dm bV (adX q1) (iO q2) (ad3 q3) hb hm (qJ hm) ha ER;unfold BG at H;split at H
     ·obtain⟨⟨h1,h2⟩,H⟩:=ng H;rw[sk,ad5]at H;exact .inr ⟨_,_,H,gen h2 (.inr ⟨rfl,h1,rfl,rfl⟩)⟩
     ·rcases bp H with h|⟨bx,iY,H⟩
      ·exact .inl h
      split at H
      ·split at H
       ·rename_i p1 p2 p3;have p1:=adX p1;subst p1;obtain⟨⟨h1,h2⟩,H⟩:=ng H;rw[gF]at H;exact .inr ⟨_,_,H,gen h2 (.inl ⟨_,_,_,_,rfl,iY,adX p2,adX p3,h1,rfl,rfl⟩)⟩
       ·exact .inl H
      ·exact .inl H
     ·exact .inl H
    split at H
    ·rename_i e' m dm;exact fin m (fun k hk=>by rw[dm]at hk;cases hk) (fun hm c v hv=>by cases hv with|d _ _ hv=>exact JK (iO q2) hm hv) H
    ·rename_i z dm;split at H
     ·refine fin (z.map kV) (fun k hk=>by rw[dm]at hk;cases hk) (fun hm c v hv=>?_) H;have eK:=pE hv;subst eK;by_cases hz:z=[]
      ·subst hz;exact⟨[],⟨fun _=>by simp[Builtin.lenOf,ByteArray.size],fun d=>by simp[Builtin.firstCells],fun v hv=>by simp at hv,by simp⟩,fun j y v hy=>by simp[flat]at hy⟩
      ·obtain⟨b0,r,hr⟩:=aeo hz;have h1:1=ei.size:=hm (kV b0) (by rw[hr];simp);rw[<- h1];exact⟨_,JL.1,(JL (P:=E.P)).2⟩
     ·exact .inl H
    ·exact .inl H
   ·exact .inl H
  ·exact .inl H
 ·rcases bp H with h|⟨i,hi,H⟩
  ·exact .inl h
  split at H
  ·rename_i e hk;rcases bp H with h|⟨ei,bV,H⟩
   ·exact .inl h
   split at H
   ·rename_i q1 q2 q3 q4;rcases cu H with h|⟨a,ha,H⟩
    ·exact .inl h
    split at H
    ·rcases cu H with h|⟨b,hb,H⟩
     ·exact .inl h
     split at H
     ·split at H
      ·rename_i z gG;obtain⟨⟨h1,h2,h3⟩,H⟩:=ng H;rw[sk,ad5]at H;have jD:z.fm=true:=by rw[gG]at q4;simpa using q4
       exact .inr ⟨_,_,H,JR hE hi hk bV (adX q1) (iO q2) (ad3 q3) (fun y hy=>ad'.1 q4 y hy) ha hb h1 h2 h3 (zd:=z) (by rw[gG];cases z<;>first|rfl|cases jD)⟩
      ·obtain⟨⟨h1,h2,h3⟩,H⟩:=ng H;rw[sk,ad5]at H;exact .inr ⟨_,_,H,JR hE hi hk bV (adX q1) (iO q2) (ad3 q3) (fun y hy=>ad'.1 q4 y hy) ha hb h1 h2 h3 rfl⟩
     ·exact .inl H
    ·exact .inl H
   ·exact .inl H
  ·exact .inl H
 ·exact .inl H
end
end Go.aA
end
section
namespace Go.aA
open Go Go.RowKit
@[irreducible] def sG (l : List DV) (sz : Nat) (n : Int) (K : DV -> Prop) : Prop := ∃ e, 0 <= n /\ l[n.toNat]? = some e /\ e.cells.length = sz /\ K e
theorem eW{l:List DV}{sz:Nat}{n:Int}{K:DV->Prop}(e:DV)(h0:0<=n)(he:l[n.toNat]?=some e)(hs:e.cells.length=sz)(k:K e):sG l sz n K:=by unfold sG;exact⟨e,h0,he,hs,k⟩
theorem ES{l:List DV}{sz:Nat}{n:Int}{K:DV->Prop}(h:sG l sz n K):∃ e,0<=n/\l[n.toNat]?=some e/\e.cells.length=sz/\K e:=by unfold sG at h;exact h
@[irreducible] def yV (s : List UInt8) (n : Int) (K : UInt8 -> Prop) : Prop := ∃ b, 0 <= n /\ s[n.toNat]? = some b /\ K b
theorem kX{s:List UInt8}{n:Int}{K:UInt8->Prop}(b:UInt8)(h0:0<=n)(hb:s[n.toNat]?=some b)(k:K b):yV s n K:=by unfold yV;exact⟨b,h0,hb,k⟩
theorem RL{s:List UInt8}{n:Int}{K:UInt8->Prop}(h:yV s n K):∃ b,0<=n/\s[n.toNat]?=some b/\K b:=by unfold yV at h;exact h
@[irreducible] def yW (c : List DV) (len sz : Nat) (n : Int) (K : DV -> Prop) : Prop := ∃ e, 0 <= n /\ n < len /\ 0 < sz /\ (c.drop (n.toNat * sz)).take sz = e.cells /\ e.cells.length = sz /\ K e
theorem RM{c:List DV}{len sz:Nat}{n:Int}{K:DV->Prop}(e:DV)(h0:0<=n)(h1:n<len)(hz:0<sz)(he:(c.drop (n.toNat*sz)).take sz=e.cells)(hs:e.cells.length=sz)(k:K e):yW c len sz n K:=by unfold yW;exact⟨e,h0,h1,hz,he,hs,k⟩
theorem RN{c:List DV}{len sz:Nat}{n:Int}{K:DV->Prop}(h:yW c len sz n K):∃ e,0<=n/\n<len/\0<sz/\(c.drop (n.toNat*sz)).take sz=e.cells/\e.cells.length=sz/\K e:=by unfold yW at h;exact h
def BK(G:List (Nat × DV))(s:List AV)(x:Option Operand)(stop:Prop)(k:Option Int->Prop):Prop :=
 match x with
 |none=>k none
 |some x=>cd G s x stop fun
  | .d (.int _ n)=>k (some n)
  |_=>stop
def BL(e:DV)(off:Nat)(ds:List DV)(stop:Prop)(k:DV->Prop):Prop :=
 match e with
 | .agg c=>match Nat.ble (off+ds.length) c.length with
  |true=>wA c off ds fun c'=>k (.agg c')
  |false=>stop
 |_=>match off,ds with
  |0,[d]=>match d.fm with
   |true=>k d
   |false=>stop
  |_,_=>stop
def ET(e:DV)(off:Nat)(vs:List AV)(stop:Prop)(k:DV->Prop):Prop:=qz vs stop fun ds=>BL e off ds stop k
def qK(T:List bu)(G:List (Nat × DV))(o:Op)(s:List AV)(h:List af)(stop:Prop)(k:AV->List af->Prop):Prop :=
 match o with
 | .indexAddr t x i=>aZ T t stop fun ti=>cd G s x stop fun a=>cd G s i stop fun
  | .d (.int _ n)=>match ti.k with
   | .slice e=>aZ T e stop fun ei=>match a with
    | .d (.sl l)=>match adZ 0 ei.size with
     |true=>sG l ei.size n fun e=>k (.bQ e 0) h
     |false=>stop
    | .own b g=>aZ h b stop fun
     | .arr g' ts l=>match adY g g',adY ts.2 ei.size with
      |true,true=>need (0<=n/\n<l.length) (k (.cX b g n.toNat 0) h)
      |_,_=>stop
     |_=>stop
    |_=>stop
   | .array len e=>aZ T e stop fun ei=>match a with
    | .bQ (.agg c) 0=>yW c len ei.size n fun e'=>k (.bQ e' 0) h
    |_=>stop
   |_=>stop
  |_=>stop
 | .index t x i=>aZ T t stop fun ti=>cd G s x stop fun a=>cd G s i stop fun
  | .d (.int _ n)=>match ti.k,a with
   | .string,.d (.str l)=>yV l n fun b=>k (.d (.int .u8 b.toNat)) h
   |_,_=>stop
  |_=>stop
 | .slice t x lo hi none=>aZ T t stop fun ti=>cd G s x stop fun a=>BK G s lo stop fun l=>BK G s hi stop fun u=>match ti.k,a with
  | .string,.d (.str z)=>need (0<=l.getD 0/\l.getD 0<=u.getD z.length/\u.getD z.length<=z.length) (k (.d (.str ((z.take (u.getD z.length).toNat).drop (l.getD 0).toNat))) h)
  | .slice e,.d (.sl z)=>aZ T e stop fun ei=>need (0<=l.getD 0/\l.getD 0<=u.getD z.length/\u.getD z.length<=z.length/\∀ e∈z,e.cells.length=ei.size) (k (.d (.sl ((z.take (u.getD z.length).toNat).drop (l.getD 0).toNat))) h)
  |_,_=>stop
 | .load t x=>aZ T t stop fun ti=>cd G s x stop fun
  | .cX b g i off=>aZ h b stop fun
   | .arr g' ts l=>match adY g g' with
    |true=>sG l ts.2 i fun e=>match e with
     | .agg c=>oS .d c fun c'=>lE ti c' off stop fun v=>k v h
     |e=>lE ti [.d e] off stop fun v=>k v h
    |false=>stop
   |_=>stop
  |_=>stop
 | .store t x y=>aZ T t stop fun ti=>cd G s y stop fun v=>cd G s x stop fun
  | .cX b g i off=>aZ h b stop fun
   | .arr g' ts l=>match adY g g' with
    |true=>wC v stop fun vs=>match adY vs.length ti.size,vs.all AV.fm with
     |true,true=>sG l ts.2 i fun e=>ET e off vs stop fun e'=>fG h b (.arr g ts (l.set i e')) fun h'=>k (.d .undef) h'
     |_,_=>stop
    |false=>stop
   |_=>stop
  |_=>stop
 |o=>sD T G o s h stop k
section
variable {E:Env} {s:List AV} {h:List af} {c:Cx}
theorem EU{P:Program}{t e:Nat}{i ei:bu}(ht:fe P t=some i)(wZ:fe P e=some ei)(hk:i.k=.slice e){j:IntKind}{n:Int}{b o len cap:Nat}{w:World}(h0:0<=n)(h1:n<len) :
  (Instr.indexAt t (.slice (some ⟨b,o,none⟩) len cap) (.int j n)).run P w=.ok (.pointer (some ⟨b,o+n.toNat*ei.size,none⟩)) w:=by
 obtain⟨ti,d,g1,g2,g3,-⟩:=cC ht;obtain rfl:=lF (hk.symm.trans g3);simp only[Instr.indexAt,asIntOf,adT,adS,adU,run_underlying g2,h0,h1,and_self,if_true,run_sizeOf wZ,na]
theorem yX{P:Program}{o:Oper}{ac:Act}{w:World}{t:Nat}{x i:Operand}{v:Value}(h1:o.op=.indexAddr t x i)(hr:(Instr.indexAt t (ac.eval x) (ac.eval i)).run P w=.ok v w):(execOp ac.eval o).run P w=.ok (.value v) w:=by
 simp only[execOp,h1,adT,hr,adU,adS]
theorem RO{l:List DV}{v:Value}(hv:VR c (.d (.sl l)) v){n sz:Nat}{e:DV}(he:l[n]?=some e)(hs:e.cells.length=sz)(cS:0<sz):∃ blk off cap,v=.slice (some ⟨blk,off,none⟩) l.length cap/\VR c (.bQ e 0) (.pointer (some ⟨blk,off+n*sz,none⟩)):=by
 cases hv with
 |d _ _ hd=>cases hd with
  |slnil=>simp at he
  |jX=>simp at he
  |sl _ blk off cap dk f hb bR jB hlen dO bG bZ =>
   obtain rfl:dk=sz:=(hlen n e he).symm.trans hs;refine⟨blk,off,cap,rfl,?_⟩;have aJ:l≠[]:=fun h0=>by subst h0;simp at he
   have:=VR.bQ (c:=c) e 0 blk (off+n*dk) (fun j=>f n j) (hb aJ) (fun h0=>by rw[h0]at hs;simp at hs;omega) (fun j x hx=>by rw[ad7];exact dO n j e x he hx) (fun j x hx=>bG n j e x he hx);exact this
theorem RP(hE:E.OK){t e:Nat}{x i:Operand}{ti ei:bu}(bX:E.T[t]?=some ti)(bV:E.T[e]?=some ei)(hk:ti.k=.slice e){l:List DV}{j:IntKind}{n:Int}(hx:bh E.G s x (.d (.sl l)))(hi:bh E.G s i (.d (.int j n)))(cS:0<ei.size){y:DV}(h0:0<=n)(hy:l[n.toNat]?=some y)(hs:y.cells.length=ei.size) :
  bz E (.indexAddr t x i) s h (.bQ y 0) h := .quiet fun o c ac h1 _ h3 h4=>by
 obtain⟨blk,off,cap,e1,e2⟩:=RO (hx c ac h3 h4) hy hs cS;refine⟨_,yX h1 ?_,e2⟩;rw[e1,ef (hi c ac h3 h4)];have:=aX hy;exact EU (hE.types t ti bX) (hE.types e ei bV) hk h0 (by omega)
theorem JU{b g i off:Nat}{ts:Nat × Nat}{l:List DV}(hb:c.heap[b]?=some (.arr g ts l)){v:Value}(hv:VR c (.cX b g i off) v):∃ blk cap,c.own b=some (blk,cap)/\v=.pointer (some ⟨blk,i*ts.2+off,none⟩)/\i<l.length:=by
 cases hv with
 |cX _ _ _ _ _ l' blk cap k1 k2 k3=>rw[hb]at k1;cases k1;exact⟨blk,cap,k2,rfl,k3⟩
 |mc _ _ g' _ _ _ _ _ k1 k2 _=>rw[hb]at k1;cases k1;omega
 |me _ _ _ _ _ k1 _=>rw[hb]at k1;cases k1
theorem RQ(hE:E.OK){t e:Nat}{x i:Operand}{ti ei:bu}(bX:E.T[t]?=some ti)(bV:E.T[e]?=some ei)(hk:ti.k=.slice e){b g:Nat}{ts:Nat × Nat}{l:List DV}(hb:h[b]?=some (.arr g ts l))(jb:ts.2=ei.size){j:IntKind}{n:Int}(hx:bh E.G s x (.own b g))(hi:bh E.G s i (.d (.int j n)))(h0:0<=n)(h1:n<l.length) :
  bz E (.indexAddr t x i) s h (.cX b g n.toNat 0) h := .quiet fun o c ac e1 e2 h3 h4=>by
 subst e2;rcases kW hb (hx c ac h3 h4)with⟨blk,cap,q1,q2⟩|⟨rfl,-,-⟩
 ·refine⟨_,yX e1 (v := .pointer (some ⟨blk,0+n.toNat*ei.size,none⟩)) ?_,?_⟩
  ·rw[q2,ef (hi c ac h3 h4)];exact EU (hE.types t ti bX) (hE.types e ei bV) hk h0 h1
  ·have:=VR.cX (c:=c) b g n.toNat 0 ts l blk cap hb q1 (by omega);rw[jb]at this
   simpa using this
 ·simp at h1;omega
theorem RR(hE:E.OK){t e len:Nat}{x i:Operand}{ti ei:bu}(bX:E.T[t]?=some ti)(bV:E.T[e]?=some ei)(hk:ti.k=.array len e){cs:List DV}{j:IntKind}{n:Int}(hx:bh E.G s x (.bQ (.agg cs) 0))(hi:bh E.G s i (.d (.int j n))){y:DV}(h0:0<=n)(h1:n<len)(cS:0<ei.size)(hy:(cs.drop (n.toNat*ei.size)).take ei.size=y.cells)(hs:y.cells.length=ei.size) :
  bz E (.indexAddr t x i) s h (.bQ y 0) h := .quiet fun o c ac e1 _ h3 h4=>by
 obtain⟨mz,d,g1,g2,g3,-⟩:=cC (hE.types t ti bX);obtain rfl:=wI (hk.symm.trans g3);have key:∀ p,VR c (.bQ (.agg cs) 0) p->∃ blk o',p=.pointer (some ⟨blk,o',none⟩)/\VR c (.bQ y 0) (.pointer (some ⟨blk,o'+n.toNat*ei.size,none⟩)):=fun p hp=>by
  cases hp with
  |bQ _ _ blk o' f k1 k2 k3 k4 =>
   have dE:∀ (jj:Nat) (z:DV),y.cells[jj]?=some z->cs[n.toNat*ei.size+jj]?=some z:=fun jj z hz=>by
    rw[<- hy,aek]at hz;split at hz
    ·simpa using hz
    ·cases hz
   exact⟨blk,o'+0,rfl,VR.bQ y 0 blk (o'+0+n.toNat*ei.size) (fun jj=>f (n.toNat*ei.size+jj)) k1 (fun hh=>by rw[hh]at hs;simp at hs;omega) (fun jj z hz=>by rw[aew,ad7];exact k3 _ z (dE jj z hz)) (fun jj z hz=>k4 _ z (dE jj z hz))⟩
 obtain⟨blk,o',q1,q2⟩:=key _ (hx c ac h3 h4);refine⟨_,yX e1 ?_,q2⟩;rw[q1,ef (hi c ac h3 h4)];simp only[Instr.indexAt,asIntOf,adT,adS,adU,run_underlying g2,Instr.sureAddr,h0,h1,and_self,if_true,run_sizeOf (hE.types e ei bV),na]
theorem RS(hE:E.OK){t:Nat}{x i:Operand}{ti:bu}(bX:E.T[t]?=some ti)(hk:ti.k=.string){l:List UInt8}{j:IntKind}{n:Int}(hx:bh E.G s x (.d (.str l)))(hi:bh E.G s i (.d (.int j n))){b:UInt8}(h0:0<=n)(hb:l[n.toNat]?=some b) :
  bz E (.index t x i) s h (.d (.int .u8 b.toNat)) h := .quiet fun o c ac e1 _ h3 h4=>by
 obtain⟨mz,d,g1,g2,g3,-⟩:=cC (hE.types t ti bX);obtain rfl:=ss (hk.symm.trans g3);have ah:=aX hb;have dE:(ByteArray.mk l.toArray)[n.toNat]?=some b:=by
  have hs:n.toNat<(ByteArray.mk l.toArray).size:=by simpa [ByteArray.size]using ah
  rw[getElem?_pos (ByteArray.mk l.toArray) n.toNat hs];have:=afo ah;rw[hb]at this
  simpa [ByteArray.getElem_eq_getElem_data]using this.symm
 refine⟨.int .u8 b.toNat,?_,.d _ _ (.int _ _)⟩;simp only[execOp,e1,pE (hx c ac h3 h4),ef (hi c ac h3 h4),Instr.index,asIntOf,adT,adS,adU,run_underlying g2,h0,if_true,dE]
def yY(G:List (Nat × DV))(s:List AV)(x:Option Operand)(n:Option Int):Prop:=∀ (c:Cx) (a:Act),aM G c->VS c s a.tmps->match n with
 |none=>x.map a.eval=none
 |some n=>∃ j,x.map a.eval=some (.int j n)
theorem JV{x:Option Operand}{stop:Prop}{k:Option Int->Prop}(H:BK E.G s x stop k):stop\/∃ n,yY E.G s x n/\k n:=by
 unfold BK at H;split at H
 ·exact .inr ⟨none,fun _ _ _ _=>rfl,H⟩
 ·rcases cu H with h|⟨v,hv,H⟩
  ·exact .inl h
  split at H
  ·rename_i j n;refine .inr ⟨some n,fun c a h1 h2=>?_,H⟩;show ∃ j,_=some (Value.int j n);exact⟨j,by simp[ef (hv c a h1 h2)]⟩
  ·exact .inl H
theorem EV{P:Program}{w:World}{isSlice:Bool}{len cap:Nat}{lo hi:Option Value}{l u:Option Int}(hl:match l with|none=>lo=none|some n=>∃ j,lo=some (.int j n))(hu:match u with|none=>hi=none|some n=>∃ j,hi=some (.int j n))
  (h0:0<=l.getD 0) (h1:l.getD 0<=u.getD len) (h2:u.getD len<=len) (hc:len<=cap) :
  (Instr.sliceBounds isSlice len cap lo hi none).run P w=.ok ((l.getD 0).toNat,(u.getD len).toNat,cap) w:=by
 cases l with
 |none =>
  simp only at hl;subst hl;cases u with
  |none =>
   simp only at hu;subst hu;simp only[Instr.sliceBounds,adT,adS,adU,afq,afr,afB]
  |some n =>
   obtain⟨j,rfl⟩:=hu;simp only[aeB,afq]at h1 h2;simp only[Instr.sliceBounds,adT,adS,adU,afq,aeB,afB,run_sliceBound w j n cap _ h1 (by omega)]
 |some m =>
  obtain⟨i,rfl⟩:=hl;cases u with
  |none =>
   simp only at hu;subst hu;simp only[aeB,afq]at h0 h1;simp only[Instr.sliceBounds,adT,adS,adU,afq,aeB,afr,run_sliceBound w i m len _ h0 h1]
  |some n =>
   obtain⟨j,rfl⟩:=hu;simp only[aeB]at h0 h1 h2;simp only[Instr.sliceBounds,adT,adS,adU,aeB,run_sliceBound w j n cap _ (by omega) (by omega),run_sliceBound w i m n.toNat _ h0 (by omega)]
theorem RT(l:List UInt8)(a b:Nat):(ByteArray.mk l.toArray).extract a b=ByteArray.mk ((l.take b).drop a).toArray:=by
 apply ByteArray.ext;simp[List.extract_eq_take_drop,List.drop_take]
theorem RU(hE:E.OK){t:Nat}{x:Operand}{lo hi:Option Operand}{ti:bu}(bX:E.T[t]?=some ti)(hk:ti.k=.string){z:List UInt8}{l u:Option Int}(hx:bh E.G s x (.d (.str z)))(hl:yY E.G s lo l)(hu:yY E.G s hi u)
  (h0:0<=l.getD 0) (h1:l.getD 0<=u.getD z.length) (h2:u.getD z.length<=z.length):bz E (.slice t x lo hi none) s h (.d (.str ((z.take (u.getD z.length).toNat).drop (l.getD 0).toNat))) h := .quiet fun o c ac e1 _ h3 h4=>by
 obtain⟨mz,d,g1,g2,g3,-⟩:=cC (hE.types t ti bX);obtain rfl:=ss (hk.symm.trans g3);have bR:(ByteArray.mk z.toArray).size=z.length:=by simp[ByteArray.size]
 have hb:=EV (P:=E.P) (w:=c.w) (isSlice:=false) (len:=z.length) (cap:=z.length) (hl c ac h3 h4) (hu c ac h3 h4) h0 h1 h2 (aed _);refine⟨_,?_,.d _ _ (.str _)⟩;simp only[execOp,e1,pE (hx c ac h3 h4),Instr.sliceAt,Instr.slice,adT,adS,adU,run_underlying g2,afs,Option.isSome_none,aet,if_false,bR,hb,RT]
theorem JW{bad:Nat->Prop}{w:World}{z:List DV}{v:Value}(hv:VD bad w (.sl z) v){lo hi sz:Nat}(h1:lo<=hi)(h2:hi<=z.length)(bR:∀ e∈z,e.cells.length=sz):∃ a cap,v=.slice a z.length cap/\z.length<=cap/\VD bad w (.sl ((z.take hi).drop lo)) (.slice (if cap=lo then a else a.map (·.add (lo*sz))) (hi-lo) (cap-lo)):=by
 have hlen:((z.take hi).drop lo).length=hi-lo:=by simp;omega
 cases hv with
 |slnil =>
  simp at h2;subst h2;simp at h1;subst h1;exact⟨none,0,rfl,aed _,by simpa using VD.slnil⟩
 |jX a =>
  simp at h2;subst h2;simp at h1;subst h1;exact⟨some a,0,rfl,aed _,by simpa using VD.jX a⟩
 |sl _ blk off cap dk f hb BH jB oV dO bG bZ =>
  refine⟨some ⟨blk,off,none⟩,cap,rfl,jB,?_⟩;by_cases hc:cap=lo
  ·have:hi=lo:=by omega
   subst this;have e:(z.take hi).drop hi=[]:=by simp
   rw[e,if_pos hc,Nat.sub_self];exact .sl [] blk off (cap-hi) dk f (fun h=>absurd rfl h) BH (afv _) (fun i e he=>by simp at he) (fun i j e x he=>by simp at he) (fun i j e x he=>by simp at he) (fun i j e x he=>by simp at he)
  ·rw[if_neg hc,<- hlen];simp only[aeT,na];have dE:∀ (i:Nat) (e:DV),((z.take hi).drop lo)[i]?=some e->z[lo+i]?=some e:=fun i e he=>by
    simp only[afw,aek]at he;split at he
    ·exact he
    ·cases he
   by_cases aJ:(z.take hi).drop lo=[]
   ·rw[aJ];exact .sl [] blk _ (cap-lo) dk f (fun h=>absurd rfl h) BH (afv _) (fun i e he=>by simp at he) (fun i j e x he=>by simp at he) (fun i j e x he=>by simp at he) (fun i j e x he=>by simp at he)
   ·obtain⟨e0,r,hr⟩:=aeo aJ;have EW:=dE 0 e0 (by rw[hr];rfl);have oa:dk=sz:=(oV _ _ EW).symm.trans (bR e0 (afh EW));subst oa;refine .sl _ blk (off+lo*dk) (cap-lo) dk (fun i j=>f (lo+i) j) (fun _=>hb (fun h=>by subst h;simp at EW)) BH (by rw[hlen];omega) (fun i e he=>oV _ _ (dE i e he)) (fun i j e x he hx=>?_) (fun i j e x he hx=>bG _ _ _ _ (dE i e he) hx) (fun i j e x he hx=>bZ _ _ _ _ (dE i e he) hx);have:=dO _ _ _ _ (dE i e he) hx;rw[aec]at this;rw[show off+lo*dk+(i*dk+j)=off+(lo*dk+i*dk+j) by omega];exact this
theorem RV(hE:E.OK){t e:Nat}{x:Operand}{lo hi:Option Operand}{ti ei:bu}(bX:E.T[t]?=some ti)(bV:E.T[e]?=some ei)(hk:ti.k=.slice e){z:List DV}{l u:Option Int}(hx:bh E.G s x (.d (.sl z)))(hl:yY E.G s lo l)(hu:yY E.G s hi u)
  (h0:0<=l.getD 0) (h1:l.getD 0<=u.getD z.length) (h2:u.getD z.length<=z.length) (bR:∀ e∈z,e.cells.length=ei.size):bz E (.slice t x lo hi none) s h (.d (.sl ((z.take (u.getD z.length).toNat).drop (l.getD 0).toNat))) h := .quiet fun o c ac e1 _ h3 h4=>by
 obtain⟨mz,d,g1,g2,g3,-⟩:=cC (hE.types t ti bX);obtain rfl:=lF (hk.symm.trans g3);have hv:=hx c ac h3 h4;generalize EX:ac.eval x=v at hv;cases hv with
 |d _ _ hv =>
  obtain⟨a,cap,rfl,jB,hd⟩:=JW hv (lo:=(l.getD 0).toNat) (hi:=(u.getD z.length).toNat) (by omega) (by omega) bR;have hb:=EV (P:=E.P) (w:=c.w) (isSlice:=true) (len:=z.length) (cap:=cap) (hl c ac h3 h4) (hu c ac h3 h4) h0 h1 h2 jB;refine⟨_,?_,.d _ _ hd⟩;simp only[execOp,e1,EX,Instr.sliceAt,Instr.slice,adT,adS,adU,run_underlying g2,afs,hb,run_sizeOf (hE.types e ei bV)]
theorem aM.elem{G:List (Nat × DV)}(ho:aM G c){b g:Nat}{ts:Nat × Nat}{l:List DV}(hb:c.heap[b]?=some (.arr g ts l)){blk cap:Nat}(bH:c.own b=some (blk,cap)){i:Nat}{e:DV}(he:l[i]?=some e) :
  ∃ (vs:Array Value) (us:List Value),c.w.heap[blk]?=some (.cells vs ts.1 (0,0))/\us.length=ts.2/\Bu c.w blk (i*ts.2) us/\VL c (e.cells.map .d) us/\i*ts.2+ts.2<=vs.size:=by
 obtain⟨q0,q1,q2⟩:=ho.box b _ hb;rcases q2 with⟨q2,-⟩|⟨iX,gZ,vs,q2,q3,q4,q5,q6,q7⟩
 ·rw[bH]at q2;cases q2
 ·rw[bH]at q2;cases q2;have hlen:=q1 i e he;have hi:=aX he;have iJ:i*ts.2+ts.2<=vs.size:=by
   rw[q4]
   calc i*ts.2+ts.2=(i+1)*ts.2:=by rw[aec,aez]
    _<=cap*ts.2:=afg _ (by omega)
  refine⟨vs,(vs.toList.drop (i*ts.2)).take ts.2,q3,by simp;omega,fun j v hv=>?_,.ug (by simp[hlen];omega) (fun j x v hx hv=>?_),iJ⟩
  ·rw[aek]at hv;split at hv
   ·rw[afw]at hv;have:=mf q3 (i*ts.2+j) v hv
    simpa using this
   ·cases hv
  ·obtain⟨u,k1,-,k2⟩:=q7 i j e x he hx;rw[aek]at hv;split at hv
   ·rw[afw]at hv;have:vs[i*ts.2+j]?=some v:=by simpa using hv
    rw[k1]at this;cases this;exact k2
   ·cases hv
theorem JX(hE:E.OK){t:Nat}{x:Operand}{ti:bu}(bX:E.T[t]?=some ti){b g i off:Nat}{ts:Nat × Nat}{l:List DV}(hb:h[b]?=some (.arr g ts l))(hx:bh E.G s x (.cX b g i off)){e:DV}(he:l[i]?=some e){stop:Prop}{k:AV->Prop}{cs:List AV}(dP:cs=e.cells.map .d)(H:lE ti cs off stop k) :
  stop\/∃ v,k v/\bz E (.load t x) s h v h:=by
 rcases Bv H with h1|⟨v,hk,hp⟩
 ·exact .inl h1
 refine .inr ⟨v,hk,.quiet fun o c ac h1 h2 h3 h4=>?_⟩;subst h2;obtain⟨blk,cap,q1,q2,q3⟩:=JU hb (hx c ac h3 h4);obtain⟨vs,us,r1,r2,r3,r4,r5⟩:=h3.elem hb q1 he;obtain⟨u,hu,qA⟩:=hp E.P t c blk (i*ts.2) us (hE.types t ti bX) (by rw[dP];exact r4) r3;refine⟨u,?_,qA⟩;simp only[execOp,h1,q2,adT,hu,adU,adS]
theorem aM.RW{G:List (Nat × DV)}(ho:aM G c){b g blk cap:Nat}{ts:Nat × Nat}{l:List DV}{vs:Array Value}(hb:c.heap[b]?=some (.arr g ts l))(bH:c.own b=some (blk,cap))(hblk:c.w.heap[blk]?=some (.cells vs ts.1 (0,0)))
  {i off:Nat} {e e':DV} (he:l[i]?=some e) (hs:e'.cells.length=ts.2) {us:List Value} (iJ:off+us.length<=ts.2) (bZ:∀ u∈us,u.oneCell'=true)
  (hv:∀ (j:Nat) (x:DV),e'.cells[j]?=some x->(off<=j/\∃ v,us[j-off]?=some v/\VD c.bad c.w x v)\/((j<off\/off+us.length<=j)/\e.cells[j]?=some x)) :
  let c':Cx:={ c with heap:=c.heap.set b (.arr g ts (l.set i e')),w:=c.w.setCells blk (i*ts.2+off) us }
  aM G c'/\Step c c':=by
 intro c';obtain⟨e1,e2,e3,e4⟩:=Bw blk us (i*ts.2+off) c.w;have eS:b<c.heap.length:=(ho.bB b blk cap bH).2
 have bg:Step c c':={
  aE:=rfl
  bS:=ho.bS
  os:=e1
  tape:=e2
  output:=e3
  size:=aeW e4.symm
  keep:=fun x _ hn=>wF blk us _ c.w x (fun e=>hn b cap (by rw[e];exact bH))
  dB:=fun i x n hi _=>⟨n,hi⟩
  boxes:=fun k bx hk=>by
   by_cases qL:k=b
   ·subst qL;rw[hb]at hk;cases hk;exact .inl ⟨g,l.set i e',by show(c.heap.set k _)[k]?=_;rw[aei eS],.inr ⟨rfl,by simp,rfl⟩⟩
   ·have h':c'.heap[k]?=some bx:=by show(c.heap.set b _)[k]?=_;rw[aej (Ne.symm qL)];exact hk
    cases bx with
    |cells cs=>exact .inl ⟨cs,h',rfl,rfl⟩
    |arr g sz l=>exact .inl ⟨g,l,h',.inr ⟨rfl,rfl,rfl⟩⟩
    |map es=>exact .inl ⟨es,h',rfl⟩
    |gone=>exact h'
    |hole=>exact⟨_,h'⟩ }
 refine⟨ho.next bg (fun k x n hk=>⟨by show x<(c.w.setCells blk _ us).heap.size;rw[e4];exact(ho.bB k x n hk).1,by show k<(c.heap.set b _).length;rw[aeX];exact(ho.bB k x n hk).2⟩) ho.inj (fun k bx hk=>?_),bg⟩;by_cases qL:k=b
 ·subst qL;have kh:(c.heap.set k (.arr g ts (l.set i e')))[k]?=some bx:=hk;rw[aei eS]at kh;cases kh;right;obtain⟨q0,q1,q2⟩:=ho.box k _ hb;rcases q2 with⟨q2,-⟩|⟨iX,gZ,vs',q2,q3,q4,q5,q6,q7⟩
  ·rw[bH]at q2;cases q2
  ·rw[bH]at q2;cases q2;rw[hblk]at q3;cases q3;have ga:=aX he;have EY:iM ts.2 (l.set i e'):=iM.set q1 i hs;refine⟨q0,EY,.inr ⟨blk,cap,(dy vs.toList (i*ts.2+off) us).toArray,bH,Bx blk ts.1 (0,0) us _ c.w vs hblk,by simp[yF,q4],by simpa using q5,q6,fun i' j e2 x h2 hx=>?_⟩⟩;have hj:j<ts.2:=by rw[<- EY i' e2 h2];exact aX hx
   have dE:∀ (p:Nat),(dy vs.toList (i*ts.2+off) us)[p]?=if i*ts.2+off<=p/\p<i*ts.2+off+us.length/\p<vs.size then us[p-(i*ts.2+off)]? else vs[p]? := by
    intro p;have gen:∀ (us:List Value) (o:Nat) (q:List Value),(dy q o us)[p]?=if o<=p/\p<o+us.length/\p<q.length then us[p-o]? else q[p]? := by
     intro us
     induction us with
     |nil=>intro o q;rw[if_neg (by simp;omega)];rfl
     |cons u us ih =>
      intro o q;rw[dy,ih];by_cases hp:o=p
      ·subst hp;rw[if_neg (by omega)];by_cases hq:o<q.length
       ·rw[if_pos (by simp;omega),aei hq];simp
       ·rw[if_neg (by omega),adW (by simp;omega),adW (by omega)]
      ·by_cases hc:o+1<=p/\p<o+1+us.length/\p<q.length
       ·rw[if_pos (by simpa using hc),if_pos (by simp;omega)];rw[show p-o=(p-(o+1))+1 by omega];simp
       ·rw[if_neg (by simpa using hc),if_neg (by simp;omega),aej hp]
    have:=gen us (i*ts.2+off) vs.toList
    simpa using this
   have ac7:i*ts.2+ts.2<=vs.size:=by
    rw[q4]
    calc i*ts.2+ts.2=(i+1)*ts.2:=by rw[aec,aez]
     _<=cap*ts.2:=afg _ (by omega)
   show ∃ v,(dy vs.toList (i*ts.2+off) us).toArray[i'*ts.2+j]?=some v/\_;rw[List.getElem?_toArray,dE];by_cases EZ:i'=i
   ·subst EZ;rw[aei ga]at h2;cases h2;rcases hv j x hx with⟨k1,v,k2,k3⟩|⟨k1,k2⟩
    ·have:=aX k2;rw[if_pos (by omega)];exact⟨v,by rw[show i'*ts.2+j-(i'*ts.2+off)=j-off by omega];exact k2,bZ v (afh k2),bg.vd k3⟩
    ·rw[if_neg (by omega)];obtain⟨v,r1,r2,r3⟩:=q7 i' j e x he k2;exact⟨v,r1,r2,bg.vd r3⟩
   ·rw[aej (Ne.symm EZ)]at h2;obtain⟨v,r1,r2,r3⟩:=q7 i' j e2 x h2 hx;rw[if_neg ?_]
    ·exact⟨v,r1,r2,bg.vd r3⟩
    ·rintro⟨k1,k2,-⟩;rcases Nat.lt_or_gt_of_ne EZ with ah|uz
     ·have:(i'+1)*ts.2<=i*ts.2:=afg _ ah;rw[aec,aez]at this;omega
     ·have:(i+1)*ts.2<=i'*ts.2:=afg _ uz;rw[aec,aez]at this;omega
 ·left;have kh:(c.heap.set b (.arr g ts (l.set i e')))[k]?=some bx:=hk;rw[aej (Ne.symm qL)]at kh;exact⟨kh,rfl,fun x n hn=>wF blk us _ c.w x (fun e=>qL (ho.inj k b blk n cap (by rw[<- e];exact hn) bH))⟩
theorem RX{β:Type}(us:List β)(o:Nat)(q:List β)(p:Nat):(dy q o us)[p]?=if o<=p/\p<o+us.length/\p<q.length then us[p-o]? else q[p]? := by
 induction us generalizing o q with
 |nil=>rw[if_neg (by simp;omega)];rfl
 |cons u us ih =>
  rw[dy,ih];by_cases hp:o=p
  ·subst hp;rw[if_neg (by omega)];by_cases hq:o<q.length
   ·rw[if_pos (by simp;omega),aei hq];simp
   ·rw[if_neg (by omega),adW (by simp;omega),adW (by omega)]
  ·by_cases hc:o+1<=p/\p<o+1+us.length/\p<q.length
   ·rw[if_pos (by simpa using hc),if_pos (by simp;omega)];rw[show p-o=(p-(o+1))+1 by omega];simp
   ·rw[if_neg (by simpa using hc),if_neg (by simp;omega),aej hp]
theorem JY{e:DV}(h:e.fm=true):e.cells=[e]:=by cases e<;>first|rfl|cases h
def E0(e:DV)(off:Nat)(ds:List DV)(e':DV):Prop:=e'.cells.length=e.cells.length/\off+ds.length<=e.cells.length /\
 ∀ (j:Nat) (x:DV),e'.cells[j]?=some x->(off<=j/\ds[j-off]?=some x)\/((j<off\/off+ds.length<=j)/\e.cells[j]?=some x)
theorem RY{e:DV}{off:Nat}{ds:List DV}{stop:Prop}{k:DV->Prop}(H:BL e off ds stop k):stop\/∃ e',k e'/\E0 e off ds e':=by
 unfold BL at H;split at H
 ·rename_i cs;split at H
  ·rename_i q;rw[Eg]at H;have hq:=ad3 q;refine .inr ⟨.agg (dy cs off ds),H,by simp[DV.cells,yF],hq,fun j x hx=>?_⟩;simp only[DV.cells]at hx;rw[RX]at hx;split at hx
   ·rename_i hc;exact .inl ⟨hc.1,hx⟩
   ·rename_i hc;refine .inr ⟨?_,hx⟩;have hj:=aX hx;omega
  ·exact .inl H
 ·rename_i qB;split at H
  ·rename_i d;split at H
   ·rename_i hd;have kb:e.cells=[e]:=by cases e<;>first|rfl|exact absurd rfl (qB _)
    refine .inr ⟨d,H,by rw[kb,JY hd];rfl,by rw[kb];simp,fun j x hx => .inl ⟨afv _,by rw[JY hd]at hx;simpa using hx⟩⟩
   ·exact .inl H
  ·exact .inl H
theorem RZ{e:DV}{off:Nat}{vs:List AV}{stop:Prop}{k:DV->Prop}(H:ET e off vs stop k):stop\/∃ (ds:List DV) (e':DV),vs=ds.map .d/\k e'/\E0 e off ds e':=by
 unfold ET at H;rcases yB vs stop (fun ds=>BL e off ds stop k)with⟨ds,h1,h2⟩|h2
 ·rw[h2]at H;rcases RY H with h|⟨e',h3,h4⟩
  ·exact .inl h
  ·exact .inr ⟨ds,e',h1,h3,h4⟩
 ·rw[h2]at H;exact .inl H
theorem R0(hE:E.OK){t:Nat}{x y:Operand}{ti:bu}(bX:E.T[t]?=some ti){b g i off:Nat}{ts:Nat × Nat}{l:List DV}(hb:h[b]?=some (.arr g ts l))(hx:bh E.G s x (.cX b g i off)){v:AV}(hy:bh E.G s y v){ds:List DV}(hv:Ep v (ds.map .d))(bR:ds.length=ti.size)(R2:(ds.map AV.d).all AV.fm=true)
  {e e':DV} (he:l[i]?=some e) (mg:e.cells.length=ts.2) (hp:E0 e off ds e'):bz E (.store t x y) s h (.d .undef) (h.set b (.arr g ts (l.set i e'))):=fun o c ac h1 h2 h3 h4=>by
 subst h2;obtain⟨blk,cap,q1,q2,q3⟩:=JU hb (hx c ac h3 h4);obtain⟨vs,us0,r1,r2,r3,r4,r5⟩:=h3.elem hb q1 he;obtain⟨us,uh,kR⟩:=hv c _ (hy c ac h3 h4);have hlen:us.length=ds.length:=by rw[<- kR.1];simp
 obtain⟨p1,p2,p3⟩:=hp;have bZ:∀ u∈us,u.oneCell'=true:=fun u hu=>by
  obtain⟨j,hj,rfl⟩:=List.getElem_of_mem hu;have oU:j<(ds.map AV.d).length:=by rw[kR.1];exact hj
  exact Eo (kR.2 j _ us[j] (afo oU) (by simp[hj])) (ad'.1 R2 _ (aeZ oU))
 have cK:=Jo (P:=E.P) (w:=c.w) (b:=blk) (o:=i*ts.2+off) (hE.types t ti bX) uh (by omega) r1 (by omega) bZ
 obtain⟨w1,w2⟩:=h3.RW (i:=i) (off:=off) (e':=e') (us:=us) hb q1 r1 he (by omega) (by omega) bZ (fun j x hx=>by
  rcases p3 j x hx with⟨k1,k2⟩|⟨k1,k2⟩
  ·have ah:=aX k2;exact .inl ⟨k1,us[j-off]'(by omega),by simp[show j-off<us.length by omega],kR.pF (j-off) x _ k2 (by simp[show j-off<us.length by omega])⟩
  ·exact .inr ⟨by omega,k2⟩)
 refine⟨_,Go.undef,.inr ⟨?_,rfl⟩,rfl,w1,.d _ _ .undef,w2⟩;simp only[execOp,h1,q2,adT,cK,adU,adS]
theorem R3(hE:E.OK){o:Op}{stop:Prop}{k:AV->List af->Prop}(H:qK E.T E.G o s h stop k):stop\/∃ v h',k v h'/\bz E o s h v h':=by
 unfold qK at H;split at H
 ·
  rcases bp H with h|⟨ti,bX,H⟩
  ·exact .inl h
  rcases cu H with h|⟨a,ha,H⟩
  ·exact .inl h
  rcases cu H with h|⟨b,hb,H⟩
  ·exact .inl h
  split at H
  ·split at H
   ·rename_i e hk;rcases bp H with h|⟨ei,bV,H⟩
    ·exact .inl h
    split at H
    ·split at H
     ·rename_i q;obtain⟨y,h0,h1,h2,H⟩:=ES H;exact .inr ⟨_,_,H,RP hE bX bV hk ha hb (iO q) h0 h1 h2⟩
     ·exact .inl H
    ·rcases bp H with h|⟨bx,iY,H⟩
     ·exact .inl h
     split at H
     ·split at H
      ·rename_i q1 q2;have:=adX q1;subst this;obtain⟨⟨h0,h1⟩,H⟩:=ng H;exact .inr ⟨_,_,H,RQ hE bX bV hk iY (adX q2) ha hb h0 h1⟩
      ·exact .inl H
     ·exact .inl H
    ·exact .inl H
   ·rename_i len e hk;rcases bp H with h|⟨ei,bV,H⟩
    ·exact .inl h
    split at H
    ·obtain⟨y,h0,h1,h2,h3,h4,H⟩:=RN H;exact .inr ⟨_,_,H,RR hE bX bV hk ha hb h0 h1 h2 h3 h4⟩
    ·exact .inl H
   ·exact .inl H
  ·exact .inl H
 ·
  rcases bp H with h|⟨ti,bX,H⟩
  ·exact .inl h
  rcases cu H with h|⟨a,ha,H⟩
  ·exact .inl h
  rcases cu H with h|⟨b,hb,H⟩
  ·exact .inl h
  split at H
  ·split at H
   ·have hk:ti.k=.string:=by assumption
    obtain⟨y,h0,h1,H⟩:=RL H;exact .inr ⟨_,_,H,RS hE bX hk ha hb h0 h1⟩
   ·exact .inl H
  ·exact .inl H
 ·
  rcases bp H with h|⟨ti,bX,H⟩
  ·exact .inl h
  rcases cu H with h|⟨a,ha,H⟩
  ·exact .inl h
  rcases JV H with h|⟨l,hl,H⟩
  ·exact .inl h
  rcases JV H with h|⟨u,hu,H⟩
  ·exact .inl h
  split at H
  ·have hk:ti.k=.string:=by assumption
   obtain⟨⟨h0,h1,h2⟩,H⟩:=ng H;exact .inr ⟨_,_,H,RU hE bX hk ha hl hu h0 h1 h2⟩
  ·rcases bp H with h|⟨ei,bV,H⟩
   ·exact .inl h
   obtain⟨⟨h0,h1,h2,h3⟩,H⟩:=ng H;exact .inr ⟨_,_,H,RV hE bX bV (by assumption) ha hl hu h0 h1 h2 h3⟩
  ·exact .inl H
 ·
  rcases bp H with h|⟨ti,bX,H⟩
  ·exact .inl h
  rcases cu H with h|⟨a,ha,H⟩
  ·exact .inl h
  split at H
  ·rcases bp H with h|⟨bx,iY,H⟩
   ·exact .inl h
   split at H
   ·split at H
    ·rename_i q;have:=adX q;subst this;obtain⟨e,h0,h1,h2,H⟩:=ES H;rw[afr]at h1;split at H
     ·rw[ub]at H;rcases JX hE bX iY ha h1 rfl H with h|⟨v,H,hv⟩
      ·exact .inl h
      ·exact .inr ⟨_,_,H,hv⟩
     ·rename_i qB;rcases JX hE bX iY ha h1 (by cases e<;>first|rfl|exact absurd rfl (qB _)) H with h|⟨v,H,hv⟩
      ·exact .inl h
      ·exact .inr ⟨_,_,H,hv⟩
    ·exact .inl H
   ·exact .inl H
  ·exact .inl H
 ·
  rcases bp H with h|⟨ti,bX,H⟩
  ·exact .inl h
  rcases cu H with h|⟨v,hv,H⟩
  ·exact .inl h
  rcases cu H with h|⟨a,ha,H⟩
  ·exact .inl h
  split at H
  ·rcases bp H with h|⟨bx,iY,H⟩
   ·exact .inl h
   split at H
   ·split at H
    ·rename_i q;have:=adX q;subst this;rcases Bs H with h|⟨vs,eT,H⟩
     ·exact .inl h
     split at H
     ·rename_i q1 q2;obtain⟨e,h0,h1,h2,H⟩:=ES H;rw[afr]at h1;rcases RZ H with h|⟨ds,e',rfl,H,hp⟩
      ·exact .inl h
      rw[gF]at H;exact .inr ⟨_,_,H,R0 hE bX iY ha hv eT (by have:=adX q1;simpa using this) q2 h1 h2 hp⟩
     ·exact .inl H
    ·exact .inl H
   ·exact .inl H
  ·exact .inl H
 ·exact JT hE H
end
end Go.aA
end
section
namespace Go.aA
open Go Go.RowKit
def BM(op:BinOp)(j:IntKind)(a b:Int):Int :=
 let x:=BitVec.ofInt j.bits a
 let y:=BitVec.ofInt j.bits b
 match op with
 | .and=>j.wrap (x &&& y).toNat
 | .or=>j.wrap (x ||| y).toNat
 | .xor=>j.wrap (x ^^^ y).toNat
 |_=>j.wrap (x &&& ~~~y).toNat
def lJ(op:BinOp)(j:IntKind)(a:Int)(n:Nat):Int:=match op with
 | .shl=>j.wrap (a*2 ^ min n j.bits)
 |_=>a.fdiv (2 ^ min n j.bits)
def JZ:BinOp->Bool
 | .and | .or | .xor | .andNot=>true
 |_=>false
def J0:BinOp->Bool
 | .shl | .shr=>true
 |_=>false
def J1:BinOp->Bool
 | .quo | .rem=>true
 |_=>false
def E2(op:BinOp)(j:IntKind)(a b:Int):Int:=match op with
 | .quo=>j.wrap (a.tdiv b)
 |_=>a.tmod b
def yZ(d:Nat):List Nat->Bool
 |[]=>false
 |a::l=>match adY a d with
  |true=>true
  |false=>yZ d l
theorem y0{a b:Nat}(h:adZ a b=true):a<b:=ad3 h
theorem BN{d:Nat}:∀ {l:List Nat},yZ d l=true->d∈l
 |[],h=>by cases h
 |a::l,h=>by
  unfold yZ at h;split at h
  ·rename_i q;rw[adX q];exact aeQ ..
  ·exact aeR _ (BN h)
section
variable {E:Env} {s:List AV} {h:List af} {c:Cx} {G:List (Nat × DV)}
theorem R4{op:BinOp}(cn:JZ op=true){t t':TypeId}{x y:Operand}{j:IntKind}{a b:Int}(hx:bh E.G s x (.d (.int j a)))(hy:bh E.G s y (.d (.int j b))):bz E (.binOp op t x y t') s h (.d (.int j (BM op j a b))) h :=
 .quiet fun o c ac h1 _ h3 h4=>by
  have e1:=ef (hx c ac h3 h4);have e2:=ef (hy c ac h3 h4);refine⟨.int j (BM op j a b),qD h1 (by rw[e1,e2];exact wG ..) ?_,.d _ _ (.int _ _)⟩;rw[e1,e2];cases op<;>first|(simp only[binOp,ne_eq,not_true_eq_false,if_false,Op.intBits];rfl)|cases cn
theorem R5{op:BinOp}(cn:J0 op=true){t t':TypeId}{x y:Operand}{j j':IntKind}{a:Int}{b:Int}(hb:0<=b)(hx:bh E.G s x (.d (.int j a)))(hy:bh E.G s y (.d (.int j' b))):bz E (.binOp op t x y t') s h (.d (.int j (lJ op j a b.toNat))) h :=
 .quiet fun o c ac h1 _ h3 h4=>by
  have e1:=ef (hx c ac h3 h4);have e2:=ef (hy c ac h3 h4);refine⟨.int j (lJ op j a b.toNat),qD h1 (by rw[e1,e2];exact wG ..) ?_,.d _ _ (.int _ _)⟩;rw[e1,e2];have hn:¬ (b<0):=by omega
  cases op<;>first|(simp only[binOp,Op.shift,hn,if_false];rfl)|cases cn
def sH{α:Sort _}(kd:TK)(a b:DV)(stop:α)(k:Bool->α):α :=
 match kd,a,b with
 | .int _,.int j m,.int j' n=>match IntKind.same j j' with
  |true=>k (m==n)
  |false=>stop
 | .string,.str m,.str n=>k (m==n)
 | .bool,.bool m,.bool n=>k (m==n)
 |_,_,_=>stop
def oo{α:Sort _}(T:List bu):Nat->List (Nat × Nat)->List DV->List DV->(stop:α)->(Bool->α)->α
 |_,[],[],[],_,k=>k true
 |n,f::fs,a::l,b::m,stop,k=>match adY f.1 n with
  |true=>aZ T f.2 stop fun i=>sH i.k a b stop fun p=>oo T (n+1) fs l m stop fun q=>k (p&&q)
  |false=>stop
 |_,_,_,_,stop,_=>stop
theorem R6{kd:TK}{a b:DV}{stop:Prop}{k:Bool->Prop}(H:sH kd a b stop k):stop\/∃ p,k p:=by
 unfold sH at H;split at H
 ·split at H
  ·exact .inr ⟨_,H⟩
  ·exact .inl H
 ·exact .inr ⟨_,H⟩
 ·exact .inr ⟨_,H⟩
 ·exact .inl H
theorem J2{T:List bu}{stop:Prop}:∀ {n:Nat} {fs:List (Nat × Nat)} {l m:List DV} {k:Bool->Prop},oo T n fs l m stop k->stop\/∃ p,k p
 |_,[],[],[],_,H => .inr ⟨_,H⟩
 |_,[],[],_::_,_,H => .inl H
 |_,[],_::_,_,_,H => .inl H
 |_,_::_,[],_,_,H => .inl H
 |_,_::_,_::_,[],_,H => .inl H
 |n,f::fs,a::l,b::m,k,H=>by
  simp only[oo]at H;split at H
  ·rcases bp H with H|⟨i,-,H⟩
   ·exact .inl H
   rcases R6 H with H|⟨p,H⟩
   ·exact .inl H
   rcases J2 H with H|⟨q,H⟩
   ·exact .inl H
   ·exact .inr ⟨_,H⟩
  ·exact .inl H
theorem R7{P:Program}{ft:Nat}{i:bu}(ht:fe P ft=some i){a b:DV}{stop:Prop}{k:Bool->Prop}(H:sH i.k a b stop k):stop\/∃ p,k p/\i.k.agg=false /\
  ∀ (bad:Nat->Prop) (w w':World) (u v:Value) (d:Nat),VD bad w a u->VD bad w b v->(Op.equalIn (d+1) ft u v).run P w'=.ok p w':=by
 obtain⟨ti,td,g1,g2,g3,-⟩:=cC ht;unfold sH at H;split at H
 ·rename_i hk;split at H
  ·rename_i hs;obtain rfl:=sr hs;refine .inr ⟨_,H,by rw[hk];rfl,fun bad w w' u v d hu hv=>?_⟩;cases hu;cases hv;obtain rfl:=wH (hk.symm.trans g3);exact run_equalIn_int w' d ft _ _ _ _ g2
  ·exact .inl H
 ·rename_i hk;refine .inr ⟨_,H,by rw[hk];rfl,fun bad w w' u v d hu hv=>?_⟩;cases hu;cases hv;obtain rfl:=ss (hk.symm.trans g3);rw[run_equalIn_string w' d ft _ _ g2];simp
 ·rename_i hk;refine .inr ⟨_,H,by rw[hk];rfl,fun bad w w' u v d hu hv=>?_⟩;cases hu;cases hv;have:td=.bool:=by rw[hk]at g3;cases td<;>first|rfl|cases g3
  subst this;exact run_equalIn_bool' w' _ ft _ _ g2
 ·exact .inl H
theorem J3 {P : Program} {T : List bu} (hT : ∀ (t : Nat) (i : bu), T[t]? = some i -> fe P t = some i) {stop : Prop} : ∀ {n : Nat} {fl : List Field} {l m : List DV} {k : Bool -> Prop}, oo T n (fl.map fun f => (f.offset, f.type)) l m stop k -> (∀ f ∈ fl, f.name ≠ "_") -> stop \/ ∃ p, k p /\
  ∀ (bad:Nat->Prop) (w w':World) (xs ys:List Value) (d:Nat),(∀ (j:Nat) (x:DV),l[j]?=some x->∃ u,xs[n+j]?=some u/\VD bad w x u)->(∀ (j:Nat) (x:DV),m[j]?=some x->∃ u,ys[n+j]?=some u/\VD bad w x u)->(Op.eqFields (d+1) xs.toArray ys.toArray fl).run P w'=.ok p w':=by
 intro n fl
 induction fl generalizing n with
 |nil =>
  intro l m k H _;cases l with
  |nil=>cases m with
   |nil=>exact .inr ⟨true,H,fun bad w w' xs ys d _ _=>by simp only[Op.eqFields,adS]⟩
   |cons b m=>exact .inl H
  |cons a l=>exact .inl H
 |cons f fl ih =>
  intro l m k H hn;cases l with
  |nil=>exact .inl H
  |cons a l=>cases m with
   |nil=>exact .inl H
   |cons b m =>
    simp only[ad0,oo]at H;split at H
    ·rename_i q;have q:=adX q;rcases bp H with H|⟨i,hi,H⟩
     ·exact .inl H
     rcases R7 (hT _ i hi) H with H|⟨p,H,fT,hp⟩
     ·exact .inl H
     rcases ih H (fun g hg=>hn g (aeR _ hg))with H|⟨p',H,sq⟩
     ·exact .inl H
     refine .inr ⟨p&&p',H,fun bad w w' xs ys d hx hy=>?_⟩;obtain⟨u,u1,u2⟩:=hx 0 a rfl;obtain⟨v,v1,v2⟩:=hy 0 b rfl;rw[aew]at u1 v1;have BO:=hn f (aeQ ..);simp only[Op.eqFields,ne_eq,BO,not_false_eq_true,if_true,adT];rw[q,yG (hT _ i hi) w' xs n u u1 fT,adU,yG (hT _ i hi) w' ys n v v1 fT,adU,hp bad w w' u v d u2 v2,adU];cases p with
     |false=>simp
     |true =>
      simp only[Bool.not_true,aet,if_false,afC];exact sq bad w w' xs ys d (fun j x hj=>by rw[show n+1+j=n+(j+1) by omega];exact hx (j+1) x (by simpa using hj)) (fun j x hj=>by rw[show n+1+j=n+(j+1) by omega];exact hy (j+1) x (by simpa using hj))
    ·exact .inl H
theorem J4(hE:E.OK){op:BinOp}{t:Nat}{t':TypeId}{x y:Operand}{i:bu}(hi:E.T[t]?=some i)(hQ:t∈E.Q){fs:List (Nat × Nat)}(hk:i.k=.struct fs){l m:List DV}(hx:bh E.G s x (.d (.agg l)))(hy:bh E.G s y (.d (.agg m))){stop:Prop}{k:Bool->Prop}(H:oo E.T 0 fs l m stop k) :
  stop\/∃ p,k p/\(op=.eql->∀ h,bz E (.binOp op t x y t') s h (.d (.bool p)) h)/\(op=.neq->∀ h,bz E (.binOp op t x y t') s h (.d (.bool !p)) h):=by
 obtain⟨ti,d,g1,g2,g3,-⟩:=cC (hE.types t i hi);obtain⟨fl,rfl,rfl⟩:=qE (hk.symm.trans g3);have hq:=hE.eqs t hQ;simp only[Bm,g2,aft,afD,ad',bne_iff_ne,ne_eq]at hq;obtain⟨⟨q1,q2⟩,q3⟩:=hq;rcases J3 hE.types H q3 with h|⟨p,H,hp⟩
 ·exact .inl h
 have gQ:E.P.fieldsOf t=fl:=by simp[Program.fieldsOf,g2]
 have val:∀ (c:Cx) (ac:Act),aM E.G c->VS c s ac.tmps->∃ xs ys:List Value,ac.eval x=.agg xs.toArray/\ac.eval y=.agg ys.toArray/\(Op.equalIn 10000 t (.agg xs.toArray) (.agg ys.toArray)).run E.P c.w=.ok p c.w:=by
  intro c ac h3 h4;have eh:=hx c ac h3 h4;have gd:=hy c ac h3 h4;generalize ac.eval x=u at eh;generalize ac.eval y=v at gd;cases eh with
  |d _ _ eh=>cases eh with
   |agg _ xs x1 x2=>cases gd with
    |d _ _ gd=>cases gd with
     |agg _ ys y1 y2 =>
      refine⟨xs.toList,ys.toList,by simp,by simp,?_⟩;rw[run_equalIn_struct c.w 9999 t _ _ (by rw[gQ];exact g2) q1,gQ];refine hp c.bad c.w c.w xs.toList ys.toList 9998 (fun j z hz=>?_) (fun j z hz=>?_)
      ·have hj:=aX hz;rw[x1]at hj;exact⟨xs[j],by simp[hj],x2 j z _ hz (by simp[hj])⟩
      ·have hj:=aX hz;rw[y1]at hj;exact⟨ys[j],by simp[hj],y2 j z _ hz (by simp[hj])⟩
 have guard:∀ (op:BinOp) (xs ys:Array Value) (w:World),(eqGuard op t x y (.agg xs) (.agg ys)).run E.P w=.ok () w:=fun op xs ys w=>run_eqGuard_agg w op t x y xs ys q2;refine .inr ⟨p,H,fun e h=>?_,fun e h=>?_⟩
 ·subst e;refine .quiet fun o c ac h1 _ h3 h4=>⟨.bool p,?_,.d _ _ (.bool _)⟩;obtain⟨xs,ys,e1,e2,e3⟩:=val c ac h3 h4;simp only[execOp,h1,e1,e2,adT,guard,adU,run_eql_struct,e3,adS]
 ·subst e;refine .quiet fun o c ac h1 _ h3 h4=>⟨.bool !p,?_,.d _ _ (.bool _)⟩;obtain⟨xs,ys,e1,e2,e3⟩:=val c ac h3 h4;simp only[execOp,h1,e1,e2,adT,guard,adU,run_neq_struct,e3,adS]
theorem R8(hE:E.OK){t0 t e:Nat}{x:Operand}{i0 i ei:bu}(lG:E.T[t0]?=some i0)(hi:E.T[t]?=some i)(bV:E.T[e]?=some ei)(hk:i.k=.slice e)(E3:ei.k=.int .u8){l:List UInt8}(hx:bh E.G s x (.d (.str l))) :
  bz E (.convert t0 t x) s h (.d (.sl (l.map kV))) h:=fun o c ac h1 h2 h3 h4=>by
 obtain⟨By,d0,k1,k2,-⟩:=cC (hE.types t0 i0 lG);obtain⟨ti,d,g1,g2,g3,-⟩:=cC (hE.types t i hi);obtain rfl:=lF (hk.symm.trans g3);obtain⟨tie,de,q1,q2,q3,-⟩:=cC (hE.types e ei bV);obtain rfl:=wH (E3.symm.trans q3);have ex:=pE (hx c ac h3 h4);have cK:=Lib.run_convert_string_bytes (P:=E.P) c.w t0 t e ⟨l.toArray⟩ k2 g2 q2;have R9:Proofs.YtfmdaiojokniiaaGreatDoor.Ext c.w (Lib.bytesWorld c.w e ⟨l.toArray⟩):=⟨rfl,rfl,rfl,by rw[Lib.bytesWorld_size];omega,fun b hb=>Lib.bytesWorld_at_old c.w e _ b hb⟩;obtain⟨r1,r2⟩:=h3.grow R9;refine⟨c.eB (Lib.bytesWorld c.w e ⟨l.toArray⟩),_,.inl (by simp only[execOp,h1,ex,adT,cK,adU,adS];rfl),h2,r1,.d _ _ ?_,r2⟩;have bR:(ByteArray.mk l.toArray).size=(l.map kV).length:=by simp[ByteArray.size]
 rw[bR];have dO:∀ (j:Nat) (b:UInt8),l[j]?=some b->(Lib.bytesWorld c.w e ⟨l.toArray⟩).cell? ⟨c.w.heap.size,0+(j*1+0),none⟩=some (.int .u8 b.toNat):=fun j b hb=>by
  have hj:=aX hb;rw[show 0+(j*1+0)=j by omega,Lib.bytesWorld_cell c.w e _ j (by simp[ByteArray.size];exact hj)];simp[aem,hb]
 have key:∀ (i j:Nat) (a y:DV),(l.map kV)[i]?=some a->a.cells[j]?=some y->∃ b,l[i]?=some b/\j=0/\y=.int .u8 b.toNat:=fun i j a y ha hy=>by
  rw[ad1]at ha;cases hb:l[i]? with
  |none=>rw[hb]at ha;cases ha
  |some b =>
   rw[hb]at ha;cases ha;simp only[kV,DV.cells]at hy;cases j with
   |zero=>simp at hy;exact⟨b,rfl,rfl,hy.symm⟩
   |succ j=>simp at hy
 refine .sl _ c.w.heap.size 0 _ 1 (fun i _ => .int .u8 (l.getD i 0).toNat) (fun _ hb=>?_) (by omega) ?_ (fun i a ha=>?_) (fun i j a y ha hy=>?_) (fun i j a y ha hy=>?_) (fun i j a y ha hy=>rfl)
 ·rcases hb with hb|⟨i,n,hi⟩
  ·have:=h3.bS _ hb;omega
  ·have:=(h3.bB i _ n hi).1;omega
 ·rw[List.length_map];have:=grownCap_ge c.w l.length 0 e
  simpa [ByteArray.size]using this
 ·rw[ad1]at ha;cases hb:l[i]? with
  |none=>rw[hb]at ha;cases ha
  |some b=>rw[hb]at ha;cases ha;rfl
 ·obtain⟨b,hb,rfl,rfl⟩:=key i j a y ha hy;refine(dO i b hb).trans ?_;simp[aem,hb]
 ·obtain⟨b,hb,rfl,rfl⟩:=key i j a y ha hy;simp only[aem,hb,aeB];exact .int _ _
theorem Sa{op:BinOp}(cn:J1 op=true){t t':TypeId}{x y:Operand}{j:IntKind}{a b:Int}(hb:b≠0)(hx:bh E.G s x (.d (.int j a)))(hy:bh E.G s y (.d (.int j b))):bz E (.binOp op t x y t') s h (.d (.int j (E2 op j a b))) h :=
 .quiet fun o c ac h1 _ h3 h4=>by
  have e1:=ef (hx c ac h3 h4);have e2:=ef (hy c ac h3 h4);refine⟨.int j (E2 op j a b),qD h1 (by rw[e1,e2];exact wG ..) ?_,.d _ _ (.int _ _)⟩;rw[e1,e2];cases op<;>first|(simp only[binOp,ne_eq,not_true_eq_false,if_false,Op.intDiv,hb];rfl)|cases cn
theorem Sb{t t':TypeId}{x y:Operand}{a b:List UInt8}(hl:a.length+b.length<=9223372036854775807)(hx:bh E.G s x (.d (.str a)))(hy:bh E.G s y (.d (.str b))):bz E (.binOp .add t x y t') s h (.d (.str (a++b))) h :=
 .quiet fun o c ac h1 _ h3 h4=>by
  have e1:=pE (hx c ac h3 h4);have e2:=pE (hy c ac h3 h4);have e:(⟨a.toArray⟩:ByteArray)++⟨b.toArray⟩=⟨(a++b).toArray⟩:=by
   apply ByteArray.ext;simp
  refine⟨.string ⟨(a++b).toArray⟩,qD h1 (by rw[e1,e2];rfl) ?_,.d _ _ (.str _)⟩;rw[e1,e2];have hn:¬ (((ByteArray.mk a.toArray).size+(ByteArray.mk b.toArray).size:Nat):Int)>IntKind.i64.max:=by
   simp[ByteArray.size,IntKind.max,IntKind.bits,IntKind.signed];omega
  simp only[binOp,Op.stringOp,hn,if_false,e];rfl
def y3(E:Env)(o:Op)(s:List AV)(stop:Prop)(k:AV->Prop):Prop :=
 match o with
 | .binOp op t x y _=>aZ E.T t stop fun i=>cd E.G s x stop fun a=>cd E.G s y stop fun b =>
  match a,b with
  | .d (.int j m),.d (.int j' n)=>match JZ op with
   |true=>match IntKind.same j j' with
    |true=>k (.d (.int j (BM op j m n)))
    |false=>stop
   |false=>stop
  | .d (.agg l),.d (.agg m)=>match i.k,yZ t E.Q with
   | .struct fs,true=>oo E.T 0 fs l m stop fun p=>match op with
    | .eql=>k (.d (.bool p))
    | .neq=>k (.d (.bool !p))
    |_=>stop
   |_,_=>stop
  |_,_=>stop
 | .convert t0 t x=>aZ E.T t0 stop fun _=>aZ E.T t stop fun i=>cd E.G s x stop fun v=>match i.k,v with
  | .slice e,.d (.str l)=>aZ E.T e stop fun ei=>match ei.k with
   | .int .u8=>k (.d (.sl (l.map kV)))
   |_=>stop
  |_,_=>stop
 |_=>stop
theorem J5(hE:E.OK){o:Op}{stop:Prop}{k:AV->Prop}(H:y3 E o s stop k):stop\/∃ v,k v/\∀ h,bz E o s h v h:=by
 unfold y3 at H;split at H
 ·rename_i op t x y t';rcases bp H with h|⟨i,hi,H⟩
  ·exact .inl h
  rcases cu H with h|⟨a,ha,H⟩
  ·exact .inl h
  rcases cu H with h|⟨b,hb,H⟩
  ·exact .inl h
  split at H
  ·split at H
   ·rename_i q;split at H
    ·rename_i p;obtain rfl:=sr p;exact .inr ⟨_,H,fun h=>R4 q ha hb⟩
    ·exact .inl H
   ·exact .inl H
  ·split at H
   ·rename_i fs hk hq;by_cases he:op=.eql
    ·subst he;rcases J4 (op := .eql) (t':=t') (s:=s) hE hi (BN hq) hk ha hb H with h|⟨p,H,h1,-⟩
     ·exact .inl h
     ·exact .inr ⟨_,H,fun h=>h1 rfl h⟩
    ·by_cases kY:op=.neq
     ·subst kY;rcases J4 (op := .neq) (t':=t') (s:=s) hE hi (BN hq) hk ha hb H with h|⟨p,H,-,h1⟩
      ·exact .inl h
      ·exact .inr ⟨_,H,fun h=>h1 rfl h⟩
     ·refine .inl ?_;rcases J2 H with h|⟨p,h⟩
      ·exact h
      ·split at h
       ·exact absurd rfl he
       ·exact absurd rfl kY
       ·exact h
   ·exact .inl H
  ·exact .inl H
 ·rename_i t0 t x;rcases bp H with h|⟨i0,lG,H⟩
  ·exact .inl h
  rcases bp H with h|⟨i,hi,H⟩
  ·exact .inl h
  rcases cu H with h|⟨v,hv,H⟩
  ·exact .inl h
  split at H
  ·rename_i e l hk;rcases bp H with h|⟨ei,bV,H⟩
   ·exact .inl h
   split at H
   ·rename_i E3;exact .inr ⟨_,H,fun h=>R8 hE lG hi bV hk E3 hv⟩
   ·exact .inl H
  ·exact .inl H
 ·exact .inl H
def E4(E:Env)(o:Op)(s:List AV)(stop:Prop)(k:AV->Prop):Prop :=
 match o with
 | .binOp op _ x y _=>cd E.G s x stop fun a=>cd E.G s y stop fun b =>
  match a,b with
  | .d (.int j m),.d (.int j' n)=>match J0 op with
   |true=>need (0<=n) (k (.d (.int j (lJ op j m n.toNat))))
   |false=>match J1 op,IntKind.same j j' with
    |true,true=>need (n≠0) (k (.d (.int j (E2 op j m n))))
    |_,_=>stop
  | .d (.str l),.d (.str m)=>match op with
   | .add=>need (l.length+m.length<=9223372036854775807) (k (.d (.str (l++m))))
   |_=>stop
  |_,_=>stop
 |_=>stop
theorem Sc{o:Op}{stop:Prop}{k:AV->Prop}(H:E4 E o s stop k):stop\/∃ v,k v/\∀ h,bz E o s h v h:=by
 unfold E4 at H;split at H
 ·rename_i op t x y t';rcases cu H with h|⟨a,ha,H⟩
  ·exact .inl h
  rcases cu H with h|⟨b,hb,H⟩
  ·exact .inl h
  split at H
  ·split at H
   ·rename_i q;obtain⟨h0,H⟩:=ng H;exact .inr ⟨_,H,fun h=>R5 q h0 ha hb⟩
   ·split at H
    ·rename_i q p;obtain rfl:=sr p;obtain⟨h0,H⟩:=ng H;exact .inr ⟨_,H,fun h=>Sa q h0 ha hb⟩
    ·exact .inl H
  ·split at H
   ·obtain⟨h0,H⟩:=ng H;exact .inr ⟨_,H,fun h=>Sb h0 ha hb⟩
   ·exact .inl H
  ·exact .inl H
 ·exact .inl H
theorem Sd(hE:E.OK){t e len:Nat}{x i:Operand}{ti ei:bu}(bX:E.T[t]?=some ti)(bV:E.T[e]?=some ei)(hk:ti.k=.array len e){b off:Nat}{cs:List AV}(hb:h[b]?=some (.cells cs)){j:IntKind}{m:Nat}(hx:bh E.G s x (.ptr b off))(hi:bh E.G s i (.d (.int j (.ofNat m))))(h1:m<len) :
  bz E (.indexAddr t x i) s h (.ptr b (off+m*ei.size)) h := .quiet fun o c ac e1 e2 h3 h4=>by
 subst e2;obtain⟨mz,d,g1,g2,g3,-⟩:=cC (hE.types t ti bX);obtain rfl:=wI (hk.symm.trans g3);have key:∀ p,VR c (.ptr b off) p->∃ blk,p=.pointer (some ⟨blk,off,none⟩)/\VR c (.ptr b (off+m*ei.size)) (.pointer (some ⟨blk,off+m*ei.size,none⟩)):=fun p hp=>by
  cases hp with
  |ptr _ _ cs' blk cap k1 k2=>exact⟨blk,rfl,.ptr _ _ cs' blk cap k1 k2⟩
  |iI _ _ _ k1 _=>rw[hb]at k1;cases k1
 obtain⟨blk,q1,q2⟩:=key _ (hx c ac h3 h4);refine⟨_,yX e1 ?_,q2⟩;rw[q1,ef (hi c ac h3 h4)];have h0:(0:Int)<=Int.ofNat m:=Int.natCast_nonneg m;have qM:Int.ofNat m<(len:Int):=by simpa using h1
 simp only[Instr.indexAt,asIntOf,adT,adS,adU,run_underlying g2,Instr.sureAddr,h0,qM,and_self,if_true,run_sizeOf (hE.types e ei bV),na];rfl
theorem Se(hE:E.OK){t e len:Nat}{x:Operand}{ti ei:bu}(bX:E.T[t]?=some ti)(bV:E.T[e]?=some ei)(hk:ti.k=.array len e)(cS:0<len){b:Nat}{ds:List DV}(hb:h[b]?=some (.cells (ds.map .d)))(hlen:ds.length=len)(fH:ds.all DV.fm=true)(hx:bh E.G s x (.ptr b 0)) :
  bz E (.slice t x none none none) s h (.d (.sl ds)) (h.set b .gone):=fun o c ac h1 h2 h3 h4=>by
 subst h2;obtain⟨mz,d,g1,g2,g3,-⟩:=cC (hE.types t ti bX);obtain rfl:=wI (hk.symm.trans g3);have eS:=aX hb;have key:∀ p,VR c (.ptr b 0) p->∃ blk cap,p=.pointer (some ⟨blk,0,none⟩)/\c.own b=some (blk,cap):=fun p hp=>by
  cases hp with
  |ptr _ _ cs' blk cap k1 k2=>exact⟨blk,cap,rfl,k2⟩
  |iI _ _ _ k1 _=>rw[hb]at k1;cases k1
 obtain⟨blk,cap,q1,q2⟩:=key _ (hx c ac h3 h4);obtain⟨iX,gZ,vs,ty,p1,p2,p3⟩:=h3.cells hb;rw[q2]at p1;cases p1
 let c':Cx:={ c with own:=fun i=>if i=b then none else c.own i,heap:=c.heap.set b .gone }
 have fh:c'.heap[b]?=some .gone:=by show(c.heap.set b .gone)[b]?=_;rw[aei eS]
 have ki:∀ i,i≠b->c'.heap[i]?=c.heap[i]? := fun i hi=>by show(c.heap.set b .gone)[i]?=_;rw[aej (Ne.symm hi)]
 have bH:∀ i,i≠b->c'.own i=c.own i:=fun i hi=>by simp only[c',if_neg hi]
 have jH:∀ i p,c'.own i=some p->i≠b/\c.own i=some p:=fun i p hp=>by
  simp only[c']at hp;split at hp
  ·cases hp
  ·rename_i q;exact⟨q,hp⟩
 have bg:Step c c':=⟨rfl,h3.bS,rfl,rfl,rfl,aed _,fun _ _ _=>rfl,fun i x n hi _=>⟨n,(jH i _ hi).2⟩,fun i bx hi=>by
  by_cases bF:i=b
  ·subst bF;cases bx with
   |cells cs=>exact .inr fh
   |arr g sz l=>exact .inr fh
   |map es=>exact .inr fh
   |gone=>exact fh
   |hole=>exact⟨_,fh⟩
  ·rw[<- ki i bF]at hi;cases bx with
   |cells cs=>exact .inl ⟨cs,hi,bH i bF,rfl⟩
   |arr g sz l=>exact .inl ⟨g,l,hi,.inr ⟨rfl,rfl,bH i bF⟩⟩
   |map es=>exact .inl ⟨es,hi,bH i bF⟩
   |gone=>exact hi
   |hole=>exact⟨_,hi⟩⟩
 have aP:aM E.G c':=by
  refine h3.next bg (fun i x n hi=>?_) (fun i j x n m hi hj=>h3.inj i j x n m (jH i _ hi).2 (jH j _ hj).2) (fun i bx hi=>?_)
  ·have:=h3.bB i x n (jH i _ hi).2;refine⟨this.1,?_⟩;show i<(c.heap.set b .gone).length;rw[aeX];exact this.2
  ·by_cases bF:i=b
   ·subst bF;rw[fh]at hi;cases hi;right;show c'.own i=none;simp[c']
   ·rw[ki i bF]at hi;exact .inl ⟨hi,bH i bF,fun _ _ _=>rfl⟩
 have bG:∀ (j:Nat) (y:DV),ds[j]?=some y->∃ v,vs[j]?=some v/\v.oneCell'=true/\VD c.bad c.w y v:=fun j y hy=>by
  have hj:=aX hy;have hl:=p3.1;simp at hl;have hv:vs.toList[j]?=some vs[j]:=by simp
  have:=p3.2 j (.d y) _ (by simp[hy]) hv;cases this with
  |d _ _ hd=>exact⟨_,by simp,yE hd (ad'.1 fH y (afh hy)),hd⟩
 refine⟨c',.slice (some ⟨blk,0,none⟩) ds.length ds.length,.inl ?_,rfl,aP,.d _ _ ?_,bg⟩
 ·have kj:(Instr.sliceBounds false len len none none none).run E.P c.w=.ok (0,len,len) c.w:=rfl;have aJ:¬ (len=0):=by omega
  simp only[execOp,h1,q1,Instr.sliceAt,adT,adS,adU,run_underlying g2,Instr.sureAddr,afs,kj,run_sizeOf (hE.types e ei bV),aJ,if_false,ae8,na,afx,hlen];rfl
 ·have one:∀ (i j:Nat) (y z:DV),ds[i]?=some y->y.cells[j]?=some z->j=0/\z=y:=fun i j y z hy hz=>by
   have:=ad'.1 fH y (afh hy);have hc:y.cells=[y]:=by cases y<;>first|rfl|cases this
   rw[hc]at hz;cases j with
   |zero=>simp at hz;exact⟨rfl,hz.symm⟩
   |succ j=>simp at hz
  refine .sl ds blk 0 ds.length 1 (fun i j=>(vs[i]?).getD undef) (fun _ fo=>?_) (by omega) (aed _) (fun i y hy=>?_) (fun i j y z hy hz=>?_) (fun i j y z hy hz=>?_) (fun i j y z hy hz=>?_)
  ·rcases fo with fo|⟨i,n,hi⟩
   ·exact h3.sep b blk cap q2 fo
   ·obtain⟨k1,k2⟩:=jH i _ hi;exact k1 (h3.inj i b blk n cap k2 q2)
  ·have:=ad'.1 fH y (afh hy);cases y<;>first|rfl|cases this
  ·obtain⟨rfl,rfl⟩:=one i j y z hy hz;obtain⟨v,r1,r2,r3⟩:=bG i z hy;rw[r1,aeB];have:=mf p2 i v (by simpa using r1)
   simpa using this
  ·obtain⟨rfl,rfl⟩:=one i j y z hy hz;obtain⟨v,r1,r2,r3⟩:=bG i z hy;simp only[r1,aeB];exact bg.vd r3
  ·obtain⟨rfl,rfl⟩:=one i j y z hy hz;obtain⟨v,r1,r2,r3⟩:=bG i z hy;simp only[r1,aeB];exact r2
theorem Sf(hE:E.OK){t e:Nat}{ti ei:bu}(bX:E.T[t]?=some ti)(bV:E.T[e]?=some ei)(hk:ti.k=.slice e)(cS:0<ei.size){parts:Array (Nat × Operand)}(hp:parts.toList=[]) :
  bz E (.buildSlice t 0 parts) s h (.own h.length 0) (h++[.arr 0 (e,ei.size) []]):=fun o c ac h1 h2 h3 h4=>by
 subst h2;obtain⟨mz,d,g1,g2,g3,-⟩:=cC (hE.types t ti bX);obtain rfl:=lF (hk.symm.trans g3);obtain⟨k1,k2⟩:=h3.add (.arr 0 (e,ei.size) []) 0 (.cells #[] e);have bH:(c.add (.arr 0 (e,ei.size) []) 0 (.cells #[] e)).own c.heap.length=some (c.w.heap.size,0):=by simp[Cx.add]
 have nj:(c.add (.arr 0 (e,ei.size) []) 0 (.cells #[] e)).heap[c.heap.length]?=some (.arr 0 (e,ei.size) []):=by simp[Cx.add]
 refine⟨_,.slice (some ⟨c.w.heap.size,0,none⟩) 0 0,.inl ?_,rfl,k2 ⟨cS,fun i e he=>by simp at he,.inr ⟨c.w.heap.size,0,#[],bH,heap_alloc_new _ _,by simp,by simp,by simp,fun i j e x he=>by simp at he⟩⟩,.own c.heap.length 0 (e,ei.size) [] c.w.heap.size 0 nj bH,k1⟩;have sq:parts = #[]:=by apply afp;simpa using hp
 subst sq;have hn:¬ ((0:Nat)>2 ^ 24):=by decide
 simp only[execOp,h1,Instr.buildSlice,adT,adS,adU,run_underlying g2,run_sizeOf (hE.types e ei bV),ae8,Array.map_empty,hn,if_false,if_true];simp[Instr.fill,newRow,show Array.range 0 = #[]from rfl];rfl
def y4(E:Env)(o:Op)(s:List AV)(h:List af)(stop:Prop)(k:AV->List af->Prop):Prop :=
 match o with
 | .indexAddr t x i=>aZ E.T t stop fun ti=>match ti.k with
  | .array len e=>aZ E.T e stop fun ei=>cd E.G s x stop fun
   | .ptr b off=>aZ h b stop fun
    | .cells _=>cd E.G s i stop fun
     | .d (.int _ n)=>match n with
      | .ofNat m=>match adZ m len with
       |true=>k (.ptr b (off+m*ei.size)) h
       |false=>stop
      |_=>stop
     |_=>stop
    |_=>stop
   |_=>stop
  |_=>stop
 | .slice t x none none none=>aZ E.T t stop fun ti=>match ti.k with
  | .array len e=>aZ E.T e stop fun _=>match adZ 0 len with
   |true=>cd E.G s x stop fun
    | .ptr b 0=>aZ h b stop fun
     | .cells cs=>qz cs stop fun ds=>match adY ds.length len,ds.all DV.fm with
      |true,true=>fG h b .gone fun h'=>k (.d (.sl ds)) h'
      |_,_=>stop
     |_=>stop
    |_=>stop
   |_=>stop
  |_=>stop
 | .buildSlice t len parts=>match len with
  |0=>aZ E.T t stop fun ti=>match ti.k with
   | .slice e=>aZ E.T e stop fun ei=>match adZ 0 ei.size,parts.toList with
    |true,[]=>n4 h (.arr 0 (e,ei.size) []) 0 fun h' n=>k (.own n 0) h'
    |_,_=>stop
   |_=>stop
  |_=>stop
 |_=>stop
theorem J6(hE:E.OK){o:Op}{stop:Prop}{k:AV->List af->Prop}(H:y4 E o s h stop k):stop\/∃ v h',k v h'/\bz E o s h v h':=by
 unfold y4 at H;split at H
 ·rename_i t x i;rcases bp H with h|⟨ti,bX,H⟩
  ·exact .inl h
  split at H
  ·rename_i len e hk;rcases bp H with h|⟨ei,bV,H⟩
   ·exact .inl h
   rcases cu H with h|⟨a,ha,H⟩
   ·exact .inl h
   split at H
   ·rename_i b off;rcases bp H with h|⟨bx,hb,H⟩
    ·exact .inl h
    split at H
    ·rcases cu H with h|⟨n,hn,H⟩
     ·exact .inl h
     split at H
     ·split at H
      ·split at H
       ·rename_i q;exact .inr ⟨_,_,H,Sd hE bX bV hk hb ha hn (y0 q)⟩
       ·exact .inl H
      ·exact .inl H
     ·exact .inl H
    ·exact .inl H
   ·exact .inl H
  ·exact .inl H
 ·rename_i t x;rcases bp H with h|⟨ti,bX,H⟩
  ·exact .inl h
  split at H
  ·rename_i len e hk;rcases bp H with h|⟨ei,bV,H⟩
   ·exact .inl h
   split at H
   ·rename_i q2;rcases cu H with h|⟨a,ha,H⟩
    ·exact .inl h
    split at H
    ·rename_i b;rcases bp H with h|⟨bx,hb,H⟩
     ·exact .inl h
     split at H
     ·rename_i cs
      rcases yB cs stop (fun ds=>match adY ds.length len,ds.all DV.fm with
       |true,true=>fG h b .gone fun h'=>k (.d (.sl ds)) h'
       |_,_=>stop)with⟨ds,e1,e2⟩|e2
      ·rw[e2]at H;split at H
       ·rename_i p1 p2;rw[gF]at H;subst e1;exact .inr ⟨_,_,H,Se hE bX bV hk (y0 q2) hb (adX p1) p2 ha⟩
       ·exact .inl H
      ·rw[e2]at H;exact .inl H
     ·exact .inl H
    ·exact .inl H
   ·exact .inl H
  ·exact .inl H
 ·rename_i t len parts;split at H
  ·rcases bp H with h|⟨ti,bX,H⟩
   ·exact .inl h
   split at H
   ·rename_i e hk;rcases bp H with h|⟨ei,bV,H⟩
    ·exact .inl h
    split at H
    ·rename_i q1 q2;rw[sk,ad5]at H;exact .inr ⟨_,_,H,Sf hE bX bV hk (y0 q1) q2⟩
    ·exact .inl H
   ·exact .inl H
  ·exact .inl H
 ·exact .inl H
def y5(E:Env)(o:Op)(s:List AV)(h:List af)(stop:Prop)(k:AV->List af->Prop):Prop:=y3 E o s (y4 E o s h stop k) fun v=>k v h
theorem J7(hE:E.OK){o:Op}{stop:Prop}{k:AV->List af->Prop}(H:y5 E o s h stop k):stop\/∃ v h',k v h'/\bz E o s h v h':=by
 rcases J5 hE H with H|⟨v,H,ho⟩
 ·exact J6 hE H
 ·exact .inr ⟨v,h,H,ho h⟩
end
end Go.aA
end
section
namespace Go.aA
open Go Go.RowKit
def qN:DV->DV->Bool
 | .int j m,.int k n=>IntKind.same j k&&(m==n)
 | .str a,.str b=>a==b
 | .bool a,.bool b=>a==b
 |_,_=>false
def uA:List DV->List DV->Bool
 |[],[]=>true
 |a::l,b::m=>qN a b&&uA l m
 |_,_=>false
def eL:DV->DV->Bool
 | .agg l,.agg m=>uA l m
 |a,b=>qN a b
def fj(k:DV):List (DV × DV)->Option Nat
 |[]=>none
 |p::l=>if eL k p.1 then some 0 else(fj k l).map (· + 1)
def findD(k:DV):List (DV × DV)->Option DV
 |[]=>none
 |p::l=>if eL k p.1 then some p.2 else findD k l
def bW(k v:DV):List (DV × DV)->List (DV × DV)
 |[]=>[(k,v)]
 |p::l=>if eL k p.1 then(k,v)::l else p::bW k v l
def oq:TK->DV->Prop
 | .int j,x=>∃ n,x=.int j n
 | .string,x=>∃ s,x=.str s
 | .bool,x=>∃ b,x=.bool b
 |_,_=>False
def uB(T:List bu):Nat->List (Nat × Nat)->List DV->Prop
 |_,[],[]=>True
 |n,f::fs,a::l=>f.1=n/\(∃ i,T[f.2]?=some i/\oq i.k a)/\uB T (n+1) fs l
 |_,_,_=>False
def du(T:List bu)(k:TK)(x:DV):Prop:=match k with
 | .struct fs=>∃ l,x=.agg l/\uB T 0 fs l
 |k=>oq k x
def il:DV->Value
 | .int j n => .int j n
 | .str s => .string ⟨s.toArray⟩
 | .bool b => .bool b
 | .agg l => .agg (l.map fun
  | .int j n => .int j n
  | .str s => .string ⟨s.toArray⟩
  | .bool b => .bool b
  |_=>undef).toArray
 |_=>undef
def w0:DV->Prop
 | .int _ _=>True
 | .str _=>True
 | .bool _=>True
 |_=>False
theorem oq.flat{k:TK}{x:DV}(h:oq k x):w0 x:=by
 cases k<;>first|(obtain⟨_,rfl⟩:=h;trivial)|exact h.elim
theorem uB.flat{T:List bu}:∀ {n:Nat} {fs:List (Nat × Nat)} {l:List DV},uB T n fs l->∀ x∈l,w0 x
 |_,[],[],_,x,hx=>by simp at hx
 |_,_::_,[],h,_,_=>h.elim
 |_,[],_::_,h,_,_=>h.elim
 |n,f::fs,a::l,h,x,hx=>by
  rcases afu.1 hx with rfl|hx
  ·obtain⟨-,⟨i,-,h⟩,-⟩:=h;exact h.flat
  ·exact h.2.2.flat x hx
theorem lK{bad:Nat->Prop}{w:World}{x:DV}{v:Value}(hf:w0 x)(h:VD bad w x v):v=il x:=by
 cases x<;>first|exact hf.elim|(cases h;rfl)
theorem du.cases{T:List bu}{k:TK}{x:DV}(h:du T k x):w0 x\/∃ l,x=.agg l/\∀ y∈l,w0 y:=by
 unfold du at h;split at h
 ·obtain⟨l,rfl,h⟩:=h;exact .inr ⟨l,rfl,h.flat⟩
 ·exact .inl h.flat
theorem uC{T:List bu}{k:TK}{bad:Nat->Prop}{w:World}{x:DV}{v:Value}(hf:du T k x)(h:VD bad w x v):v=il x:=by
 rcases hf.cases with gJ|⟨l,rfl,gJ⟩
 ·exact lK gJ h
 ·cases h with
  |agg _ vs hl hv =>
   simp only[il]
   congr 1
   apply Array.ext
   ·simpa using hl.symm
   ·intro j h1 h2;have hj:j<l.length:=by omega
    have e:=hv j l[j] vs[j] (by simp) (by simp[h1]);have:=lK (gJ _ (aeZ hj)) e;rw[this];simp only[List.getElem_toArray,List.getElem_map];have mu:=gJ _ (aeZ hj);generalize l[j]=y at mu;cases y<;>first|rfl|exact mu.elim
theorem E5(j:IntKind):IntKind.same j j=true:=by cases j<;>rfl
theorem J8{a b:DV}(h:qN a b=true):a=b:=by
 unfold qN at h;split at h
 ·simp only[aft,beq_iff_eq]at h;obtain rfl:=sr h.1;rw[h.2]
 ·simp at h;rw[h]
 ·simp at h;rw[h]
 ·cases h
theorem J9:∀ {a b:List DV},uA a b=true->a=b
 |[],[],_=>rfl
 |[],_::_,h=>by cases h
 |_::_,[],h=>by cases h
 |x::a,y::b,h=>by
  simp only[uA,aft]at h;rw[J8 h.1,J9 h.2]
theorem J'{a b:DV}(h:eL a b=true):a=b:=by
 unfold eL at h;split at h
 ·rw[J9 h]
 ·exact J8 h
theorem E6(a b:List UInt8):((⟨a.toArray⟩:ByteArray)==⟨b.toArray⟩)=(a==b):=by
 show(a.toArray==b.toArray)=_;simp
theorem E7{α:Type}:∀ {l:List α} {p:α × α},p∈l.zip l->p.1=p.2/\p.1∈l
 |[],p,h=>by simp at h
 |a::l,p,h=>by
  rcases afu.1 h with rfl|h
  ·exact⟨rfl,aeQ ..⟩
  ·exact⟨(E7 h).1,aeR _ (E7 h).2⟩
theorem Sg(n:Nat){x:DV}(h:w0 x):Instr.sameBits n (il x) (il x)=true:=by
 cases x<;>first|exact h.elim|(cases n<;>simp[il,Instr.sameBits,E6])
theorem Ka{T:List bu}{k:TK}{x:DV}(h:du T k x):Instr.sameBits 10000 (il x) (il x)=true:=by
 rcases h.cases with h1|⟨l,rfl,h1⟩
 ·exact Sg _ h1
 ·show Instr.sameBits (9999+1) _ _=true;simp only[il,Instr.sameBits,beq_self_eq_true,afC,ad'];intro p hp;obtain⟨e1,e2⟩:=E7 hp;obtain⟨p1,p2⟩:=p;simp only at e1 e2;subst e1;obtain⟨y,hy,rfl⟩:=aer.1 e2;have:=h1 y hy;cases y<;>first|exact this.elim|simp[Instr.sameBits,E6]
def y6(bad:Nat->Prop)(w:World)(es:List (DV × DV))(en:List MapEntry):Prop:=en.length=es.length/\∀ (j:Nat) (k x:DV) (m:MapEntry),es[j]?=some (k,x)->en[j]?=some m->VD bad w k m.key/\VD bad w x m.val
theorem y6.cons{bad:Nat->Prop}{w:World}{p:DV × DV}{m:MapEntry}{es:List (DV × DV)}{en:List MapEntry}(h:y6 bad w (p::es) (m::en)):VD bad w p.1 m.key/\VD bad w p.2 m.val/\y6 bad w es en:=by
 obtain⟨h1,h2⟩:=h;have:=h2 0 p.1 p.2 m rfl rfl;exact⟨this.1,this.2,by simpa using h1,fun j k x m' hk hm=>h2 (j+1) k x m' (by simpa using hk) (by simpa using hm)⟩
theorem BP{k:DV}:∀ {es:List (DV × DV)} {j:Nat},fj k es=some j->∃ p,es[j]?=some p/\eL k p.1=true/\findD k es=some p.2
 |[],_,h=>by cases h
 |p::es,j,h=>by
  unfold fj at h;split at h
  ·rename_i q;cases h;exact⟨p,rfl,q,by simp[findD,q]⟩
  ·rename_i q;cases hf:fj k es with
   |none=>rw[hf]at h;cases h
   |some i =>
    rw[hf]at h;cases h;obtain⟨p',h1,h2,h3⟩:=BP hf;exact⟨p',by simpa using h1,h2,by simp[findD,q,h3]⟩
theorem E8{k:DV}:∀ {es:List (DV × DV)},fj k es=none->findD k es=none
 |[],_=>rfl
 |p::es,h=>by
  unfold fj at h;split at h
  ·cases h
  ·rename_i q;cases hf:fj k es with
   |none=>simp[findD,q,E8 hf]
   |some i=>rw[hf]at h;cases h
theorem y7{k v:DV}:∀ {es:List (DV × DV)} {j:Nat},fj k es=some j->bW k v es=es.set j (k,v)
 |[],_,h=>by cases h
 |p::es,j,h=>by
  unfold fj at h;split at h
  ·rename_i q;cases h;simp[bW,q]
  ·rename_i q;cases hf:fj k es with
   |none=>rw[hf]at h;cases h
   |some i =>
    rw[hf]at h;cases h;simp[bW,q,y7 hf]
theorem y8{k v:DV}:∀ {es:List (DV × DV)},fj k es=none->bW k v es=es++[(k,v)]
 |[],_=>rfl
 |p::es,h=>by
  unfold fj at h;split at h
  ·cases h
  ·rename_i q;cases hf:fj k es with
   |none=>simp[bW,q,y8 hf]
   |some i=>rw[hf]at h;cases h
theorem qO{P:Program}{w:World}{r:Nat}{es:Array MapEntry}{clock:Nat}(hb:w.heap[r]?=some (.map es clock)):(getObj r).run P w=.ok (.map es clock) w:=by
 simp[getObj,Sem.run,hb]
theorem y9{P:Program}{w:World}{r:Nat}{es:Array MapEntry}{clock:Nat}(o:Obj)(hb:w.heap[r]?=some (.map es clock)):(setObj r o).run P w=.ok () { w with heap:=w.heap.setIfInBounds r o }:=by
 simp[setObj,Sem.run,hb]
theorem Sh{P:Program}{w:World}{kt:TypeId}{d:TypeDesc}{k:Value}{l:List MapEntry}{a:Option (Nat × Value)}(hd:P.underlying kt=some d)(h:Instr.findNow d k l 0=some a):(Instr.findKey kt k l).run P w=.ok a w:=by
 simp[Instr.findKey,run_underlying hd,afE,h]
section
variable {E:Env}
def E9:TK->Prop
 | .int _=>True
 | .string=>True
 | .bool=>True
 |_=>False
inductive sJ (E:Env) (t:Nat):TK->Prop
 |plain (i:bu) (hi:E.T[t]?=some i) (h:E9 i.k):sJ E t i.k
 |struct (i:bu) (hi:E.T[t]?=some i) (fs:List (Nat × Nat)) (hk:i.k=.struct fs) (hq:t∈E.Q):sJ E t (.struct fs)
theorem Kb{T:List bu}:∀ {n:Nat} {fs:List (Nat × Nat)} {l m:List DV},uB T n fs l->uB T n fs m->oo T n fs l m False (· = uA l m)
 |_,[],[],[],_,_=>rfl
 |_,_::_,[],_,h,_=>h.elim
 |_,[],_::_,_,h,_=>h.elim
 |_,_::_,_::_,[],_,h=>h.elim
 |_,[],[],_::_,_,h=>h.elim
 |n,f::fs,a::l,b::m,h,h'=>by
  obtain⟨e1,⟨i,hi,ha⟩,hl⟩:=h;obtain⟨-,⟨i',cj,hb⟩,hm⟩:=h';rw[hi]at cj;cases cj;simp only[oo];have:adY f.1 n=true:=by rw[e1];exact afy n
  rw[this];simp only;rw[Bn hi];have key:∀ (K:Bool->Prop),K (qN a b)->sH i.k a b False K:=fun K hK=>by
   unfold oq at ha hb;split at ha
   ·rename_i j hk;obtain⟨x,rfl⟩:=ha;rw[hk]at hb ⊢;obtain⟨y,rfl⟩:=hb;simp only[sH,E5]
    simpa [qN,E5]using hK
   ·rename_i hk;obtain⟨x,rfl⟩:=ha;rw[hk]at hb ⊢;obtain⟨y,rfl⟩:=hb;exact hK
   ·rename_i hk;obtain⟨x,rfl⟩:=ha;rw[hk]at hb ⊢;obtain⟨y,rfl⟩:=hb;exact hK
   ·exact ha.elim
  refine key _ ?_;have ih:=Kb hl hm;have mono:∀ {n:Nat} {fs:List (Nat × Nat)} {l m:List DV} {K K':Bool->Prop},(∀ p,K p->K' p)->oo T n fs l m False K->oo T n fs l m False K':=by
   intro n fs
   induction fs generalizing n with
   |nil=>intro l m K K' hk H;cases l<;>cases m<;>first|exact hk _ H|exact H
   |cons f fs E' =>
    intro l m K K' hk H;cases l with
    |nil=>exact H
    |cons a l=>cases m with
     |nil=>exact H
     |cons b m =>
      simp only[oo]at H ⊢;split at H
      ·rcases bp H with H|⟨i,hi,H⟩
       ·exact H.elim
       rw[Bn hi];unfold sH at H ⊢;split at H
       ·split at H
        ·exact E' (fun p hp=>hk _ hp) H
        ·exact H
       ·exact E' (fun p hp=>hk _ hp) H
       ·exact E' (fun p hp=>hk _ hp) H
       ·exact H
      ·exact H
  refine mono (fun p hp=>?_) ih;rw[hp,uA]
theorem Si(hE:E.OK){t:Nat}{i:bu}(hi:E.T[t]?=some i){fs:List (Nat × Nat)}(hk:i.k=.struct fs)(hq:t∈E.Q){x y:DV}(hx:du E.T (.struct fs) x)(hy:du E.T (.struct fs) y){bad:Nat->Prop}{w:World}{u v:Value}(hu:VD bad w x u)(hv:VD bad w y v) :
  (Op.equal t u v).run E.P w=.ok (eL x y) w:=by
 obtain⟨l,rfl,hl⟩:=hx;obtain⟨m,rfl,hm⟩:=hy;obtain⟨ti,d,g1,g2,g3,-⟩:=cC (hE.types t i hi);obtain⟨fl,rfl,rfl⟩:=qE (hk.symm.trans g3);have BQ:=hE.eqs t hq;simp only[Bm,g2,aft,afD,ad',bne_iff_ne,ne_eq]at BQ;obtain⟨⟨q1,q2⟩,q3⟩:=BQ;rcases J3 hE.types (Kb hl hm) q3 with h|⟨p,rfl,hp⟩
 ·exact h.elim
 have gQ:E.P.fieldsOf t=fl:=by simp[Program.fieldsOf,g2]
 cases hu with
 |agg _ xs x1 x2=>cases hv with
  |agg _ ys y1 y2 =>
   show(Op.equalIn (9999+1) t _ _).run E.P w=_;rw[run_equalIn_struct w 9999 t _ _ (by rw[gQ];exact g2) q1,gQ];have:=hp bad w w xs.toList ys.toList 9998 (fun j z hz=>?_) (fun j z hz=>?_)
   ·simpa [eL]using this
   ·have hj:=aX hz;rw[x1]at hj;exact⟨xs[j],by simp[hj],x2 j z _ hz (by simp[hj])⟩
   ·have hj:=aX hz;rw[y1]at hj;exact⟨ys[j],by simp[hj],y2 j z _ hz (by simp[hj])⟩
theorem Sj{td:TypeDesc}{k:TK}(hk:k=tk td)(hp:E9 k){x y:DV}(hx:oq k x)(hy:oq k y):Instr.sameNow td (il x) (il y)=some (eL x y):=by
 subst hk;cases td<;>simp only[tk,E9]at hp hx hy
 ·obtain⟨a,rfl⟩:=hx;obtain⟨b,rfl⟩:=hy;rfl
 ·obtain⟨a,rfl⟩:=hx;obtain⟨b,rfl⟩:=hy;simp[Instr.sameNow,il,eL,qN,E5]
 ·obtain⟨a,rfl⟩:=hx;obtain⟨b,rfl⟩:=hy;simp[Instr.sameNow,il,eL,qN,E6]
def lL(k:DV)(es:List (DV × DV))(en:List MapEntry)(i:Nat):Option (Nat × Value):=(fj k es).bind fun j=>(en[j]?).map fun m=>(i+j,m.val)
theorem Kc{k:DV}{p:DV × DV}{m:MapEntry}{es:List (DV × DV)}{en:List MapEntry}{i:Nat}:lL k (p::es) (m::en) i=if eL k p.1 then some (i,m.val)else lL k es en (i+1):=by
 simp only[lL,fj];split
 ·simp
 ·cases fj k es with
  |none=>rfl
  |some j =>
   simp;cases en[j]? with
   |none=>rfl
   |some m=>simp;omega
theorem Fa(hE:E.OK){t:Nat}{k:TK}(hT:sJ E t k){x:DV}(hx:du E.T k x){bad:Nat->Prop}{w:World}{u:Value}(hu:VD bad w x u){es:List (DV × DV)}{en:List MapEntry}(mg:∀ p∈es,du E.T k p.1)(w7:y6 bad w es en) :
  (Instr.findKey t u en).run E.P w=.ok (lL x es en 0) w:=by
 cases hT with
 |plain i hi h =>
  obtain⟨ti,d,g1,g2,g3,-⟩:=cC (hE.types t i hi);refine Sh g2 ?_;have hF:∀ y,du E.T i.k y->oq i.k y:=fun y hy=>by
   unfold du at hy;split at hy
   ·rename_i q;rw[q]at h;exact h.elim
   ·exact hy
  obtain rfl:=uC hx hu;generalize 0=n
  induction es generalizing en n with
  |nil =>
   obtain rfl:en=[]:=aee (by simpa using w7.1);rfl
  |cons p es ih=>cases en with
   |nil=>have:=w7.1;simp at this
   |cons m en =>
    obtain⟨h1,h2,h3⟩:=w7.cons;have hp:=mg p (aeQ ..);have e1:=uC hp h1;rw[Kc,Instr.findNow,e1,Sj g3 h (hF _ hx) (hF _ hp)];cases eL x p.1 with
    |true=>rfl
    |false =>
     have ha:∀ q∈es,du E.T i.k q.1:=fun q hq=>mg q (aeR _ hq);first|exact ih ha h3 (n+1)|exact ih h3 ha (n+1)|exact ih h3 (n+1) ha
 |struct i hi fs hk hq =>
  obtain⟨ti,d,g1,g2,g3,-⟩:=cC (hE.types t i hi);obtain⟨fl,rfl,-⟩:=qE (hk.symm.trans g3);rw[run_findKey_eq w (by rw[g2]) u en];generalize 0=n
  induction es generalizing en n with
  |nil =>
   obtain rfl:en=[]:=aee (by simpa using w7.1);simp[Instr.findAsking,lL,fj]
  |cons p es ih=>cases en with
   |nil=>have:=w7.1;simp at this
   |cons m en =>
    obtain⟨h1,h2,h3⟩:=w7.cons;have hp:=mg p (aeQ ..);rw[Kc];simp only[Instr.findAsking,adT,Si hE hi hk hq hx hp hu h1,adU];cases eL x p.1 with
    |true=>simp
    |false =>
     simp only[aet,if_false];have ha:∀ q∈es,du E.T (.struct _) q.1:=fun q hq=>mg q (aeR _ hq);first|exact ih ha h3 (n+1)|exact ih h3 ha (n+1)|exact ih h3 (n+1) ha
theorem Fb(hE:E.OK){t:Nat}{k:TK}(hT:sJ E t k){x:DV}(hx:du E.T k x){bad:Nat->Prop}{w:World}{u:Value}(hu:VD bad w x u)(em:Bool):(Instr.checkKey em 10000 t u).run E.P w=.ok () w:=by
 have one:∀ (n:Nat) (t:Nat) (i:bu) (hi:E.T[t]?=some i) (y:DV),oq i.k y->(Instr.checkKey em (n+1) t (il y)).run E.P w=.ok () w:=fun n t i hi y hy=>by
  obtain⟨ti,d,g1,g2,g3,-⟩:=cC (hE.types t i hi);unfold Instr.checkKey;simp only[adT,run_underlying g2,afE];unfold oq at hy;split at hy
  ·rename_i q;obtain⟨a,rfl⟩:=hy;obtain rfl:=wH (q.symm.trans g3);simp[il]
  ·rename_i q;obtain⟨a,rfl⟩:=hy;obtain rfl:=ss (q.symm.trans g3);simp[il]
  ·rename_i q;obtain⟨a,rfl⟩:=hy;have:d=.bool:=by rw[q]at g3;cases d<;>first|rfl|cases g3
   subst this;simp[il]
  ·exact hy.elim
 obtain rfl:=uC hx hu;cases hT with
 |plain i hi h =>
  have hF:oq i.k x:=by
   unfold du at hx;split at hx
   ·rename_i q;rw[q]at h;exact h.elim
   ·exact hx
  exact one 9999 t i hi x hF
 |struct i hi fs hk hq =>
  obtain⟨ti,d,g1,g2,g3,-⟩:=cC (hE.types t i hi);obtain⟨fl,rfl,rfl⟩:=qE (hk.symm.trans g3);obtain⟨l,rfl,hl⟩:=hx;show(Instr.checkKey em (9999+1) t _).run E.P w=_;rw[Instr.checkKey];simp only[adT,run_underlying g2,adU,il];rw[<- Array.forIn_toList]
  generalize dP:(l.map fun
   | .int j n=>Value.int j n
   | .str s => .string ⟨s.toArray⟩
   | .bool b => .bool b
   |_=>undef)=cs
  have bG:∀ (j:Nat) (y:DV),l[j]?=some y->cs[0+j]?=some (il y):=fun j y hy=>by
   rw[<- dP];have:=hl.flat y (afh hy);simp[hy];cases y<;>first|rfl|exact this.elim
  clear dP;have go:∀ (fl:List Field) (n:Nat) (l:List DV),uB E.T n (fl.map fun f=>(f.offset,f.type)) l->(∀ (j:Nat) (y:DV),l[j]?=some y->cs[n+j]?=some (il y)) ->
    (forIn fl PUnit.unit fun f _ =>
     if f.name ≠ "_" then do
      let d <- part f.type cs.toArray f.offset
      Instr.checkKey em 9999 f.type d
      pure (ForInStep.yield PUnit.unit)
     else pure (ForInStep.yield PUnit.unit):Sem PUnit).run E.P w=.ok PUnit.unit w:=by
   intro fl
   induction fl with
   |nil=>intro n l _ _;simp
   |cons f fl ih =>
    intro n l h hv;cases l with
    |nil=>exact h.elim
    |cons a l =>
     obtain⟨e1,⟨fi,gN,oW⟩,hr⟩:=h;simp only at e1 gN;have fT:fi.k.agg=false:=by
      unfold oq at oW;split at oW<;>first|(rename_i q;rw[q];rfl)|exact oW.elim
     have h0 := hv 0 a rfl;rw [aew] at h0;have hp := yG (hE.types _ fi gN) w cs n (il a) h0 fT;have uD := ih (n + 1) l hr (fun j y hy => by rw [show n + 1 + j = n + (j + 1) by omega]; exact hv (j + 1) y (by simpa using hy));simp only [List.forIn_cons, adT];by_cases BO : f.name = "_"
     ·simp only[BO,ne_eq,not_true_eq_false,if_false,adT,adS,adU];exact uD
     ·simp only[BO,ne_eq,not_false_eq_true,if_true,adT,e1,hp,adU,one 9998 f.type fi gN a oW,adS];exact uD
  have:=go fl.toList 0 l hl bG;rw[this];rfl
end
section
variable {E:Env} {s:List AV} {h:List af} {c:Cx} {G:List (Nat × DV)}
theorem Sk{t:Nat}:bz E (.makeMap t none) s h (.map h.length) (h++[.map []]):=fun o c ac h1 h2 h3 h4=>by
 subst h2;obtain⟨k1,k2⟩:=h3.add (.map []) 0 (.map #[] 0);have bH:(c.add (.map []) 0 (.map #[] 0)).own c.heap.length=some (c.w.heap.size,0):=by simp[Cx.add]
 have nj:(c.add (.map []) 0 (.map #[] 0)).heap[c.heap.length]?=some (.map []):=by simp[Cx.add]
 refine⟨_,.map (some c.w.heap.size),.inl ?_,rfl,k2 ⟨c.w.heap.size,0,#[],0,bH,heap_alloc_new _ _,⟨rfl,by simp,by simp,by simp,rfl⟩,fun j k x m hj=>by simp at hj⟩,.map c.heap.length [] c.w.heap.size 0 nj bH,k1⟩;simp only[execOp,h1,afs,Instr.makeMap];rfl
theorem Sl{b:Nat}{es:List (DV × DV)}(hb:c.heap[b]?=some (.map es)){v:Value}(hv:VR c (.map b) v):∃ blk cap,v=.map (some blk)/\c.own b=some (blk,cap):=by
 cases hv with
 |map _ ee blk cap k1 k2=>exact⟨blk,cap,rfl,k2⟩
 |n0 _ _ k1 _=>rw[hb]at k1;cases k1
theorem w8(h3:aM G c){b:Nat}{es:List (DV × DV)}(hb:c.heap[b]?=some (.map es)){v:Value}(hv:VR c (.map b) v):∃ (blk cap:Nat) (en:Array MapEntry) (ck:Nat),v=.map (some blk)/\c.own b=some (blk,cap)/\c.w.heap[blk]?=some (.map en ck)/\n' en ck es.length/\y6 c.bad c.w es en.toList:=by
 obtain⟨blk,cap,rfl,ho⟩:=Sl hb hv;obtain⟨iX,gZ,en,ck,p1,p2,p3,p4⟩:=h3.box b _ hb;rw[ho]at p1;cases p1;exact⟨blk,cap,en,ck,rfl,ho,p2,p3,by simpa using p3.size,fun j k x m hk hm=>p4 j k x m hk (by simpa using hm)⟩
@[irreducible] def zb (E : Env) (e : Nat) (kd : TK) (x : DV) (es : List (DV × DV)) (K : DV -> Bool -> Prop) : Prop :=
 ∃ (z:DV) (zv:Value),du E.T kd x/\(∀ p∈es,du E.T kd p.1)/\(∀ w,(zeroValue e).run E.P w=.ok zv w)/\(∀ bad w,VD bad w z zv)/\K ((findD x es).getD z) (findD x es).isSome
theorem oX{E:Env}{e:Nat}{kd:TK}{x:DV}{es:List (DV × DV)}{K:DV->Bool->Prop}(z:DV)(zv:Value){v:DV}{f:Bool}(h1:du E.T kd x)(h2:∀ p∈es,du E.T kd p.1)(h3:∀ w,(zeroValue e).run E.P w=.ok zv w)(h4:∀ bad w,VD bad w z zv)
  (e1:(findD x es).getD z=v) (e2:(findD x es).isSome=f) (k:K v f):zb E e kd x es K:=by
 unfold zb;exact⟨z,zv,h1,h2,h3,h4,by rw[e1,e2];exact k⟩
theorem Sm{E:Env}{e:Nat}{kd:TK}{x:DV}{es:List (DV × DV)}{K:DV->Bool->Prop}(h:zb E e kd x es K) :
  ∃ (z:DV) (zv:Value),du E.T kd x/\(∀ p∈es,du E.T kd p.1)/\(∀ w,(zeroValue e).run E.P w=.ok zv w)/\(∀ bad w,VD bad w z zv)/\K ((findD x es).getD z) (findD x es).isSome:=by unfold zb at h;exact h
theorem Sn(hE:E.OK){t kt e:Nat}{m ko:Operand}{ti:bu}(bX:E.T[t]?=some ti)(hk:ti.k=.map kt e){kd:TK}(hT:sJ E kt kd){b:Nat}{es:List (DV × DV)}(hb:h[b]?=some (.map es))(hm:bh E.G s m (.map b)){x:DV}(hx:bh E.G s ko (.d x))
  (h1:du E.T kd x) (h2:∀ p∈es,du E.T kd p.1) {z:DV} {zv:Value} (hz:∀ w,(zeroValue e).run E.P w=.ok zv w) (Sp:∀ bad w,VD bad w z zv) (ok:Bool) :
  bz E (.lookup t m ko ok) s h (match ok with|true => .d (.aF [(findD x es).getD z,.bool (findD x es).isSome])|false => .d ((findD x es).getD z)) h := .quiet fun o c ac e1 e2 h3 h4=>by
 subst e2;obtain⟨mz,d,g1,g2,g3,-⟩:=cC (hE.types t ti bX);have hd:d=.map kt e:=by rw[hk]at g3;cases d<;>first|(cases g3;rfl)|cases g3
 subst hd;obtain⟨blk,cap,en,ck,q1,q2,q3,qe,q4⟩:=w8 h3 hb (hm c ac h3 h4);have cI:=hx c ac h3 h4;generalize hu:ac.eval ko=u at cI;cases cI with
 |d _ _ cI =>
  have r1:=Fb hE hT h1 cI en.isEmpty;have r2:=Fa hE hT h1 cI h2 q4
  have hv:∃ (v:Value) (f:Bool),f=(findD x es).isSome/\VD c.bad c.w ((findD x es).getD z) v/\((match lL x es en.toList 0 with
    |some (_,v)=>pure (v,true)
    |none=>do pure (<- zeroValue e,false):Sem (Value × Bool))).run E.P c.w=.ok (v,f) c.w:=by
   cases hf:fj x es with
   |none =>
    rw[E8 hf];refine⟨zv,false,rfl,Sp _ _,?_⟩;simp[lL,hf,hz]
   |some j =>
    obtain⟨p,p1,p2,p3⟩:=BP hf;rw[p3];have hj:j<en.toList.length:=by rw[q4.1];exact aX p1
    refine⟨en.toList[j].val,true,rfl,(q4.2 j p.1 p.2 _ p1 (by simp)).2,?_⟩;have:en.toList[j]?=some en.toList[j]:=by simp
    simp only[lL,hf,ae0,this,aeT];rfl
  obtain⟨v,f,rfl,fw,cK⟩:=hv;have main:(Instr.lookup t (.map (some blk)) u ok).run E.P c.w=.ok (if ok then .tuple #[v,.bool (findD x es).isSome]else v) c.w:=by
   simp only[Instr.lookup,adT,run_underlying g2,adU,qO q3,adS,r1,r2];have:=cK;cases Kd:lL x es en.toList 0 with
   |none =>
    rw[Kd]at this;simp only[adT,adS]at this ⊢;rw[hz]at this ⊢;simp only[adU,Result.ok.injEq,Prod.mk.injEq]at this ⊢;rw[<- this.1.1,<- this.1.2];first|exact⟨rfl,rfl⟩|exact⟨rfl,trivial⟩|rfl
   |some q =>
    rw[Kd]at this;simp only[adS,Result.ok.injEq,Prod.mk.injEq]at this ⊢;rw[<- this.1.1,<- this.1.2];first|exact⟨rfl,rfl⟩|exact⟨rfl,trivial⟩|rfl
  refine⟨_,by simp only[execOp,e1,q1,hu,adT,main,adU,adS];rfl,?_⟩;cases ok with
  |true =>
   refine .d _ _ (.aF _ _ rfl fun j y w hy hw=>?_)
   match j with
   |0=>simp at hy hw;subst hy;subst hw;exact fw
   |1=>simp at hy hw;subst hy;subst hw;exact .bool _
   |j+2=>simp at hy
  |false=>exact .d _ _ fw
theorem Ke(hE:E.OK){op:Op}{t kt e:Nat}{m ko vo:Operand}(cn:op=.mapUpdate t m ko vo\/op=.insert t m ko vo){ti:bu}(bX:E.T[t]?=some ti)(hk:ti.k=.map kt e){kd:TK}(hT:sJ E kt kd){b:Nat}{es:List (DV × DV)}(hb:h[b]?=some (.map es))(hm:bh E.G s m (.map b)){x y:DV}(hx:bh E.G s ko (.d x))(hy:bh E.G s vo (.d y))
  (h1:du E.T kd x) (h2:∀ p∈es,du E.T kd p.1):bz E op s h (.d .undef) (h.set b (.map (bW x y es))):=fun o c ac e1 e2 h3 h4=>by
 subst e2;obtain⟨mz,d,g1,g2,g3,-⟩:=cC (hE.types t ti bX);have hd:d=.map kt e:=by rw[hk]at g3;cases d<;>first|(cases g3;rfl)|cases g3
 subst hd;have eS:=aX hb;obtain⟨blk,cap,en,ck,q1,q2,q3,qe,q4⟩:=w8 h3 hb (hm c ac h3 h4);have cI:=hx c ac h3 h4;have mw:=hy c ac h3 h4;generalize hu:ac.eval ko=u at cI;generalize hw:ac.eval vo=w at mw;cases cI with
 |d _ _ cI=>cases mw with
  |d _ _ mw =>
   have r1:=Fb hE hT h1 cI false;have r2:=Fa hE hT h1 cI h2 q4;have hblk:blk<c.w.heap.size:=(h3.bB b blk cap q2).1;have main:∃ (jc:Array MapEntry) (nk:Nat),(Instr.mapUpdate t (.map (some blk)) u w).run E.P c.w=.ok () { c.w with heap:=c.w.heap.setIfInBounds blk (.map jc nk) }/\n' jc nk (bW x y es).length /\
     ∀ (j:Nat) (k v:DV) (mm:MapEntry),(bW x y es)[j]?=some (k,v)->jc[j]?=some mm->VD c.bad c.w k mm.key/\VD c.bad c.w v mm.val:=by
    cases hf:fj x es with
    |none =>
     refine⟨en.push { key:=u,val:=w,born:=ck },ck+1,?_,?_,?_⟩
     ·simp only[Instr.mapUpdate,adT,run_underlying g2,adU,qO q3,r1,r2,lL,hf,Option.bind_none,y9 _ q3]
     ·rw[y8 hf,aey];exact qe.push u w
     ·intro j k v mm hj eE;rw[y8 hf]at hj;have hl:en.size=es.length:=by simpa using q4.1
      rcases adV j es.length with ah|aC
      ·rw[ael ah]at hj;rw[aeL,if_neg (by omega)]at eE;exact q4.2 j k v mm hj (by simpa using eE)
      ·have kg:j=es.length:=by
        have:=aX hj;simp at this;omega
       subst kg;rw[ae9 (aed _)]at hj;simp at hj;obtain⟨rfl,rfl⟩:=hj;rw[aeL,if_pos hl.symm]at eE;cases eE;exact⟨cI,mw⟩
    |some i =>
     obtain⟨p,p1,p2,p3⟩:=BP hf;have hl:en.size=es.length:=by simpa using q4.1
     have hi:i<en.size:=by rw[hl];exact aX p1
     have kZ:en[i]?=some en[i]:=by simp[hi]
     have Sq:=(q4.2 i p.1 p.2 en[i] p1 (by simp[hi])).1;have pM:=J' p2;have e3:=uC h1 cI;have e4:=uC (h2 p (afh p1)) Sq;have Fc:Instr.sameBits 10000 en[i].key u=true:=by
      rw[e3,e4,<- pM];exact Ka h1
     refine⟨en.modify i fun e=>{ e with key:=u,val:=w },ck,?_,?_,?_⟩
     ·have Fe:lL x es en.toList 0=some (i,en[i].val):=by
       simp[lL,hf,hi]
      have BR:(Instr.keyThatStays en[i].key u).run E.P c.w=.ok u c.w:=by
       simp only[Instr.keyThatStays,Fc,if_true,adS]
      simp only[Instr.mapUpdate,adT,run_underlying g2,adU,qO q3,r1,r2,Fe,kZ,aeT,aeB,BR,y9 _ q3]
     ·rw[y7 hf,aeX];exact qe.modify i u w
     ·intro j k v mm hj eE;rw[y7 hf]at hj;by_cases lM:j=i
      ·subst lM;rw[aei (by omega)]at hj;cases hj;rw[aes,if_pos rfl,kZ]at eE;cases eE;exact⟨cI,mw⟩
      ·rw[aej (Ne.symm lM)]at hj;rw[aes,if_neg (Ne.symm lM)]at eE;exact q4.2 j k v mm hj (by simpa using eE)
   obtain⟨jc,nk,cK,hlen,gg⟩:=main
   let c':Cx:={ c with heap:=c.heap.set b (.map (bW x y es)),w:={ c.w with heap:=c.w.heap.setIfInBounds blk (.map jc nk) } }
   have zc:c'.w.heap[blk]?=some (.map jc nk):=by simp[c',hblk]
   have sK:∀ b',b'≠blk->c'.w.heap[b']?=c.w.heap[b']? := fun b' cw=>by simp[c',Array.getElem?_setIfInBounds,Ne.symm cw]
   have qP:c'.heap[b]?=some (.map (bW x y es)):=by show(c.heap.set b _)[b]?=_;rw[aei eS]
   have ki:∀ i,i≠b->c'.heap[i]?=c.heap[i]? := fun i hi=>by show(c.heap.set b _)[i]?=_;rw[aej (Ne.symm hi)]
   have bg:Step c c':=⟨rfl,h3.bS,rfl,rfl,rfl,by simp[c'],fun b' _ bI=>sK b' (fun oY=>bI b cap (oY ▸ q2)),fun i b' n hi _=>⟨n,hi⟩,fun i bx hi=>by
    by_cases bF:i=b
    ·subst bF;rw[hb]at hi;cases hi;exact .inl ⟨_,qP,rfl⟩
    ·rw[<- ki i bF]at hi;cases bx with
     |cells cs=>exact .inl ⟨cs,hi,rfl,rfl⟩
     |arr g sz l=>exact .inl ⟨g,l,hi,.inr ⟨rfl,rfl,rfl⟩⟩
     |map es=>exact .inl ⟨es,hi,rfl⟩
     |gone=>exact hi
     |hole=>exact⟨_,hi⟩⟩
   have aP:aM E.G c':=by
    refine h3.next bg (fun i b' n hi=>?_) h3.inj (fun i bx hi=>?_)
    ·have:=h3.bB i b' n hi;refine⟨by simpa [c']using this.1,?_⟩;show i<(c.heap.set b _).length;rw[aeX];exact this.2
    ·by_cases bF:i=b
     ·subst bF;rw[qP]at hi;cases hi;right;exact⟨blk,cap,jc,nk,q2,zc,hlen,fun j k v mm hj eE=>⟨bg.vd (gg j k v mm hj eE).1,bg.vd (gg j k v mm hj eE).2⟩⟩
     ·rw[ki i bF]at hi;exact .inl ⟨hi,rfl,fun b' n hn=>sK b' (fun oY=>bF (h3.inj i b blk n cap (oY ▸ hn) q2))⟩
   refine⟨c',undef,.inr ⟨?_,rfl⟩,rfl,aP,.d _ _ .undef,bg⟩;rcases cn with rfl|rfl
   ·simp only[execOp,e1,q1,hu,hw,adT,cK,adU,adS];rfl
   ·simp only[execOp,e1,q1,hu,hw,adT,cK,adU,adS];rfl
theorem Sr(hE:E.OK){t:Nat}{args:Array Operand}{ts:Array TypeId}{m:Operand}(kf:args.toList[0]?=some m)(jb:ts.toList[0]?=some t){ti:bu}(bX:E.T[t]?=some ti){kt e:Nat}(hk:ti.k=.map kt e){b:Nat}{es:List (DV × DV)}(hb:h[b]?=some (.map es))(hm:bh E.G s m (.map b)) :
  bz E (.call { callee := .builtin .len,args:=args,argTypes:=ts }) s h (.d (.int .i64 es.length)) h := .quiet fun o c ac e1 e2 h3 h4=>by
 subst e2;obtain⟨mz,d,g1,g2,g3,-⟩:=cC (hE.types t ti bX);have hd:d=.map kt e:=by rw[hk]at g3;cases d<;>first|(cases g3;rfl)|cases g3
 subst hd;obtain⟨blk,cap,en,ck,q1,q2,q3,qe,q4⟩:=w8 h3 hb (hm c ac h3 h4);refine⟨.int .i64 es.length,?_,.d _ _ (.int _ _)⟩;have hl:en.size=es.length:=by simpa using q4.1
 have eh:args[0]?=some m:=by simpa using kf
 have ob:ts[0]?=some t:=by simpa using jb
 have wK:(args.map ac.eval)[0]?=some (.map (some blk)):=by rw[Array.getElem?_map,eh];simp[q1]
 simp only[execOp,e1,resolve,invoke,builtin,Builtin.len_,ob,wK,adT,adS,adU,run_underlying g2,qO q3,goInt,hl]
def w9(E:Env)(kt:Nat)(stop:Prop)(k:TK->Prop):Prop:=aZ E.T kt stop fun i=>match i.k with
 | .int j=>k (.int j)
 | .string=>k .string
 | .bool=>k .bool
 | .struct fs=>match yZ kt E.Q with
  |true=>k (.struct fs)
  |false=>stop
 |_=>stop
theorem BS{kt:Nat}{stop:Prop}{k:TK->Prop}(H:w9 E kt stop k):stop\/∃ kd,sJ E kt kd/\k kd:=by
 unfold w9 at H;rcases bp H with H|⟨i,hi,H⟩
 ·exact .inl H
 split at H
 ·rename_i q;exact .inr ⟨_,q ▸ .plain i hi (by rw[q];trivial),H⟩
 ·rename_i q;exact .inr ⟨_,q ▸ .plain i hi (by rw[q];trivial),H⟩
 ·rename_i q;exact .inr ⟨_,q ▸ .plain i hi (by rw[q];trivial),H⟩
 ·rename_i fs q;split at H
  ·rename_i q2;exact .inr ⟨_,.struct i hi fs q (BN q2),H⟩
  ·exact .inl H
 ·exact .inl H
def xa(E:Env)(o:Op)(s:List AV)(h:List af)(stop:Prop)(k:AV->List af->Prop):Prop :=
 match o with
 | .makeMap _ none=>n4 h (.map []) 0 fun h' n=>k (.map n) h'
 | .lookup t m x ok=>aZ E.T t stop fun ti=>match ti.k with
  | .map kt e=>cd E.G s m stop fun
   | .map b=>aZ h b stop fun
    | .map es=>cd E.G s x stop fun
     | .d y=>w9 E kt stop fun kd=>zb E e kd y es fun v f=>match ok with
      |true=>k (.d (.aF [v,.bool f])) h
      |false=>k (.d v) h
     |_=>stop
    |_=>stop
   |_=>stop
  |_=>stop
 | .call { callee := .builtin .len,args:=args,argTypes:=ts }=>aZ args.toList 0 stop fun m=>aZ ts.toList 0 stop fun t=>aZ E.T t stop fun ti=>match ti.k with
  | .map _ _=>cd E.G s m stop fun
   | .map b=>aZ h b stop fun
    | .map es=>k (.d (.int .i64 es.length)) h
    |_=>stop
   |_=>stop
  |_=>stop
 | .mapUpdate t m x v=>aZ E.T t stop fun ti=>match ti.k with
  | .map kt _=>cd E.G s m stop fun
   | .map b=>aZ h b stop fun
    | .map es=>cd E.G s x stop fun
     | .d y=>cd E.G s v stop fun
      | .d z=>w9 E kt stop fun kd=>need (du E.T kd y/\∀ p∈es,du E.T kd p.1) (fG h b (.map (bW y z es)) fun h'=>k (.d .undef) h')
      |_=>stop
     |_=>stop
    |_=>stop
   |_=>stop
  |_=>stop
 |_=>stop
theorem Ss(hE:E.OK){o:Op}{stop:Prop}{k:AV->List af->Prop}(H:xa E o s h stop k):stop\/∃ v h',k v h'/\bz E o s h v h':=by
 unfold xa at H;split at H
 ·rw[sk,ad5]at H;exact .inr ⟨_,_,H,Sk⟩
 ·rename_i t m x ok;rcases bp H with H|⟨ti,bX,H⟩
  ·exact .inl H
  split at H
  ·rename_i kt e hk;rcases cu H with H|⟨a,ha,H⟩
   ·exact .inl H
   split at H
   ·rename_i b;rcases bp H with H|⟨bx,hb,H⟩
    ·exact .inl H
    split at H
    ·rename_i es;rcases cu H with H|⟨y,hy,H⟩
     ·exact .inl H
     split at H
     ·rename_i y;rcases BS H with H|⟨kd,hT,H⟩
      ·exact .inl H
      obtain⟨z,zv,f1,f2,f3,f4,H⟩:=Sm H;have:=Sn (s:=s) hE bX hk hT hb ha hy f1 f2 f3 f4 ok;cases ok with
      |true=>exact .inr ⟨_,_,H,this⟩
      |false=>exact .inr ⟨_,_,H,this⟩
     ·exact .inl H
    ·exact .inl H
   ·exact .inl H
  ·exact .inl H
 ·rename_i args ts;rcases bp H with H|⟨m,hm,H⟩
  ·exact .inl H
  rcases bp H with H|⟨t,ht,H⟩
  ·exact .inl H
  rcases bp H with H|⟨ti,bX,H⟩
  ·exact .inl H
  split at H
  ·rename_i kt e hk;rcases cu H with H|⟨a,ha,H⟩
   ·exact .inl H
   split at H
   ·rename_i b;rcases bp H with H|⟨bx,hb,H⟩
    ·exact .inl H
    split at H
    ·exact .inr ⟨_,_,H,Sr hE hm ht bX hk hb ha⟩
    ·exact .inl H
   ·exact .inl H
  ·exact .inl H
 ·rename_i t m x v;rcases bp H with H|⟨ti,bX,H⟩
  ·exact .inl H
  split at H
  ·rename_i kt e hk;rcases cu H with H|⟨a,ha,H⟩
   ·exact .inl H
   split at H
   ·rename_i b;rcases bp H with H|⟨bx,hb,H⟩
    ·exact .inl H
    split at H
    ·rename_i es;rcases cu H with H|⟨y,hy,H⟩
     ·exact .inl H
     split at H
     ·rename_i y;rcases cu H with H|⟨z,hz,H⟩
      ·exact .inl H
      split at H
      ·rename_i z;rcases BS H with H|⟨kd,hT,H⟩
       ·exact .inl H
       obtain⟨⟨f1,f2⟩,H⟩:=ng H;rw[gF]at H;exact .inr ⟨_,_,H,Ke hE (.inl rfl) bX hk hT hb ha hy hz f1 f2⟩
      ·exact .inl H
     ·exact .inl H
    ·exact .inl H
   ·exact .inl H
  ·exact .inl H
 ·exact .inl H
def ot(E:Env)(o:Op)(s:List AV)(h:List af)(stop:Prop)(k:AV->List af->Prop):Prop:=qK E.T E.G o s h (E4 E o s (xa E o s h stop k) fun v=>k v h) k
theorem ze(hE:E.OK){o:Op}{stop:Prop}{k:AV->List af->Prop}(H:ot E o s h stop k):stop\/∃ v h',k v h'/\bz E o s h v h':=by
 rcases R3 hE H with H|H
 ·rcases Sc H with H|⟨v,H,ho⟩
  ·exact Ss hE H
  ·exact .inr ⟨v,h,H,ho h⟩
 ·exact .inr H
end
end Go.aA
end
