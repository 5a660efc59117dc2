/- Lemmas of mine. Conditions: as stated. -/
import Derived.Test.YtlhehdgciafakaaGreatDoorQ0
import Derived.RangeFuncNested
import Derived.RangeFuncLeaves
import Derived.Laws.AppendOwn
import Derived.Laws.MakeOwn
import Derived.Laws.StructEq
import Derived.Laws.BytesString
import Derived.Lib.ConvBytes
import Derived.WideKeyRuns
import Derived.MapKept
set_option linter.unusedVariables false
set_option linter.unusedSimpArgs false
open Array renaming ext'->aiY,getElem?_eq_getElem->ah2,replicate->ai8,getElem?_toList->ahP,getElem?_push->aij,getElem?_modify->ahZ
open Bool renaming false_eq_true->ah0,and_eq_true->ai2,true_and->aja,not_eq_true'->ajb
open Int renaming toNat_natCast->ai0,toNat_zero->ai'
open List renaming mem_of_getElem?->aiQ,getElem?_set_self->ahQ,range->ais,map_cons->ahx,replicate->ahC,getElem?_append_left->ahT,getElem?_set_ne->ahR,getElem?_eq_none->aht,all_eq_true->ahH,mem_cons_self->aio,getElem?_append_right->aiH,getElem?_eq_getElem->aiX,getElem?_take->ahS,mem_cons_of_mem->aip,getD->ahU,append_assoc->aiK,getElem_mem->aix,eq_nil_of_length_eq_zero->ahM,length_set->aiv,mem_cons->ai3,getElem?_replicate->ah9,exists_cons_of_ne_nil->ahV,getElem?_map->ahy,length_append->ah5,getElem?_drop->ai5,mapM_cons->aiE,mem_map->ahY,take_append_drop->ai9
open Nat renaming beq->ahv,eq_of_beq_eq_true->ahu,le_refl->ahL,lt_or_ge->ahs,add_mul->ahK,blt->ahw,mul_le_mul_right->aiP,zero_add->ahB,mul_comm->aia,one_mul->ah6,le_of_ble_eq_true->ahA,add_zero->ah3,lt_of_lt_of_le->ahD,zero_le->ai4,sub_zero->ai6,beq_refl->ai7,div_lt_of_lt_mul->aiS,div_add_mod->aiU,le_of_eq->aiu,add_assoc->ahE,zero_mul->aiG
open Option renaming getD_some->ah8,bind_some->aiy,getD_none->aiZ,map_none->ai1,map_some->air
open Go.Result renaming andThen_ok->ahr,andThen->ajc
open Go.Sem renaming run_bind->ahq,run_pure->ahp
section
namespace Go.az
open Go Go.RowKit
inductive aY where
 |code (c:Code)
 |inBlock (id:Nat)
 |inLoop (c:Code)
 |bF (ops:Array Oper) (l:List Oper)
 |rj (l:Nat)
 |sK
def aY.bO:aY->Item
 | .code c => .code c
 | .inBlock id => .inBlock id
 | .inLoop c => .inLoop c
 | .bF ops l => .inRegion ops ((ais ops.size).drop (ops.size-l.length))
 | .rj l => .inRangeFunc l
 | .sK => .beginRound
def aY.ok:aY->Prop
 | .bF ops l=>∃ n,n<=ops.size/\l=ops.toList.drop n
 |_=>True
structure ke where
 f:FuncId
 cI:Option Nat
 aS:List Nat
def marks(l:List Nat):List Deferred:=l.map fun d=>{ target := .collected d,args := #[] }
structure cn where
 aj:ke
 todo:List aY
 jP:List AV
def bf(x:ke):Frame:={ (default:Frame)with fn:=x.f,kind := .normal,roundOf:=x.cI }
def cn.bO(f:cn)(t:Array Value):Frame:=(bf f.aj).atR ⟨t,marks f.aj.aS⟩ (f.todo.map aY.bO)
def cn.ok(f:cn):Prop:=∀ i∈f.todo,i.ok
def fG:List cn->List (Array Value)->List Frame
 |f::fs,t::ts=>f.bO t::fG fs ts
 |_,_=>[]
def CR(c:Cx):List cn->List (Array Value)->Prop
 |[],[]=>True
 |f::fs,t::ts=>VS c f.jP t/\f.ok/\CR c fs ts
 |_,_=>False
theorem px{c c':Cx}(h:∀ x v,VR c x v->VR c' x v):∀ {fs:List cn} {ts:List (Array Value)},CR c fs ts->CR c' fs ts
 |[],[],_=>trivial
 |_::_,_::_,h'=>⟨⟨h'.1.1,fun i x v hx hv=>h x v (h'.1.2 i x v hx hv)⟩,h'.2.1,px h h'.2.2⟩
theorem Step.cr{c c':Cx}(h:Step c c'):∀ {fs:List cn} {ts:List (Array Value)},CR c fs ts->CR c' fs ts
 |[],[],_=>trivial
 |_::_,_::_,h'=>⟨h.vs h'.1,h'.2.1,h.cr h'.2.2⟩
def Ay(c0 c:Cx)(i:Nat):ae->Prop
 | .cells cs=>(∃ cs',c.heap[i]?=some (.cells cs')/\c.own i=c0.own i/\cs'.length=cs.length)\/c.heap[i]?=some .gone
 | .arr _ ts l=>(∃ g' l',c.heap[i]?=some (.arr g' ts l')/\(0<g'\/g'=0/\l'.length=l.length/\c.own i=c0.own i))\/c.heap[i]?=some .gone
 | .map _=>(∃ ev,c.heap[i]?=some (.map ev)/\c.own i=c0.own i)\/c.heap[i]?=some .gone
 | .gone=>c.heap[i]?=some .gone
 | .hole=>∃ b,c.heap[i]?=some b
structure Rel(c0 c:Cx):Prop where
 aD:c.aD=c0.aD
 os:c.w.os=c0.w.os
 tape:c.w.tape=c0.w.tape
 output:c.w.output=c0.w.output
 size:c0.w.heap.size<=c.w.heap.size
 keep:∀ b,b<c0.w.heap.size->(∀ i n,c0.own i≠some (b,n))->c.w.heap[b]?=c0.w.heap[b]?
 eh:∀ i b n,c.own i=some (b,n)->b<c0.w.heap.size->∃ m,c0.own i=some (b,m)
 boxes:∀ i bx,c0.heap[i]?=some bx->Ay c0 c i bx
def yv(h:List ae):Prop:=∀ (i g:Nat) (ts:Nat × Nat) (l:List DV),h[i]?=some (.arr g ts l)->g=0
theorem Rel.refl(c:Cx)(hf:yv c.heap):Rel c c:=⟨rfl,rfl,rfl,rfl,ahL _,fun _ _ _=>rfl,fun i b n h _=>⟨n,h⟩,fun i bx h=>by
  cases bx with
  |cells cs=>exact .inl ⟨cs,h,rfl,rfl⟩
  |arr g sz l=>exact .inl ⟨g,l,h,.inr ⟨hf i g sz l h,rfl,rfl⟩⟩
  |map es=>exact .inl ⟨es,h,rfl⟩
  |gone=>exact h
  |hole=>exact⟨_,h⟩⟩
theorem Rel.step{c0 c c':Cx}(h:Rel c0 c)(k:Step c c'):Rel c0 c' where
 aD:=k.aD.trans h.aD
 os:=k.os.trans h.os
 tape:=k.tape.trans h.tape
 output:=k.output.trans h.output
 size:=Nat.le_trans h.size k.size
 keep:=fun x hx hn=>by
  rw[k.keep x (ahD hx h.size) (fun i n hi=>by obtain⟨m,hj⟩:=h.eh i x n hi hx;exact hn i m hj)];exact h.keep x hx hn
 eh:=fun i x n hi hx=>by
  obtain⟨m,hj⟩:=k.eh i x n hi (ahD hx h.size);exact h.eh i x m hj hx
 boxes:=fun i bx hi=>by
  have h1:=h.boxes i bx hi;cases bx with
  |cells cs =>
   rcases h1 with⟨cs',h1,h2,h3⟩|h1
   ·rcases k.boxes i _ h1 with⟨Ga,k1,k2,k3⟩|k1
    ·exact .inl ⟨Ga,k1,k2.trans h2,k3.trans h3⟩
    ·exact .inr k1
   ·exact .inr (k.boxes i _ h1)
  |arr g sz l =>
   rcases h1 with⟨g',l',h1,h2⟩|h1
   ·rcases k.boxes i _ h1 with⟨Gb,Gc,k1,k2⟩|k1
    ·refine .inl ⟨Gb,Gc,k1,?_⟩;rcases h2 with h2|⟨h2,h3,h4⟩<;>rcases k2 with k2|⟨k2,k3,k4⟩
     ·left;omega
     ·left;omega
     ·left;omega
     ·exact .inr ⟨k2.trans h2,k3.trans h3,k4.trans h4⟩
    ·exact .inr k1
   ·exact .inr (k.boxes i _ h1)
  |map es =>
   rcases h1 with⟨ev,h1,h2⟩|h1
   ·rcases k.boxes i _ h1 with⟨Gd,k1,k2⟩|k1
    ·exact .inl ⟨Gd,k1,k2.trans h2⟩
    ·exact .inr k1
   ·exact .inr (k.boxes i _ h1)
  |gone=>exact k.boxes i _ h1
  |hole=>obtain⟨b,h1⟩:=h1;exact(k.boxes i b h1).ex
structure dy(c0 c:Cx):Prop where
 lim:∀ b,c0.aD b->b<c0.w.heap.size
 nz:∀ i p,c0.own i=some p->i<c0.heap.length
 aD:∀ b,c0.aD b->c.aD b
 oz:∀ b,c.aD b->c0.aD b\/c0.w.heap.size<=b
 os:c.w.os=c0.w.os
 tape:c.w.tape=c0.w.tape
 output:c.w.output=c0.w.output
 size:c0.w.heap.size<=c.w.heap.size
 keep:∀ b,b<c0.w.heap.size->(∀ i n,c0.own i≠some (b,n))->c.w.heap[b]?=c0.w.heap[b]?
 eh:∀ i b n,c.own i=some (b,n)->b<c0.w.heap.size->∃ m,c0.own i=some (b,m)
 boxes:∀ i bx,c0.heap[i]?=some bx->Ay c0 c i bx
theorem Rel.x{c0 c:Cx}(h:Rel c0 c)(hb:∀ b,c0.aD b->b<c0.w.heap.size)(ho:∀ i b n,c0.own i=some (b,n)->b<c0.w.heap.size/\i<c0.heap.length):dy c0 c:=⟨hb,fun i p hp=>(ho i p.1 p.2 hp).2,fun b h'=>by rw[h.aD];exact h',fun b h'=>by rw[h.aD]at h';exact .inl h',h.os,h.tape,h.output,h.size,h.keep,h.eh,h.boxes⟩
theorem dy.step{c0 c c':Cx}(h:dy c0 c)(k:Step c c'):dy c0 c':=by
 have h1:Rel ({ c0 with aD:=c.aD }) c:=⟨rfl,h.os,h.tape,h.output,h.size,h.keep,h.eh,fun i bx hi=>by
  have:=h.boxes i bx hi
  cases bx<;>exact this⟩
 have h2:=h1.step k
 exact⟨h.lim,h.nz,fun b hb=>by rw[k.aD];exact h.aD b hb,fun b hb=>by rw[k.aD]at hb;exact h.oz b hb,h2.os,h2.tape,h2.output,h2.size,h2.keep,h2.eh,fun i bx hi=>by
  have:=h2.boxes i bx hi
  cases bx<;>exact this⟩
def Cx.uw(c:Cx)(aD:Nat->Prop):Cx:={ c with aD:=aD }
theorem dy.clean{c0 c:Cx}(h:dy c0 c):Rel c0 (c.uw c0.aD):=⟨rfl,h.os,h.tape,h.output,h.size,h.keep,h.eh,fun i bx hi=>by
 have:=h.boxes i bx hi
 cases bx<;>exact this⟩
theorem nB{c c':Cx}{i:Nat}{bx:ae}(h1:c.heap[i]?=some bx)(h2:c'.heap[i]?=c.heap[i]?)(h3:c'.own i=c.own i):vR c c' i bx:=by
 rw[h1]at h2;cases bx with
 |cells cs=>exact .inl ⟨cs,h2,h3,rfl⟩
 |arr g sz l=>exact .inl ⟨g,l,h2,.inr ⟨rfl,rfl,h3⟩⟩
 |map es=>exact .inl ⟨es,h2,h3⟩
 |gone=>exact h2
 |hole=>exact⟨_,h2⟩
theorem lp.gen{c c':Cx}(iX:∀ x v,VR c x v->VR c' x v)(fH:∀ x v,VD c.bad c.w x v->VD c'.bad c'.w x v){i:Nat}{bx:ae}(hb:lp c i bx)(ho:c'.own i=c.own i)(hw:∀ b n,c.own i=some (b,n)->c'.w.heap[b]?=c.w.heap[b]?):lp c' i bx:=by
 cases bx with
 |cells cs =>
  obtain⟨blk,cap,vs,ty,h1,h2,h3,h4⟩:=hb;exact⟨blk,cap,vs,ty,ho.trans h1,(hw blk cap h1).trans h2,h3,fun j x v hx hv=>iX x v (h4 j x v hx hv)⟩
 |arr g ts l =>
  obtain⟨h0,h1,h2⟩:=hb;refine⟨h0,h1,?_⟩;rcases h2 with⟨h2,h3⟩|⟨blk,cap,vs,h2,h3,h4,h5,h6,h7⟩
  ·exact .inl ⟨ho.trans h2,h3⟩
  ·refine .inr ⟨blk,cap,vs,ho.trans h2,(hw blk cap h2).trans h3,h4,h5,h6,fun i j e x he hx=>?_⟩;obtain⟨v,h8,Al,h9⟩:=h7 i j e x he hx;exact⟨v,h8,Al,fH x v h9⟩
 |map es =>
  obtain⟨blk,cap,en,ck,h1,h2,h3,h4⟩:=hb;exact⟨blk,cap,en,ck,ho.trans h1,(hw blk cap h1).trans h2,h3,fun j k x m hx hm=>⟨fH _ _ (h4 j k x m hx hm).1,fH _ _ (h4 j k x m hx hm).2⟩⟩
 |gone=>exact ho.trans hb
 |hole=>exact ho.trans hb
theorem LP{c:Cx}{aD:Nat->Prop}(hb:∀ b,aD b->c.aD b)(b:Nat)(_:b<c.w.heap.size)(hn:¬ c.bad b):¬ (c.uw aD).bad b/\(c.uw aD).w.heap[b]?=c.w.heap[b]? :=
 ⟨fun h=>hn (h.elim (fun h => .inl (hb b h)) .inr),rfl⟩
theorem GB{c:Cx}{aD:Nat->Prop}(hb:∀ b,aD b->c.aD b){x:AV}{v:Value}(hv:VR c x v):VR (c.uw aD) x v:=um (LP hb) (fun _ _ hi=>nB hi rfl rfl) hv
theorem aO.uw{G:List (Nat × DV)}{c:Cx}{aD:Nat->Prop}(ho:aO G c)(hb:∀ b,aD b->c.aD b):aO G (c.uw aD) where
 bV:=fun b h=>ho.bV b (hb b h)
 bD:=ho.bD
 inj:=ho.inj
 sep:=fun i b n hi h=>ho.sep i b n hi (hb b h)
 box:=fun i bx hi=>(ho.box i bx hi).gen (fun _ _=>GB hb) (fun _ _ hv=>hv.mono (LP hb)) rfl (fun _ _ _=>rfl)
 gI:=fun g e hg=>GB hb (ho.gI g e hg)
structure Row where
 blk:Nat
 cap:Nat
 ts:Nat × Nat
 l:List DV
structure nC(lim:Nat)(c:Cx)(r:Row):Prop where
 aD:c.aD r.blk
 new:lim<=r.blk
 pos:0<r.ts.2
 len:∀ (i:Nat) (e:DV),r.l[i]?=some e->e.cells.length=r.ts.2
 mem:∃ vs:Array Value,c.w.heap[r.blk]?=some (.cells vs r.ts.1 (0,0))/\vs.size=r.cap*r.ts.2/\r.l.length<=r.cap/\r.cap<=maxLen /\
  ∀ (i j:Nat) (e x:DV),r.l[i]?=some e->e.cells[j]?=some x->∃ v,vs[i*r.ts.2+j]?=some v/\v.oneCell'=true/\VD c.bad c.w x v
structure Iter where
 bm:Nat
 r:Nat
 en:Array MapEntry
 ck:Nat
 since:Nat
 seen:List Nat
 es:List (DV × DV)
structure nD(lim:Nat)(c:Cx)(i:Iter):Prop where
 GC:c.aD i.bm
 Az:c.aD i.r
 LQ:lim<=i.r
 map:c.w.heap[i.bm]?=some (.map i.en i.ck)
 iter:∃ c0,i.since<=c0/\(i.seen≠[]->c0=i.ck)/\c.w.heap[i.r]?=some (.mapIter (some i.bm) i.since ((i.seen.map fun j=>((i.en[j]?).map (·.born)).getD 0).toArray) c0)
 old:∀ x∈i.en.toList,x.born<i.since
 bM:pr i.en i.ck i.es.length
 val:∀ (j:Nat) (k x:DV) (m:MapEntry),i.es[j]?=some (k,x)->i.en[j]?=some m->VD c.bad c.w k m.key/\VD c.bad c.w x m.val
 lt:∀ j∈i.seen,j<i.en.size
structure ma where
 l:Nat
 d:Nat
 st:LoopState
 pe:Option Code
 fn:FuncId
 tm:Array Value
 ps:Array Tmp
 assign:Code
 body:Code
 jP:List AV
def ma.fS(i:ma):Loop:={ state:=i.st,pending:=i.pe,fn:=i.fn,tmps:=i.tm,params:=i.ps,assign:=i.assign,body:=i.body,defers:=i.d }
structure py(lim:Nat)(c:Cx)(i:ma):Prop where
 aD:c.aD i.l
 new:lim<=i.l
 mem:c.w.heap[i.l]?=some (.loop i.fS)
 jP:VS c i.jP i.tm
structure ux(lim:Nat)(c:Cx)(d:Nat):Prop where
 aD:c.aD d
 new:lim<=d
 mem:c.w.heap[d]?=some (.deferred (some []))
inductive br where
 |row (r:Row)
 |iter (i:Iter)
 |loop (i:ma)
 |mark (d:Nat)
def br.cy:br->List Nat
 | .row r=>[r.blk]
 | .iter i=>[i.bm,i.r]
 | .loop i=>[i.l]
 | .mark d=>[d]
def kf(lim:Nat)(c:Cx):br->Prop
 | .row r=>nC lim c r
 | .iter i=>nD lim c i
 | .loop i=>py lim c i
 | .mark d=>ux lim c d
structure iD(lim:Nat)(c:Cx)(rows:List br):Prop where
 each:∀ r∈rows,kf lim c r
 nodup:(rows.flatMap br.cy).Nodup
theorem iD.nil{lim:Nat}{c:Cx}:iD lim c []:=⟨fun r hr=>by simp at hr,List.nodup_nil⟩
theorem nC.gen{lim:Nat}{c c':Cx}{r:Row}(h:nC lim c r)(hb:c'.aD r.blk)(hw:c'.w.heap[r.blk]?=c.w.heap[r.blk]?)(fH:∀ x v,VD c.bad c.w x v->VD c'.bad c'.w x v):nC lim c' r:=by
 obtain⟨h1,h2,h3,h4,vs,h5,h6,h7,h8,h9⟩:=h;exact⟨hb,h2,h3,h4,vs,hw.trans h5,h6,h7,h8,fun i j e x he hx=>by obtain⟨v,k1,k2,k3⟩:=h9 i j e x he hx;exact⟨v,k1,k2,fH x v k3⟩⟩
theorem nD.gen{lim:Nat}{c c':Cx}{i:Iter}(h:nD lim c i)(hb:c'.aD i.bm)(hr:c'.aD i.r)(hw:c'.w.heap[i.bm]?=c.w.heap[i.bm]?)(wg:c'.w.heap[i.r]?=c.w.heap[i.r]?)(fH:∀ x v,VD c.bad c.w x v->VD c'.bad c'.w x v):nD lim c' i:=by
 obtain⟨h1,h2,h3,h4,h5,h6,h7,h8,h9⟩:=h;exact⟨hb,hr,h3,hw.trans h4,(by obtain⟨c0,k1,k0,k2⟩:=h5;exact⟨c0,k1,k0,wg.trans k2⟩),h6,h7,fun j k x m h1 h2=>⟨fH _ _ (h8 j k x m h1 h2).1,fH _ _ (h8 j k x m h1 h2).2⟩,h9⟩
theorem kf.aD{lim:Nat}{c:Cx}:∀ {g:br},kf lim c g->∀ b∈g.cy,c.aD b
 | .row r,h,b,hb=>by simp[br.cy]at hb;subst hb;exact nC.aD h
 | .iter i,h,b,hb=>by simp[br.cy]at hb;rcases hb with rfl|rfl;exact nD.GC h;exact nD.Az h
 | .loop i,h,b,hb=>by simp[br.cy]at hb;subst hb;exact py.aD h
 | .mark d,h,b,hb=>by simp[br.cy]at hb;subst hb;exact ux.aD h
theorem kf.gen{lim:Nat}{c c':Cx}{g:br}(h:kf lim c g)(hb:∀ b∈g.cy,c'.aD b/\c'.w.heap[b]?=c.w.heap[b]?)(fH:∀ x v,VD c.bad c.w x v->VD c'.bad c'.w x v)(iX:∀ x v,VR c x v->VR c' x v):kf lim c' g:=by
 cases g with
 |loop i =>
  obtain⟨h1,h2,h3,h4⟩:=h;have:=hb i.l (by simp[br.cy]);exact⟨this.1,h2,this.2.trans h3,h4.1,fun j x v hx hv=>iX x v (h4.2 j x v hx hv)⟩
 |mark d =>
  obtain⟨h1,h2,h3⟩:=h;have:=hb d (by simp[br.cy]);exact⟨this.1,h2,this.2.trans h3⟩
 |row r=>exact nC.gen h (hb _ (by simp[br.cy])).1 (hb _ (by simp[br.cy])).2 fH
 |iter i=>exact nD.gen h (hb i.bm (by simp[br.cy])).1 (hb i.r (by simp[br.cy])).1 (hb i.bm (by simp[br.cy])).2 (hb i.r (by simp[br.cy])).2 fH
theorem iD.step{G:List (Nat × DV)}{lim:Nat}{c c':Cx}{rows:List br}(h:iD lim c rows)(ho:aO G c)(st:Step c c'):iD lim c' rows :=
 ⟨fun r hr=>(h.each r hr).gen (fun b hb=>by
  have h1:=(h.each r hr).aD b hb
  exact⟨by rw[st.aD];exact h1,st.keep b (ho.bV _ h1) (fun i n hi=>ho.sep i _ n hi h1)⟩) (fun _ _=>st.vd) (fun _ _=>st.vr),h.nodup⟩
def br.flat:br->Prop
 | .loop _=>False
 |_=>True
structure dp(lim:Nat)(c:Cx)(rows loops:List br):Prop where
 all:iD lim c (rows++loops)
 flat:∀ g∈rows,g.flat
theorem dp.nil{lim:Nat}{c:Cx}:dp lim c [] []:=⟨.nil,fun g h=>by simp at h⟩
theorem dp.step{G:List (Nat × DV)}{lim:Nat}{c c':Cx}{rows loops:List br}(h:dp lim c rows loops)(ho:aO G c)(st:Step c c'):dp lim c' rows loops:=⟨h.all.step ho st,h.flat⟩
structure FX where
 f0:FuncId
 cI:Option Nat
 aS:List Nat
 cls:List cn
 loops:List br
 inl:List FuncId
structure cT where
 n:Nat
 Q:AV->List ae->Prop
 rows:List br
 fx:FX
@[irreducible] def AW (E : Env) (f0 : FuncId) (cur : cn) (cls : List cn) (h : List ae) (R : cT) : Prop :=
 ∀ (c0 c:Cx) (t:Array Value) (ts:List (Array Value)),c0.heap.length=R.n->cur.ok->c.heap=h->aO E.G c->dy c0 c->dp c0.w.heap.size c R.rows R.fx.loops->VS c cur.jP t->CR c cls ts->∀ cs,∃ (c':Cx) (fr:Frame) (r:AV) (v:Value),
  R.Q r c'.heap/\VR c' r v/\aO E.G c'/\dy c0 c'/\Steps E.P (lone (cur.bO t) (fG cls ts++cs) c.w) (lone fr cs c'.w)/\fr.fn=f0/\fr.leaving E.P c'.w (.returned v)
def GF(E:Env)(cur:cn)(cls:List cn)(h:List ae)(cur':cn)(cls':List cn)(h':List ae):Prop :=
 ∀ (c:Cx) (t:Array Value) (ts:List (Array Value)),cur.ok->c.heap=h->aO E.G c->VS c cur.jP t->CR c cls ts->∃ (c':Cx) (t':Array Value) (fj:List (Array Value)),
  cur'.ok/\c'.heap=h'/\aO E.G c'/\VS c' cur'.jP t'/\CR c' cls' fj/\Step c c'/\∀ cs,Steps E.P (lone (cur.bO t) (fG cls ts++cs) c.w) (lone (cur'.bO t') (fG cls' fj++cs) c'.w)
theorem AW.mb{E:Env}{f0:FuncId}{cur cur':cn}{cls cls':List cn}{h h':List ae}{R:cT}(hl:GF E cur cls h cur' cls' h')(H:AW E f0 cur' cls' h' R):AW E f0 cur cls h R:=by
 unfold AW at H ⊢;intro c0 c t ts h0 h1 h2 h3 hr bz h4 h5 cs;obtain⟨c',t',fj,k1,k2,k3,k4,k5,k6,k7⟩:=hl c t ts h1 h2 h3 h4 h5;obtain⟨c2,fr,r,v,e1,e2,e3,e4,e5,e6⟩:=H c0 c' t' fj h0 k1 k2 k3 (hr.step k6) (bz.step h3 k6) k4 k5 cs;exact⟨c2,fr,r,v,e1,e2,e3,e4,(k7 cs).trans e5,e6⟩
section
variable {E:Env} {f0:FuncId} {aj:ke} {k:List aY} {s:List AV} {cls:List cn} {h:List ae} {R:cT}
theorem GF.todo{td GG:List aY}(aV:(∀ i∈td,i.ok)->∀ i∈GG,i.ok)(hs:∀ (a:Act) (cs:List Frame) (w:World),step E.P (lone ((bf aj).atR a (td.map aY.bO)) cs w)=.next (lone ((bf aj).atR a (GG.map aY.bO)) cs w)) :
  GF E ⟨aj,td,s⟩ cls h ⟨aj,GG,s⟩ cls h:=fun c t ts h1 h2 h3 h4 h5 =>
 ⟨c,t,ts,aV h1,h2,h3,h4,h5,Step.refl c h3.bV,fun _ => .one (hs _ _ _)⟩
theorem eV{i:aY}(h:∀ j∈i::k,j.ok):∀ j∈k,j.ok:=fun j hj=>h j (aip _ hj)
theorem yw{c:Code}:(aY.code c).ok:=trivial
theorem Uj{n:Nat}:(aY.inBlock n).ok:=trivial
theorem LR{c:Code}:(aY.inLoop c).ok:=trivial
theorem iM{i:aY}(h:i.ok)(hk:∀ j∈k,j.ok):∀ j∈i::k,j.ok:=fun j hj=>by
 rcases ai3.1 hj with rfl|hj
 ·exact h
 ·exact hk j hj
theorem AW.skip(H:AW E f0 ⟨aj,k,s⟩ cls h R):AW E f0 ⟨aj,.code .skip::k,s⟩ cls h R := .mb (.todo eV fun _ _ _=>stepR_skip) H
theorem AW.inBlock{id:Nat}(H:AW E f0 ⟨aj,k,s⟩ cls h R):AW E f0 ⟨aj,.inBlock id::k,s⟩ cls h R := .mb (.todo eV fun _ _ _=>stepR_inBlock) H
theorem AW.seq{a b:Code}(H:AW E f0 ⟨aj,.code a :: .code b::k,s⟩ cls h R):AW E f0 ⟨aj,.code (.seq a b)::k,s⟩ cls h R := .mb (.todo (fun h=>iM yw (iM yw (eV h))) fun _ _ _=>stepR_seq) H
theorem AW.block{id:Nat}{b:Code}(H:AW E f0 ⟨aj,.code b :: .inBlock id::k,s⟩ cls h R):AW E f0 ⟨aj,.code (.block id b)::k,s⟩ cls h R := .mb (.todo (fun h=>iM yw (iM Uj (eV h))) fun _ _ _=>stepR_block) H
theorem AW.loop{b:Code}(H:AW E f0 ⟨aj,.code b :: .inLoop b::k,s⟩ cls h R):AW E f0 ⟨aj,.code (.loop b)::k,s⟩ cls h R := .mb (.todo (fun h=>iM yw (iM LR (eV h))) fun _ _ _=>stepR_loop) H
theorem AW.inLoop{b:Code}(H:AW E f0 ⟨aj,.code b :: .inLoop b::k,s⟩ cls h R):AW E f0 ⟨aj,.inLoop b::k,s⟩ cls h R := .mb (.todo (fun h=>iM yw (iM LR (eV h))) fun _ _ _=>stepR_inLoop) H
theorem AW.region{id:Nat}{ops:Array Oper}(H:AW E f0 ⟨aj,.bF ops ops.toList::k,s⟩ cls h R):AW E f0 ⟨aj,.code (.region id ops false)::k,s⟩ cls h R :=
 .mb (.todo (fun h=>iM (i := .bF ops ops.toList) ⟨0,by simp,by simp⟩ (eV h)) fun a cs w=>by
  rw[ahx,ahx];simp only[aY.bO];rw[stepR_region]
  simp) H
theorem AW.Uk{ops:Array Oper}(H:AW E f0 ⟨aj,k,s⟩ cls h R):AW E f0 ⟨aj,.bF ops []::k,s⟩ cls h R :=
 .mb (.todo eV fun a cs w=>by
  rw[ahx];simp only[aY.bO,List.length_nil,ai6]
  rw[List.drop_of_length_le sP,stepR_region_end]) H
def oA(id:Nat):List aY->Option (List aY)
 | .inBlock i::r=>match ahv i id with
  |true=>some r
  |false=>oA id r
 |_::r=>oA id r
 |[]=>none
theorem wh{id:Nat}:∀ {l r:List aY},oA id l=some r->exitTo id (l.map aY.bO)=some (r.map aY.bO)
 | .inBlock i::l,r,hl=>by
  simp only[oA]at hl;simp only[ahx,aY.bO,exitTo];split at hl
  ·rename_i q;cases hl;rw[if_pos (zD (ahu q))]
  ·rename_i q
   rw[if_neg (by intro hh;have : i=id := zD hh
                 rw[this, ai7]at q;cases q)]
   exact wh hl
 | .code c::l,r,hl=>wh (l:=l) hl
 | .inLoop c::l,r,hl=>wh (l:=l) hl
 | .rj c::l,r,hl=>wh (l:=l) hl
 | .sK::l,r,hl=>wh (l:=l) hl
 | .bF ops q::l,r,hl=>wh (l:=l) hl
theorem wi{id:Nat}:∀ {l r:List aY},oA id l=some r->(∀ i∈l,i.ok)->∀ i∈r,i.ok
 | .inBlock i::l,r,hl,hk=>by
  simp only[oA]at hl;split at hl
  ·cases hl;exact eV hk
  ·exact wi hl (eV hk)
 | .code c::l,r,hl,hk=>wi (l:=l) hl (eV hk)
 | .inLoop c::l,r,hl,hk=>wi (l:=l) hl (eV hk)
 | .rj c::l,r,hl,hk=>wi (l:=l) hl (eV hk)
 | .sK::l,r,hl,hk=>wi (l:=l) hl (eV hk)
 | .bF ops q::l,r,hl,hk=>wi (l:=l) hl (eV hk)
theorem AW.exit{id:Nat}{r:List aY}(hr:oA id k=some r)(H:AW E f0 ⟨aj,r,s⟩ cls h R):AW E f0 ⟨aj,.code (.exit id)::k,s⟩ cls h R :=
 .mb (.todo (fun h=>wi hr (eV h)) fun _ _ _=>stepR_exit (wh hr)) H
theorem AW.cond{x:Operand}{a b:Code}{t:Bool}(hx:bk E.G s x (.d (.bool t)))(H:AW E f0 ⟨aj,.code (if t then a else b)::k,s⟩ cls h R):AW E f0 ⟨aj,.code (.cond x a b)::k,s⟩ cls h R :=
 .mb (cur':=⟨aj,.code (if t then a else b)::k,s⟩) (cls':=cls) (h':=h) (fun c t' ts h1 h2 h3 h4 h5=>⟨c,t',ts,iM yw (eV h1),h2,h3,h4,h5,Step.refl c h3.bV,fun _ => .one (stepR_cond (vZ (hx c ⟨t',marks aj.aS⟩ h3 h4)))⟩) H
theorem oB{ops:Array Oper}{o:Oper}{l:List Oper}(hk:(aY.bF ops (o::l)).ok):∃ i,ops[i]?=some o/\(aY.bF ops (o::l)).bO=.inRegion ops (i::(ais ops.size).drop (ops.size-l.length))/\(aY.bF ops l).ok:=by
 obtain⟨n,h1,h2⟩:=hk;have h3:(ops.toList.drop n).length=l.length+1:=by rw[<- h2];rfl
 have h4:ops.size-n=l.length+1:=zD h3
 have hn:n<ops.size:=by omega
 refine⟨n,?_,?_,n+1,by omega,?_⟩
 ·have:=congrArg (·[0]?) h2;simp at this
  simpa using this.symm
 ·simp only[aY.bO,List.length_cons]
  congr 1
  rw[show ops.size-(l.length+1)=n by omega,show ops.size-l.length=n+1 by omega];rw[List.drop_eq_getElem_cons (zD hn)];simp
 ·have:=congrArg List.tail h2
  simpa using this
theorem uy{P:Program}{o:Oper}{ρ : Operand->Value}{ro:Option Nat}{w w':World}{n:Next}(h:(execOp ρ o).run P w=.ok n w')(hn:∀ d,n ≠ .defer d):(o.semAt ro ρ).run P w=.ok n w':=by
 rw[Oper.semAt_eq]
 ·exact h
 ·intro c hc;simp only[execOp,hc,ahq]at h;cases hr:(resolve ρ c o.type).run P w with
  |ok d w1 =>
   rw[hr]at h;simp only[ahr,ahp]at h;cases h;exact hn d rfl
  |halt a b=>rw[hr]at h;cases h
theorem yx{P:Program}{b:Frame}{a:Act}{k:List Item}{cs:List Frame}{w w':World}{ops:Array Oper}{i:Nat}{rest:List Nat}{o:Oper}{v:Value}(ho:ops[i]?=some o)(hw:Region.wanted o (yielded ops a.tmps)=true)(hd:Gm P o a w v w') :
  step P (lone (b.atR a (.inRegion ops (i::rest)::k)) cs w)=.next (lone (b.atR (a.put o.dst v) (.inRegion ops rest::k)) cs w'):=by
 have hg:=stepGR_op (P:=P) (b:=b) (k:=k) (cs:=cs) (w:=w) (rest:=rest) ho hw;have iE:∀ v,(b.atR a (.inRegion ops (i::rest)::k)).finish v=b.atR (a.put o.dst v) (.inRegion ops rest::k):=by
  intro v;rw[Frame.finish_atR,ho];rfl
 rcases hd with hr|⟨hr,rfl⟩
 ·exact step_lone_go (by rw[hg,<- iE];simp[stepG.apply,uy hr])
 ·exact step_lone_go (by rw[hg,<- iE];simp[stepG.apply,uy hr])
def cg(s:List AV)(d:Option Nat)(v:AV):List AV:=match d with
 |some d=>s.set d v
 |none=>s
theorem eW{α:Sort _}(s:List AV)(d:Option Nat)(v:AV)(k:List AV->α):cz s d v k=k (cg s d v):=by
 cases d with
 |none=>rfl
 |some d=>simp only[cz,jk,cg]
theorem VS.cg{c:Cx}{a:Act}(hs:VS c s a.tmps)(d:Option Nat){x:AV}{v:Value}(hv:VR c x v):VS c (cg s d x) (a.put d v).tmps:=by
 cases d with
 |none=>exact hs
 |some d=>exact hs.put d hv
theorem put_defers(a:Act)(d:Option Nat)(v:Value):(a.put d v)=⟨(a.put d v).tmps,a.defers⟩:=by cases d<;>rfl
def jm(ops:Array Oper)(o:Oper)(s:List AV)(b:Bool):Prop:=∀ (c:Cx) (t:Array Value),VS c s t->Region.wanted o (yielded ops t)=b
theorem iF{ops:Array Oper}{o:Oper}(h:o.guard=none):jm ops o s true:=fun _ _ _=>by simp[Region.wanted,h]
theorem yy{ops:Array Oper}{o oj:Oper}{j d:Nat}{g b:Bool}(h:o.guard=some (j,g))(hj:ops.toList[j]?=some oj)(hd:oj.dst=some d)(hs:s[d]?=some (.d (.bool b))):jm ops o s (b==g):=fun c t hv=>by
 have jn:d<t.size:=by
  rw[<- hv.1];rcases ahs d s.length with h|h
  ·exact h
  ·rw[aht h]at hs;cases hs
 have ht:t[d]?=some (.bool b):=by
  rw[ah2 jn,vZ (hv.2 d _ _ hs (ah2 jn))]
 have fh:ops[j]?=some oj:=zD hj
 simp only[Region.wanted,h,yielded,fh,hd,aiy,ht];cases b<;>cases g<;>rfl
theorem LS{ops:Array Oper}{o oj:Oper}{j d:Nat}{g:Bool}(h:o.guard=some (j,g))(hj:ops.toList[j]?=some oj)(hd:oj.dst=some d)(hs:s[d]?=some (.d .undef)):jm ops o s false:=fun c t hv=>by
 have jn:d<t.size:=by
  rw[<- hv.1];rcases ahs d s.length with h|h
  ·exact h
  ·rw[aht h]at hs;cases hs
 have ht:t[d]?=some Go.undef:=by
  have:=hv.2 d _ _ hs (ah2 jn);rw[ah2 jn];generalize t[d]=u at this;cases this with
  |d _ _ hx=>cases hx;rfl
 have fh:ops[j]?=some oj:=zD hj
 simp only[Region.wanted,h,yielded,fh,hd,aiy,ht];rfl
theorem AW.op{ops:Array Oper}{o:Oper}{l:List Oper}{v:AV}{h':List ae}(hw:jm ops o s true)(ho:bE E o.op s h v h')(H:AW E f0 ⟨aj,.bF ops l::k,cg s o.dst v⟩ cls h' R):AW E f0 ⟨aj,.bF ops (o::l)::k,s⟩ cls h R :=
 .mb (fun c t ts h1 h2 h3 h4 h5=>by
  obtain⟨i,hi,hc,aV⟩:=oB (h1 _ (aio ..));obtain⟨c',u,k1,k2,k3,k4,k5⟩:=ho o c ⟨t,marks aj.aS⟩ rfl h2 h3 h4;refine⟨c',((⟨t,marks aj.aS⟩:Act).put o.dst u).tmps,ts,iM aV (eV h1),k2,k3,VS.cg (a:=⟨t,marks aj.aS⟩) (k5.vs h4) o.dst k4,k5.cr h5,k5,fun cs => .one ?_⟩;simp only[cn.bO,ahx,hc];rw[yx hi (hw c t h4) k1,put_defers]
  rfl) H
theorem AW.LU{ops:Array Oper}{o:Oper}{l:List Oper}(hw:jm ops o s false)(H:AW E f0 ⟨aj,.bF ops l::k,cg s o.dst (.d .undef)⟩ cls h R):AW E f0 ⟨aj,.bF ops (o::l)::k,s⟩ cls h R :=
 .mb (fun c t ts h1 h2 h3 h4 h5=>by
  obtain⟨i,hi,hc,aV⟩:=oB (h1 _ (aio ..));refine⟨c,((⟨t,marks aj.aS⟩:Act).put o.dst Go.undef).tmps,ts,iM aV (eV h1),h2,h3,VS.cg (a:=⟨t,marks aj.aS⟩) h4 o.dst (.d _ _ .undef),h5,Step.refl c h3.bV,fun cs => .one ?_⟩;simp only[cn.bO,ahx,hc];rw[stepR_op_skip (by simp[hi];exact hw c t h4)];simp only[hi,aiy];rw[put_defers]
  rfl) H
end
end Go.az
end
section
namespace Go.az
open Go Go.RowKit
def kM(bad:Nat->Prop)(w:World)(l:List DV)(vs:List Value):Prop:=l.length=vs.length/\∀ (j:Nat) (x:DV) (v:Value),l[j]?=some x->vs[j]?=some v->VD bad w x v
def uz(G:List (Nat × DV))(aD:Nat->Prop)(w:World):Prop:=∀ g e,(g,e)∈G->VR ⟨fun _=>none,[],aD,w⟩ (.bT e 0) (.pointer (some ⟨g,0,none⟩))
def mc (P : Program) (f : FuncId) : Prop := ∃ fn, P.funcs[f]? = some fn /\ fn.body.isNone = false /\ (fn.name == "runtime.NumGoroutine") = false
@[irreducible] def aq (E : Env) (f : FuncId) (args : List DV) (R : DV -> Prop) : Prop :=
 mc E.P f/\∀ (aD:Nat->Prop) (w:World) (vs:List Value),(∀ b,aD b->b<w.heap.size)->uz E.G aD w->kM aD w args vs ->
  Calls E.P f vs.toArray w fun e w'=>∃ v r,e=.returned v/\R r/\VD aD w' r v/\Proofs.YtlhehdgciafakaaGreatDoor.Ext w w'
theorem wj{aD:Nat->Prop}{w:World}{h:List ae}{b:Nat}:(⟨fun _=>none,h,aD,w⟩:Cx).bad b↔aD b :=
 ⟨fun hb=>hb.elim id (fun⟨_,_,h⟩=>(by cases h)),.inl⟩
theorem wk{aD:Nat->Prop}{w:World}{h:List ae}{x:DV}{v:Value}(hv:VD aD w x v):VD (⟨fun _=>none,h,aD,w⟩:Cx).bad w x v :=
 hv.mono fun _ _ hn=>⟨fun hb=>hn (wj.1 hb),rfl⟩
theorem aq.mono{E:Env}{f:FuncId}{args:List DV}{R R':DV->Prop}(H:aq E f args R)(hr:∀ r,R r->R' r):aq E f args R':=by
 unfold aq at H ⊢;exact⟨H.1,fun aD w vs h1 h2 h3=>(H.2 aD w vs h1 h2 h3).mono fun e w' ⟨v,r,k1,k2,k3,k4⟩=>⟨v,r,k1,hr r k2,k3,k4⟩⟩
def oC(args:List AV)(n:Nat):List AV:=args++ahC (n-args.length) (.d .undef)
theorem GH{c:Cx}{args:List AV}{vs:List Value}(n:Nat)(hv:VL c args vs):VS c (oC args n) (vs.toArray++ai8 (n-vs.toArray.size) undef):=by
 have hl:=hv.1;refine⟨by simp[oC,hl],fun i x v hx hu=>?_⟩;simp only[oC]at hx;rcases ahs i args.length with hi|hi
 ·rw[ahT hi]at hx;rw[Array.getElem?_append_left (by simp;omega)]at hu;exact hv.2 i x v hx (zD hu)
 ·rw[aiH hi,ah9]at hx;rw[Array.getElem?_append_right (by simp;omega)]at hu;split at hx
  ·cases hx;simp[Array.getElem?_replicate]at hu;obtain⟨-,rfl⟩:=hu;exact .d _ _ .undef
  ·cases hx
section
variable {E:Env} {f0:FuncId} {aj:ke} {k:List aY} {s:List AV} {cls:List cn} {h:List ae} {R:cT}
theorem Rel.ext{c0 c:Cx}(h:Rel c0 c)(hn:∀ i,c0.own i=none):Proofs.YtlhehdgciafakaaGreatDoor.Ext c0.w c.w:=⟨h.os,h.tape,h.output,h.size,fun b hb=>h.keep b hb (fun i n hi=>by rw[hn i]at hi;cases hi)⟩
@[irreducible] def au (E : Env) (f : FuncId) (h : List ae) (args : List AV) (Q : AV -> List ae -> Prop) : Prop :=
 mc E.P f/\yv h/\∀ (c:Cx) (vs:List Value),c.heap=h->aO E.G c->VL c args vs ->
  Calls E.P f vs.toArray c.w fun e w'=>∃ (c':Cx) (r:AV) (v:Value),e=.returned v/\c'.w=w'/\Q r c'.heap/\VR c' r v/\aO E.G c'/\Rel c c'
theorem au.mono{E:Env}{f:FuncId}{h:List ae}{args:List AV}{Q Q':AV->List ae->Prop}(H:au E f h args Q)(hq:∀ r h,Q r h->Q' r h):au E f h args Q':=by
 unfold au at H ⊢;exact⟨H.1,H.2.1,fun c vs h1 h2 h3=>(H.2.2 c vs h1 h2 h3).mono fun e w' ⟨c',r,v,k1,k2,k3,k4⟩=>⟨c',r,v,k1,k2,hq _ _ k3,k4⟩⟩
theorem au.LV {f : FuncId} {fn : Func} {body : Code} {args : List AV} {Q : AV -> List ae -> Prop} (hf : E.P.funcs[f]? = some fn) (hb : fn.body = some body) (hn : (fn.name == "runtime.NumGoroutine") = false) (nE : yv h)
  (H:AW E f ⟨⟨f,none,[]⟩,[.code body],oC args fn.ntmps⟩ [] h ⟨h.length,Q,[],⟨f,none,[],[],[],[]⟩⟩):au E f h args Q:=by
 unfold AW at H;unfold au;refine⟨⟨fn,hf,by rw[hb];rfl,hn⟩,nE,fun c vs h1 h2 h3=>?_⟩;intro cs;obtain⟨c',fr,r,v,e1,e2,e3,e4,e5,e6,e7⟩:=H c c _ [] (by rw[h1]) (fun i hi=>by simp at hi;subst hi;trivial) h1 h2 ((Rel.refl c (by rw[h1];exact nE)).x h2.bV h2.bD) .nil (GH fn.ntmps h3) trivial cs;refine⟨.returned v,c'.w,fr,⟨c'.uw c.aD,r,v,rfl,rfl,e1,GB e4.aD e2,e3.uw e4.aD,e4.clean⟩,?_,e6,e7⟩;have Ul:Frame.enter E.P f vs.toArray .normal=(⟨⟨f,none,[]⟩,[.code body],oC args fn.ntmps⟩:cn).bO (vs.toArray++ai8 (fn.ntmps-vs.toArray.size) undef):=by
  simp[Frame.enter,cn.bO,Frame.atR,hf,hb,bf,aY.bO,marks]
 show Steps E.P _ _;rw[Ul];exact e5
theorem AA{P:Program}{o:Oper}{a:Act}{w:World}{fx:Operand}{args:Array Operand}{ts:Array TypeId}{f:FuncId}{v1 v2:Array Value}(h1:o.op=.call { callee := .value fx,args:=args,argTypes:=ts })(hf:a.eval fx=.func (.func f) v1 v2)(hb:mc P f) :
  (execOp a.eval o).run P w=.ok (.enter f (v1++args.map a.eval++v2)) w:=by
 obtain⟨fn,g1,g2,g3⟩:=hb;simp only[execOp,h1,resolve,hf,Deferred.ofValue,invoke,callFunc,ahq,ahp,ahr,program,Sem.run,g1,g3,g2,ah0,if_false]
theorem GI{P:Program}{b:Frame}{a:Act}{k:List Item}{cs:List Frame}{w:World}{ops:Array Oper}{i:Nat}{rest:List Nat}{o:Oper}{f:FuncId}{args:Array Value}(ho:ops[i]?=some o)(hw:Region.wanted o (yielded ops a.tmps)=true)
  (hr:(execOp a.eval o).run P w=.ok (.enter f args) w) :
  step P (lone (b.atR a (.inRegion ops (i::rest)::k)) cs w)=.next (lone (Frame.enter P f args .normal) (b.atR a (.inRegion ops (i::rest)::k)::cs) w):=by
 have hg:=stepGR_op (P:=P) (b:=b) (k:=k) (cs:=cs) (w:=w) (rest:=rest) ho hw;have wm:=uy (ro:=b.roundOf) hr sP;exact step_lone_go (by rw[hg];simp[stepG.apply,wm,Frame.atR])
theorem mP{c:Cx}{f:Fn}{a1 a2:List AV}{v:Value}(hv:VR c (.fn f a1 a2) v):∃ v1 v2:List Value,v=.func f v1.toArray v2.toArray/\VL c a1 v1/\VL c a2 v2:=by
 cases hv with
 |fn _ _ _ v1 v2 h1 h2 h3 h4=>exact⟨v1.toList,v2.toList,by simp,⟨zD h1,fun j x v hx hu=>h3 j x v hx (zD hu)⟩,⟨zD h2,fun j x v hx hu=>h4 j x v hx (zD hu)⟩⟩
theorem VL.append{c:Cx}{a1 a2:List AV}{v1 v2:List Value}(h1:VL c a1 v1)(h2:VL c a2 v2):VL c (a1++a2) (v1++v2):=by
 refine⟨by simp[h1.1,h2.1],fun j x v hx hv=>?_⟩;rcases ahs j a1.length with hj|hj
 ·rw[ahT hj]at hx;rw[ahT (by rw[<- h1.1];exact hj)]at hv;exact h1.2 j x v hx hv
 ·rw[aiH hj]at hx;rw[aiH (by rw[<- h1.1];exact hj),<- h1.1]at hv;exact h2.2 _ x v hx hv
theorem AW.call{ops:Array Oper}{o:Oper}{l:List Oper}{fx:Operand}{args:Array Operand}{ts:Array TypeId}{f:FuncId}{a1 a2 av:List AV}{ds:List DV}{R1:DV->Prop}(hw:jm ops o s true)(ho:o.op=.call { callee := .value fx,args:=args,argTypes:=ts })
  (hf:bk E.G s fx (.fn (.func f) a1 a2)) (ha:kK E.G s args.toList av) (hd:a1++av++a2=ds.map .d) (hc:aq E f ds R1)
  (H:∀ r,R1 r->AW E f0 ⟨aj,.bF ops l::k,cg s o.dst (.d r)⟩ cls h R):AW E f0 ⟨aj,.bF ops (o::l)::k,s⟩ cls h R:=by
 unfold AW at H ⊢;unfold aq at hc;intro c0 c t ts h0 h1 h2 h3 hr bz h4 h5 cs;obtain⟨i,hi,dG,aV⟩:=oB (h1 _ (aio ..));obtain⟨v1,v2,e1,e2,e3⟩:=mP (hf c ⟨t,marks aj.aS⟩ h3 h4);have e4:=ha c ⟨t,marks aj.aS⟩ h3 h4;have e5:=(e2.append e4).append e3;rw[hd]at e5;have wo:∀ b,c.bad b->b<c.w.heap.size:=fun b hb=>hb.elim (h3.bV b) fun⟨j,n,hj⟩=>(h3.bD j b n hj).1;have AB:uz E.G c.bad c.w:=fun g e hg=>by
  have hp:∀ p,VR c (.bT e 0) p->VR ⟨fun _=>none,[],c.bad,c.w⟩ (.bT e 0) p:=fun p hp=>by
   cases hp with
   |bT _ _ blk o' fv k1 k2 k3 k4=>exact .bT _ _ blk o' fv (fun hb=>k1 (wj.1 hb)) k2 k3 (fun j x hx=>wk (k4 j x hx))
  exact hp _ (h3.gI g e hg)
 obtain⟨e,w',fr,⟨v,r,rfl,hR,hv,hx⟩,GJ,GK,GL⟩:=hc.2 c.bad c.w _ wo AB ⟨zD e5.1,e5.qY⟩ ((bf aj).atR ⟨t,marks aj.aS⟩ (.inRegion ops (i::(ais ops.size).drop (ops.size-l.length))::k.map aY.bO)::(fG cls ts++cs));obtain⟨k1,k2⟩:=h3.grow hx;have jo:VS (c.fe w') (cg s o.dst (.d r)) ((⟨t,marks aj.aS⟩:Act).put o.dst v).tmps:=VS.cg (a:=⟨t,marks aj.aS⟩) (k2.vs h4) o.dst (.d _ _ hv);obtain⟨c2,wq,r2,u2,q1,q2,q3,wu,q4,q5,q6⟩:=H r hR c0 (c.fe w') _ ts h0 (iM aV (eV h1)) h2 k1 (hr.step k2) (bz.step h3 k2) jo (k2.cr h5) cs;refine⟨c2,wq,r2,u2,q1,q2,q3,wu,?_,q5,q6⟩;have cL:=AA (P:=E.P) (w:=c.w) (a:=⟨t,marks aj.aS⟩) ho e1 hc.1;have kg:(v1.toArray++args.map (⟨t,marks aj.aS⟩:Act).eval++v2.toArray)=(v1++args.toList.map (⟨t,marks aj.aS⟩:Act).eval++v2).toArray:=by
  apply aiY;simp
 rw[kg]at cL;have s1:=GI (P:=E.P) (b:=bf aj) (k:=k.map aY.bO) (cs:=fG cls ts++cs) (rest:=(ais ops.size).drop (ops.size-l.length)) hi (hw c t h4) cL;have s2:=step_leave_returned (c:=(bf aj).atR ⟨t,marks aj.aS⟩ (.inRegion ops (i::(ais ops.size).drop (ops.size-l.length))::k.map aY.bO)) (cs:=fG cls ts++cs) GL;rw[Frame.finish_atR,hi]at s2;have GM:(⟨aj,.bF ops (o::l)::k,s⟩:cn).bO t=(bf aj).atR ⟨t,marks aj.aS⟩ (.inRegion ops (i::(ais ops.size).drop (ops.size-l.length))::k.map aY.bO):=by
  simp only[cn.bO,ahx,dG]
 rw[GM];refine .head s1 (Steps.trans GJ (.head s2 ?_));have aJ:(bf aj).atR ((⟨t,marks aj.aS⟩:Act).put ((some o).bind (·.dst)) v) (.inRegion ops ((ais ops.size).drop (ops.size-l.length))::k.map aY.bO)=(⟨aj,.bF ops l::k,cg s o.dst (.d r)⟩:cn).bO ((⟨t,marks aj.aS⟩:Act).put o.dst v).tmps:=by
  simp only[cn.bO,ahx,aY.bO,aiy];rw[put_defers]
 rw[aJ];exact q4
end
end Go.az
end
section
namespace Go.az
open Go Go.RowKit
section
variable {E:Env} {f0 aj:FuncId} {k:List aY} {s:List AV} {cls:List cn} {h:List ae} {R:cT}
def lr(G:List (Nat × DV))(h:List ae)(x:AV)(r:DV):Prop:=∀ (c:Cx) (v:Value),aO G c->c.heap=h->VR c x v->VD c.aD c.w r v
theorem LW{c:Cx}{x:DV}{v:Value}(hv:VD c.bad c.w x v):VD c.aD c.w x v:=hv.mono fun _ _ hn=>⟨fun hb=>hn (.inl hb),rfl⟩
theorem Um{G:List (Nat × DV)}(x:DV):lr G h (.d x) x:=fun c v _ _ hv=>by cases hv with|d _ _ hv=>exact LW hv
theorem Un{G:List (Nat × DV)}{b g:Nat}{ts:Nat × Nat}{l:List DV}(hb:h[b]?=some (.arr g ts l)):lr G h (.own b g) (.sl l):=fun c v ho hh hv=>by
 subst hh;obtain⟨q0,q1,q2⟩:=ho.box b _ hb;cases hv with
 |own _ _ _ l' blk cap k1 k2 =>
  rw[hb]at k1;cases k1;rcases q2 with⟨q2,-⟩|⟨jL,iV,vs,q2,q3,q4,q5,q6,q7⟩
  ·rw[k2]at q2;cases q2
  ·rw[k2]at q2;cases q2;have bz:=mL q3;refine .sl l blk 0 cap ts.2 (fun i j=>vs.toList.getD (i*ts.2+j) undef) (fun _=>ho.sep b blk cap k2) q0 q5 q1 (fun i j e x he hx=>?_) (fun i j e x he hx=>?_) (fun i j e x he hx=>?_)
   ·obtain⟨v,g1,-,g2⟩:=q7 i j e x he hx;rw[bz (i*ts.2+j) v (zD g1)];simp[ahU,g1]
   ·obtain⟨v,g1,-,g2⟩:=q7 i j e x he hx;simp only[ahU,ahP,g1,ah8];exact LW g2
   ·obtain⟨v,g1,g2,-⟩:=q7 i j e x he hx;simp only[ahU,ahP,g1,ah8];exact g2
 |jJ _ _ _ k1 k2=>rw[hb]at k1;cases k1;exact .slnil
 |l7 _ _ g' _ _ _ k1 k2 _=>rw[hb]at k1;cases k1;omega
 |ln _ _ _ k1 _=>rw[hb]at k1;cases k1
 |ow _ _ _ _ _ _ k1 _ _=>rw[hb]at k1;cases k1
def C'{α:Sort _}(h:List ae)(x:AV)(stop:α)(k:DV->α):α :=
 match x with
 | .d x=>k x
 | .own b g=>bh h b stop fun
  | .arr g' _ l=>match ahv g g' with
   |true=>k (.sl l)
   |false=>stop
  |_=>stop
 |_=>stop
theorem LX{G:List (Nat × DV)}{x:AV}{stop:Prop}{k:DV->Prop}(H:C' h x stop k):stop\/∃ r,lr G h x r/\k r:=by
 unfold C' at H;split at H
 ·exact .inr ⟨_,Um _,H⟩
 ·rcases bu H with h|⟨bx,hb,H⟩
  ·exact .inl h
  split at H
  ·split at H
   ·rename_i q;have:=ahu q;subst this;exact .inr ⟨_,Un hb,H⟩
   ·exact .inl H
  ·exact .inl H
 ·exact .inl H
def AD{α:Sort _}(d:AV->α->(DV->α)->α):List AV->(stop:α)->(List DV->α)->α
 |[],_,k=>k []
 |x::l,stop,k=>d x stop fun r=>AD d l stop fun l'=>k (r::l')
def Uo(G:List (Nat × DV))(h:List ae)(l:List AV)(r:List DV):Prop:=∀ (c:Cx) (vs:List Value),aO G c->c.heap=h->VL c l vs->kM c.aD c.w r vs
theorem GN{G:List (Nat × DV)}{d:AV->Prop->(DV->Prop)->Prop}(hd:∀ {x:AV} {stop:Prop} {k:DV->Prop},d x stop k->stop\/∃ r,lr G h x r/\k r){stop:Prop}:∀ {l:List AV} {k:List DV->Prop},AD d l stop k->stop\/∃ r,Uo G h l r/\k r
 |[],k,H => .inr ⟨[],fun c vs _ _ hv=>⟨zD hv.1,fun j x v hx=>by simp at hx⟩,H⟩
 |x::l,k,H=>by
  simp only[AD]at H;rcases hd H with h|⟨r,hr,H⟩
  ·exact .inl h
  rcases GN hd H with h|⟨rs,AE,H⟩
  ·exact .inl h
  refine .inr ⟨r::rs,fun c vs h1 h2 hv=>?_,H⟩;cases vs with
  |nil=>have:=hv.1;simp at this
  |cons v vs =>
   obtain⟨g1,g2⟩:=hv.head;have g3:=AE c vs h1 h2 g2;refine⟨by simp[g3.1],fun j y u hy hu=>?_⟩;cases j with
   |zero=>simp at hy hu;subst hy;subst hu;exact hr c v h1 h2 g1
   |succ j=>exact g3.2 j y u (zD hy) (zD hu)
def Da{α:Sort _}(h:List ae)(x:AV)(stop:α)(k:DV->α):α :=
 match x with
 | .agg l=>AD (C' h) l stop fun r=>k (.agg r)
 |x=>C' h x stop k
theorem LY{G:List (Nat × DV)}{x:AV}{stop:Prop}{k:DV->Prop}(H:Da h x stop k):stop\/∃ r,lr G h x r/\k r:=by
 unfold Da at H;split at H
 ·rcases GN (G:=G) (h:=h) LX H with h|⟨r,hr,H⟩
  ·exact .inl h
  refine .inr ⟨_,fun c v h1 h2 hv=>?_,H⟩;obtain⟨vs,rfl,jl⟩:=qZ hv;have:=hr c vs h1 h2 jl;exact .agg _ _ (zD this.1) fun j x v hx hu=>this.2 j x v hx (zD hu)
 ·exact LX H
def yz{α:Sort _}(T:List bA)(s:List AV)(h:List ae):List ResultVar->(stop:α)->(List AV->α)->α
 |[],_,k=>k []
 | .tmp t::l,stop,k=>bh s t stop fun v=>yz T s h l stop fun l'=>k (v::l')
 | .cell a t::l,stop,k=>bh T t stop fun i=>bh s a stop fun
  | .ptr b off=>bh h b stop fun
   | .cells c=>mK i c off stop fun v=>yz T s h l stop fun l'=>k (v::l')
   |_=>stop
  |_=>stop
def wv(t:Array Value):ResultVar->Sem Value
 | .tmp t'=>pure (t.getD t' undef)
 | .cell a t'=>do loadVar t' (<- asAddr (t.getD a undef))
theorem Db(hE:E.OK){stop:Prop}:∀ {l:List ResultVar} {k:List AV->Prop},yz E.T s h l stop k->stop\/∃ r,k r/\∀ (c:Cx) (t:Array Value),c.heap=h->aO E.G c->VS c s t->∃ vs:List Value,VL c r vs/\(l.mapM (wv t)).run E.P c.w=.ok vs c.w
 |[],k,H => .inr ⟨[],H,fun c t _ _ hs=>⟨[],.nil,by simp⟩⟩
 | .tmp n::l,k,H=>by
  simp only[yz]at H;rcases bu H with h|⟨x,hx,H⟩
  ·exact .inl h
  rcases Db hE H with h|⟨r,hk,hr⟩
  ·exact .inl h
  refine .inr ⟨x::r,hk,fun c t hc ho hs=>?_⟩;obtain⟨vs,h1,h2⟩:=hr c t hc ho hs;have hl:n<t.size:=by
   rw[<- hs.1];rcases ahs n s.length with h|h
   ·exact h
   ·rw[aht h]at hx;cases hx
  refine⟨t[n]::vs,.cons (hs.2 n x _ hx (by simp[hl])) h1,?_⟩;rw[aiE];simp only[wv,ahq,ahp,ahr,h2];simp[hl]
 | .cell a ty::l,k,H=>by
  simp only[yz]at H;rcases bu H with h|⟨i,hi,H⟩
  ·exact .inl h
  rcases bu H with h|⟨x,hx,H⟩
  ·exact .inl h
  split at H
  ·rename_i b off;rcases bu H with h1|⟨bx,hb,H⟩
   ·exact .inl h1
   split at H
   ·rename_i cs;rcases C4 H with h1|⟨v,H,hp⟩
    ·exact .inl h1
    rcases Db hE H with h|⟨r,hk,hr⟩
    ·exact .inl h
    refine .inr ⟨v::r,hk,fun c t hc ho hs=>?_⟩;obtain⟨vs,h1,h2⟩:=hr c t hc ho hs;subst hc;have hl:a<t.size:=by
     rw[<- hs.1];rcases ahs a s.length with h|h
     ·exact h
     ·rw[aht h]at hx;cases hx
    obtain⟨blk,cap,us,ty',g1,g2,g3⟩:=ho.cells hb;obtain⟨u,hu,sF⟩:=hp E.P ty c blk 0 us.toList (hE.types ty i hi) g3 (mL g2);have uq:=hs.2 a _ t[a] hx (by simp[hl]);have Up:t[a]=.pointer (some ⟨blk,0+off,none⟩):=by
     generalize t[a]=p at uq;cases uq with
     |ptr _ _ cs' jL iV cB du=>rw[g1]at du;cases du;rw[ahB]
     |jK _ _ _ cB _=>rw[hb]at cB;cases cB
    have AF:(loadVar ty ⟨blk,0+off,none⟩).run E.P c.w=.ok u c.w:=hu;refine⟨u::vs,.cons sF h1,?_⟩;rw[aiE];have hg:t.getD a undef=.pointer (some ⟨blk,0+off,none⟩):=by simp[hl,Up]
    simp only[wv,hg,asAddr,ahq,ahp,ahr,AF,h2]
   ·exact .inl H
  ·exact .inl H
def packed:List Value->Value
 |[v]=>v
 |vs => .tuple vs.toArray
theorem GO{P:Program}{fn:Func}{t:Array Value}{w:World}{vs:List Value}(h:(fn.results.toList.mapM (wv t)).run P w=.ok vs w) :
  (results fn t).run P w=.ok (packed vs) w:=by
 have e1:results fn t=(do let vs <- fn.results.mapM (wv t);pure (if h:vs.size=1 then vs[0]else .tuple vs)):=by
  rfl
 have e2:(fn.results.mapM (wv t):Sem (Array Value))=List.toArray <$> (fn.results.toList.mapM (wv t)):=by
  rw[Array.mapM_eq_mapM_toList]
 simp only[e1,e2,ahq,map_eq_pure_bind,h,ahr,ahp];cases vs with
 |nil=>rfl
 |cons v vs=>cases vs with
  |nil=>rfl
  |cons u vs=>simp[packed]
def pz{α:Sort _}(T:List bA)(s:List AV)(h:List ae)(rs:List ResultVar)(stop:α)(k:AV->List ae->α):α :=
 yz T s h rs stop fun
  |[x]=>k x h
  |l=>k (.aG l) h
theorem AW.LZ(hE:E.OK){td:List aY}(pA:∀ (a:Act) (cs:List Frame) (w:World),step E.P (lone ((bf ⟨aj,none,[]⟩).atR a (td.map aY.bO)) cs w)=.next (lone { (bf ⟨aj,none,[]⟩).atR a (td.map aY.bO)with mode := .returning } cs w))
  {fn:Func} (hf:E.P.funcs[aj]?=some fn) (H:pz E.T s h fn.results.toList False R.Q):AW E aj ⟨⟨aj,none,[]⟩,td,s⟩ [] h R:=by
 unfold AW;intro c0 c t ts h0 h1 h2 h3 hr bz h4 h5 cs;unfold pz at H;rcases Db hE H with h'|⟨l,H,hl⟩
 ·cases h'
 obtain⟨vs,g1,g2⟩:=hl c t h2 h3 h4;have fin:∀ r v,packed vs=v->R.Q r h->VR c r v->∃ (c':Cx) (fr:Frame) (r:AV) (v:Value),
   R.Q r c'.heap/\VR c' r v/\aO E.G c'/\dy c0 c'/\Steps E.P (lone ((⟨⟨aj,none,[]⟩,td,s⟩:cn).bO t) (fG [] ts++cs) c.w) (lone fr cs c'.w)/\fr.fn=aj/\fr.leaving E.P c'.w (.returned v):=fun r v e1 e2 e3=>by
  refine⟨c,_,r,v,by rw[h2];exact e2,e3,h3,hr,.one (pA ⟨t,[]⟩ cs c.w),rfl,rfl,rfl,rfl,fn,hf,?_⟩;rw[<- e1];exact GO g2
 split at H
 ·rename_i x;cases vs with
  |nil=>have:=g1.1;simp at this
  |cons v vs=>cases vs with
   |cons u vs=>have:=g1.1;simp at this
   |nil=>exact fin x v rfl H g1.head.1
 ·rename_i aL;refine fin (.aG l) (.tuple vs.toArray) ?_ H (.aG _ _ (zD g1.1) fun j x v hx hu=>g1.2 j x v hx (zD hu));cases vs with
  |nil=>rfl
  |cons v vs=>cases vs with
   |nil =>
    have:=g1.1;cases l with
    |nil=>simp at this
    |cons x l=>cases l with
     |nil=>exact absurd rfl (aL x)
     |cons y l=>simp at this
   |cons u vs=>rfl
def uA(R:DV->Prop)(x:AV)(h:List ae):Prop :=
 match x with
 | .aG l=>AD (Da h) l False fun r=>R (.aG r)
 |x=>Da h x False R
theorem Uq{G:List (Nat × DV)}{R:DV->Prop}{x:AV}(H:uA R x h):∃ r,lr G h x r/\R r:=by
 unfold uA at H;split at H
 ·rcases GN (G:=G) (h:=h) LY H with h'|⟨r,hr,H⟩
  ·cases h'
  refine⟨_,fun c v h1 h2 hv=>?_,H⟩;cases hv with
  |aG _ vs hl bJ =>
   have:=hr c vs.toList h1 h2 ⟨zD hl,fun j x v hx hv=>bJ j x v hx (zD hv)⟩;exact .aG _ _ (zD this.1) fun j x v hx hu=>this.2 j x v hx (zD hu)
 ·rcases LY (G:=G) H with h'|h'
  ·cases h'
  ·exact h'
theorem aq.Ur{f:FuncId}{args:List DV}{R:DV->Prop}(H:au E f [] (args.map .d) (uA R)):aq E f args R:=by
 unfold au at H;unfold aq;refine⟨H.1,fun aD w vs h1 h2 h3=>?_⟩
 let c:Cx:=⟨fun _=>none,[],aD,w⟩
 have hv:VL c (args.map .d) vs := .v7 h3.1 fun j x v hx hu=>wk (h3.2 j x v hx hu);have ho:aO E.G c:=⟨h1,fun i b n hi=>(by cases hi),fun i j b n m hi=>(by cases hi),fun i b n hi=>(by cases hi),fun i bx hi=>(by simp[c]at hi),h2⟩;refine(H.2.2 c vs rfl ho hv).mono fun e w' ⟨c',r,v,k1,k2,k3,k4,k5,k6⟩=>?_;obtain⟨d,hd,hR⟩:=Uq (G:=E.G) k3;subst k2;have:=hd c' v k5 rfl k4;rw[k6.aD]at this;exact⟨v,d,k1,hR,this,k6.ext fun _=>rfl⟩
theorem AW.ret(hE:E.OK){fn:Func}(hf:E.P.funcs[aj]?=some fn)(H:pz E.T s h fn.results.toList False R.Q):AW E aj ⟨⟨aj,none,[]⟩,.code .ret::k,s⟩ [] h R := .LZ hE (fun _ _ _=>stepR_ret rfl) hf H
theorem AW.Us(hE:E.OK){fn:Func}(hf:E.P.funcs[aj]?=some fn)(H:pz E.T s h fn.results.toList False R.Q):AW E aj ⟨⟨aj,none,[]⟩,[],s⟩ [] h R := .LZ hE (fun _ _ _=>stepR_end rfl) hf H
end
end Go.az
end
section
namespace Go.az
open Go Go.RowKit
@[irreducible] def need (C K : Prop) : Prop := C /\ K
theorem bj{C K:Prop}(h:C)(k:K):need C K:=by unfold need;exact⟨h,k⟩
theorem qk{C K:Prop}(h:need C K):C/\K:=by unfold need at h;exact h
def me(b:UInt8):DV := .int .u8 b.toNat
def two{β:Type}(l:List β)(stop:Prop)(k:β->β->Prop):Prop :=
 match l with
 |[a,b]=>k a b
 |_=>stop
theorem L0{β:Type}{l:List β}{stop:Prop}{k:β->β->Prop}(H:two l stop k):stop\/∃ a b,l=[a,b]/\k a b:=by
 unfold two at H;split at H
 ·exact .inr ⟨_,_,rfl,H⟩
 ·exact .inl H
def Dc(e:Nat)(ei:bA)(h:List ae)(a:AV)(m:List DV)(stop:Prop)(k:AV->List ae->Prop):Prop :=
 match a with
 | .d .aF=>need (m.length<=2147483648/\∀ e∈m,e.cells.length=ei.size) (pq h (.arr 1 (e,ei.size) m) 0 fun h' n=>k (.own n 1) h')
 | .own b g=>bh h b stop fun
  | .arr g' ts l=>match ahv g g',ahv ts.1 e,ahv ts.2 ei.size with
   |true,true,true=>need (l.length+m.length<=2147483648/\∀ e∈m,e.cells.length=ei.size) (iA h b (.arr (g+1) ts (l++m)) fun h'=>k (.own b (g+1)) h')
   |_,_,_=>stop
  |_=>stop
 |_=>stop
def uB(T:List bA)(G:List (Nat × DV))(o:Op)(s:List AV)(h:List ae)(stop:Prop)(k:AV->List ae->Prop):Prop :=
 match o with
 | .call { callee := .builtin .append,args:=args,argTypes:=ts }=>two args.toList stop fun x y=>two ts.toList stop fun t0 t1=>bh T t0 stop fun i0=>bh T t1 stop fun i1 =>
  match i0.k with
  | .slice e=>bh T e stop fun ei=>match ahv ei.zero.length ei.size,ahw 0 ei.size,Nat.ble ei.bytes 65536 with
   |true,true,true=>cG G s x stop fun a=>cG G s y stop fun b =>
    match i1.k,b with
    | .slice _,.d (.sl m)=>Dc e ei h a m stop k
    | .string,.d (.str z)=>match ei.k with
     | .int .u8=>Dc e ei h a (z.map me) stop k
     |_=>stop
    |_,_=>stop
   |_,_,_=>stop
  |_=>stop
 | .makeSlice t n c=>bh T t stop fun i=>match i.k with
  | .slice e=>bh T e stop fun ei=>match ahv ei.zero.length ei.size,ahw 0 ei.size,Nat.ble ei.bytes 65536,ei.zero.all DV.gd with
   |true,true,true,true=>cG G s n stop fun
    | .d (.int _ a)=>cG G s c stop fun
     | .d (.int _ b) =>
      match ei.zero with
      |[z]=>need (0<=a/\a<=b/\b<=2147483648) (pq h (.arr 0 (e,ei.size) (ahC a.toNat z)) 0 fun h' n=>k (.own n 0) h')
      |zl=>need (0<=a/\a<=b/\b<=2147483648) (pq h (.arr 0 (e,ei.size) (ahC a.toNat (.agg zl))) 0 fun h' n=>k (.own n 0) h')
     |_=>stop
    |_=>stop
   |_,_,_,_=>stop
  |_=>stop
 |_=>stop
theorem aW{β:Type}{l:List β}{n:Nat}{e:β}(h:l[n]?=some e):n<l.length:=by
 rcases ahs n l.length with h'|h'
 ·exact h'
 ·rw[aht h']at h;cases h
section
variable {E:Env} {s:List AV} {h:List ae} {c:Cx} {G:List (Nat × DV)} {P:Program}
structure Src(P:Program)(size:Nat)(w:World)(x:Value)(n:Nat)(news:List Value):Prop where
 len:∀ w,(Builtin.lenOf x).run P w=.ok n w
 cells:∀ d:Nat,(Builtin.firstCells size n x).run P { w with drawn:=d }=.ok news.toArray { w with drawn:=d }
 one:∀ v∈news,v.oneCell'=true
 size:news.length=n*size
theorem Ut{t0 t1 e:TypeId}{i:TypeInfo}{d1:TypeDesc}(h0:P.underlying t0=some (.slice e))(h1:P.underlying t1=some d1)(oD:∀ k,d1 ≠ .int k)(hi:P.info? e=some i){w:World}{g n m cap:Nat}{cur:Array Value}{x:Value}{news:List Value}
  (hg:w.heap[g]?=some (.cells cur e (0,0))) (hs:Src P i.size w x m news) (sL:n+m<=cap) (jM:n*i.size+news.length<=cur.size) (ty:TypeId) :
  (Builtin.append_ #[t0,t1] ty #[.slice (some ⟨g,0,none⟩) n cap,x]).run P w=.ok (.slice (some ⟨g,0,none⟩) (n+m) cap) (w.setCells g (n*i.size) news):=by
 have bc:=run_storeCells_cells (P:=P) g (n*i.size) news 0 w (fun j hj=>by
   simp only[World.cell?,hg]
   simp;omega) (fun j hj=>by simp[World.frozen?,hg]) hs.one
 simp only[ah3]at bc;have hc:=hs.cells w.drawn;simp[Builtin.append_,run_underlying h0,run_underlying h1,Go.sizeOf,typeInfo,hi,hs.len,sL,hc,oy,bc]
theorem Uu{t0 t1 e:TypeId}{i:TypeInfo}{d1:TypeDesc}(h0:P.underlying t0=some (.slice e))(h1:P.underlying t1=some d1)(oD:∀ k,d1 ≠ .int k)(hi:P.info? e=some i){w:World}{n cap:Nat}{b:Option Addr}{x:Value}
  (hs:Src P i.size w x 0 []) (sL:n<=cap) (ty:TypeId):(Builtin.append_ #[t0,t1] ty #[.slice b n cap,x]).run P w=.ok (.slice b n cap) w:=by
 have hc:=hs.cells w.drawn;cases b<;>simp[Builtin.append_,run_underlying h0,run_underlying h1,Go.sizeOf,typeInfo,hi,hs.len,sL,hc,storeCells]
theorem Uv{t0 t1 e:TypeId}{i:TypeInfo}{z:Value}{d1:TypeDesc}(h0:P.underlying t0=some (.slice e))(h1:P.underlying t1=some d1)(oD:∀ k,d1 ≠ .int k)(hi:P.info? e=some i)(hz:i.zero=some z){w:World}{n m cap:Nat}{b:Option Addr}{x:Value}{rm news:List Value}
  (hold:∀ d:Nat,(Builtin.firstCells i.size n (.slice b n cap)).run P { w with drawn:=d }=.ok rm.toArray { w with drawn:=d }) (hs:Src P i.size w x m news) (hg:cap<n+m) (Uw:n+m<=2147483648) (sM:i.bytes<=65536) (ty:TypeId) :
  (Builtin.append_ #[t0,t1] ty #[.slice b n cap,x]).run P w=.ok (.slice (some ⟨w.heap.size,0,none⟩) (n+m) (grownCap w (n+m) cap e)) (w.drew.alloc (.cells (rm.toArray++news.toArray++Builtin.zeroCells z.cells (grownCap w (n+m) cap e-(n+m))) e)):=by
 have hn:¬ (n+m<=cap):=by omega
 have Ux:¬ (9223372036854775807<((n:Int)+(m:Int))):=by omega
 have jM:(n+m)*i.bytes<=140737488355328:=by
  calc (n+m)*i.bytes<=2147483648*65536:=Nat.mul_le_mul Uw sM
   _=140737488355328:=by decide
 have Uy:¬ (281474976710656<Builtin.nextslicecap (n+m) cap*i.bytes):=by
  have:=growslice_fits (old:=cap) (need:=n+m) (bytes:=i.bytes) oM jM;omega
 have hc:=hs.cells w.drew.drawn;have ho:=hold w.drew.drawn;have AG:(Builtin.firstCells i.size m x).run P w.drew=.ok news.toArray w.drew:=hc;have du:(Builtin.firstCells i.size n (.slice b n cap)).run P w.drew=.ok rm.toArray w.drew:=ho;simp[Builtin.append_,run_underlying h0,run_underlying h1,Go.sizeOf,typeInfo,zeroValue,hi,hz,hs.len,hn,Ux,Uy,Question.forced,AG,du,newRow,grownCap]
 congr 2
 apply aiY;simp[aiK]
theorem L3{c:Cx}{m:List DV}{x:Value}{sz:Nat}(bP:0<sz)(hm:∀ e∈m,e.cells.length=sz)(hv:VD c.bad c.w (.sl m) x):∃ news:List Value,Src P sz c.w x m.length news/\(∀ (j:Nat) (y:DV) (v:Value),(flat m)[j]?=some y->news[j]?=some v->VD c.bad c.w y v):=by
 have eU:jN sz m:=fun i e he=>hm e (aiQ he);cases hv with
 |slnil=>exact⟨[],⟨fun _=>rfl,fun _=>rfl,fun v hv=>by simp at hv,by simp⟩,fun j y v hy=>by simp[flat]at hy⟩
 |l6 a=>exact⟨[],⟨fun _=>rfl,fun _=>by simp[Builtin.firstCells,loadCells,loadCellsFrom],fun v hv=>by simp at hv,by simp⟩,fun j y v hy=>by simp[flat]at hy⟩
 |sl _ blk off cap dH f hb Dd kI hlen dQ bJ bW =>
  by_cases aL:m=[]
  ·subst aL;exact⟨[],⟨fun _=>rfl,fun _=>by simp[Builtin.firstCells,loadCells,loadCellsFrom],fun v hv=>by simp at hv,by simp⟩,fun j y v hy=>by simp[flat]at hy⟩
  obtain⟨e0,r,hr⟩:=ahV aL;have pt:dH=sz:=(hlen 0 e0 (by rw[hr];rfl)).symm.trans (hm e0 (by rw[hr];simp));subst pt;have at_:∀ (idx:Nat),idx<m.length*dH->∃ (i j:Nat) (e y:DV),idx=i*dH+j/\j<dH/\m[i]?=some e/\e.cells[j]?=some y/\idx / dH=i/\idx % dH=j:=fun idx rp=>by
   have hd:idx / dH<m.length:=aiS (by rw[aia];exact rp);have rq:idx % dH<dH:=Nat.mod_lt _ bP;have hl:idx % dH<m[idx / dH].cells.length:=by rw[hlen _ _ (aiX hd)];exact rq
   exact⟨idx / dH,idx % dH,m[idx / dH],m[idx / dH].cells[idx % dH],by rw[aia];exact(aiU idx dH).symm,rq,aiX hd,aiX hl,rfl,rfl⟩
  have ew:∀ (j:Nat) (v:Value),((ais (m.length*dH)).map fun idx=>f (idx / dH) (idx % dH))[j]?=some v->j<m.length*dH/\v=f (j / dH) (j % dH):=fun j v hv=>by
   have hj:j<m.length*dH:=by have:=aW hv;simpa using this
   simp[hj]at hv;exact⟨hj,hv.symm⟩
  refine⟨(ais (m.length*dH)).map fun idx=>f (idx / dH) (idx % dH),⟨fun _=>rfl,fun d=>?_,fun v hv=>?_,by simp⟩,fun j y v hy hv=>?_⟩
  ·have:=run_loadCells_list (P:=P) { c.w with drawn:=d } ⟨blk,off,none⟩ ((ais (m.length*dH)).map fun idx=>f (idx / dH) (idx % dH)) (fun j v hv=>by
    obtain⟨hj,rfl⟩:=ew j v hv;obtain⟨i,jj,e,y,e1,e2,e3,e4,e5,e6⟩:=at_ j hj;rw[oy,e5,e6,e1]
    exact dQ i jj e y e3 e4)
   simpa [Builtin.firstCells]using this
  ·obtain⟨j,Uz⟩:=List.getElem?_of_mem hv;obtain⟨hj,rfl⟩:=ew j v Uz;obtain⟨i,jj,e,y,e1,e2,e3,e4,e5,e6⟩:=at_ j hj;rw[e5,e6];exact bW i jj e y e3 e4
  ·obtain⟨hj,rfl⟩:=ew j v hv;obtain⟨i,jj,e,y',e1,e2,e3,e4,e5,e6⟩:=at_ j hj;have:=flat_get eU e3 e2;rw[<- e1,hy,e4]at this;cases this;rw[e5,e6];exact bJ i jj e y e3 e4
theorem L4{c:Cx}{z:List UInt8}:Src P 1 c.w (.string ⟨z.toArray⟩) (z.map me).length (z.map fun b=>Value.int .u8 b.toNat)/\(∀ (j:Nat) (y:DV) (v:Value),(flat (z.map me))[j]?=some y->(z.map fun b=>Value.int .u8 b.toNat)[j]?=some v->VD c.bad c.w y v):=by
 have UA:flat (z.map me)=z.map me:=by
  induction z with
  |nil=>rfl
  |cons b z ih=>simp only[ahx,flat,List.flatMap_cons]at ih ⊢;rw[ih];rfl
 refine⟨⟨fun _=>by simp[Builtin.lenOf,ByteArray.size],fun d=>?_,fun v hv=>?_,by simp⟩,fun j y v hy hv=>?_⟩
 ·simp[Builtin.firstCells]
 ·obtain⟨b,-,rfl⟩:=ahY.1 hv;rfl
 ·rw[UA]at hy;rw[ahy]at hy hv;cases hz:z[j]? with
  |none=>rw[hz]at hy;cases hy
  |some b=>rw[hz]at hy hv;cases hy;cases hv;exact .int _ _
def mQ(c:Cx)(l:List DV)(vs:List Value):Prop:=∀ (idx:Nat) (y:DV),(flat l)[idx]?=some y->∃ v,vs[idx]?=some v/\v.oneCell'=true/\VD c.bad c.w y v
theorem mQ.ij{c:Cx}{l:List DV}{vs:Array Value}{sz:Nat}(eU:jN sz l)(h:mQ c l vs.toList):∀ (i j:Nat) (e x:DV),l[i]?=some e->e.cells[j]?=some x->∃ v,vs[i*sz+j]?=some v/\v.oneCell'=true/\VD c.bad c.w x v:=fun i j e x he hx=>by
 have hj:j<sz:=by rw[<- eU i e he];exact aW hx
 obtain⟨v,h1,h2⟩:=h (i*sz+j) x (by rw[flat_get eU he hj];exact hx);exact⟨v,zD h1,h2⟩
theorem mQ.UB{c:Cx}{l:List DV}{vs:Array Value}{sz:Nat}(bP:0<sz)(eU:jN sz l)(h:∀ (i j:Nat) (e x:DV),l[i]?=some e->e.cells[j]?=some x->∃ v,vs[i*sz+j]?=some v/\v.oneCell'=true/\VD c.bad c.w x v):mQ c l vs.toList:=fun idx y hy=>by
 have ai:=aW hy;rw[pw eU]at ai;have hd:idx / sz<l.length:=aiS (by rw[aia];exact ai);have rq:idx % sz<sz:=Nat.mod_lt _ bP;have h1:=flat_get eU (aiX hd) rq;have e1:idx / sz*sz+idx % sz=idx:=by rw[aia];exact aiU idx sz
 rw[e1,hy]at h1;obtain⟨v,h2,h3⟩:=h (idx / sz) (idx % sz) _ y (aiX hd) h1.symm;rw[e1]at h2;exact⟨v,zD h2,h3⟩
theorem mQ.append{c:Cx}{l m:List DV}{vs news:List Value}{tail:List Value}{sz:Nat}(eU:jN sz l)(hl:mQ c l vs)(fw:l.length*sz<=vs.length)(bW:∀ v∈news,v.oneCell'=true)(hlen:news.length=(flat m).length)(hn:∀ (j:Nat) (y:DV) (v:Value),(flat m)[j]?=some y->news[j]?=some v->VD c.bad c.w y v) :
  mQ c (l++m) (vs.take (l.length*sz)++news++tail):=fun idx y hy=>by
 rw[Gz]at hy;have pB:=pw eU;have jQ:(vs.take (l.length*sz)).length=l.length*sz:=by simp;omega
 rcases ahs idx (l.length*sz)with h|h
 ·rw[ahT oM]at hy;obtain⟨v,h1,h2⟩:=hl idx y hy;refine⟨v,?_,h2⟩;rw[aiK,ahT oM,ahS,if_pos h];exact h1
 ·rw[aiH oM,pB]at hy;have ai:=aW hy;have rp:idx-l.length*sz<news.length:=by omega
  refine⟨news[idx-l.length*sz],?_,bW _ (aix rp),hn _ y _ hy (by simp[rp])⟩;rw[aiK,aiH oM,jQ,ahT rp];simp[rp]
theorem mQ.step{c c':Cx}(hs:Step c c'){l:List DV}{vs:List Value}(h:mQ c l vs):mQ c' l vs:=fun idx y hy=>by
 obtain⟨v,h1,h2,h3⟩:=h idx y hy;exact⟨v,h1,h2,hs.vd h3⟩
theorem UC{sz:Nat}{l m:List DV}(hl:jN sz l)(hm:∀ e∈m,e.cells.length=sz):jN sz (l++m):=fun i e he=>by
 rcases ahs i l.length with h|h
 ·rw[ahT h]at he;exact hl i e he
 ·rw[aiH h]at he;exact hm e (aiQ he)
def Cx.kN(c:Cx)(b g:Nat)(ts:Nat × Nat)(l:List DV)(own:Option (Nat × Nat))(w:World):Cx:={ c with own:=fun i=>if i=b then own else c.own i,heap:=c.heap.set b (.arr g ts l),w:=w }
theorem aO.kN{G:List (Nat × DV)}(ho:aO G c){b g:Nat}{ts:Nat × Nat}{l l':List DV}(hb:c.heap[b]?=some (.arr g ts l)){w:World}(own:Option (Nat × Nat))(GP:w.os=c.w.os)(UD:w.tape=c.w.tape)(UE:w.output=c.w.output)(iG:c.w.heap.size<=w.heap.size)
  (nF:∀ k,k<c.w.heap.size->(∀ n,c.own b≠some (k,n))->w.heap[k]?=c.w.heap[k]?) (bN:∀ k n,own=some (k,n)->k<w.heap.size/\(k<c.w.heap.size->∃ m,c.own b=some (k,m))) :
  let c':=c.kN b (g+1) ts l' own w
  Step c c'/\((jN ts.2 l'/\((own=none/\l'=[])\/∃ (blk cap:Nat) (vs:Array Value),own=some (blk,cap)/\w.heap[blk]?=some (.cells vs ts.1 (0,0))/\vs.size=cap*ts.2/\l'.length<=cap/\cap<=maxLen/\mQ c' l' vs.toList))->aO G c'):=by
 intro c';have fE:=aW hb
 have bc:Step c c':={
  aD:=rfl
  bV:=ho.bV
  os:=GP
  tape:=UD
  output:=UE
  size:=iG
  keep:=fun x hx hn=>nF x hx (fun n=>hn b n)
  eh:=fun i x n hi hx=>by
   simp only[c',Cx.kN]at hi;split at hi
   ·rename_i bL;subst bL;exact(bN x n hi).2 hx
   ·exact⟨n,hi⟩
  boxes:=fun i bx hi=>by
   by_cases bL:i=b
   ·subst bL;rw[hb]at hi;cases hi;exact .inl ⟨g+1,l',by show(c.heap.set i _)[i]?=_;rw[ahQ fE],.inl (Nat.lt_succ_self _)⟩
   ·have h':c'.heap[i]?=some bx:=by show(c.heap.set b _)[i]?=_;rw[ahR (Ne.symm bL)];exact hi
    have sG:c'.own i=c.own i:=by simp only[c',Cx.kN];rw[if_neg bL]
    cases bx with
    |cells cs=>exact .inl ⟨cs,h',sG,rfl⟩
    |arr g sz l=>exact .inl ⟨g,l,h',.inr ⟨rfl,rfl,sG⟩⟩
    |map es=>exact .inl ⟨es,h',sG⟩
    |gone=>exact h'
    |hole=>exact⟨_,h'⟩ }
 refine⟨bc,fun dF=>ho.next bc ?_ ?_ ?_⟩
 ·intro i x n hi;have hl:c'.heap.length=c.heap.length:=by simp[c',Cx.kN]
  rw[hl];simp only[c',Cx.kN]at hi;split at hi
  ·rename_i bL;subst bL;exact⟨(bN x n hi).1,fE⟩
  ·have:=ho.bD i x n hi;exact⟨ahD this.1 iG,this.2⟩
 ·intro i j x n m hi hj;simp only[c',Cx.kN]at hi hj;split at hi<;>split at hj
  ·omega
  ·rename_i h1 h2;have:=(ho.bD j x m hj).1;obtain⟨q,hq⟩:=(bN x n hi).2 this;exact absurd (ho.inj j b x m q hj hq) h2
  ·rename_i h1 h2;have:=(ho.bD i x n hi).1;obtain⟨q,hq⟩:=(bN x m hj).2 this;exact absurd (ho.inj i b x n q hi hq) h1
  ·exact ho.inj i j x n m hi hj
 ·intro i bx hi;by_cases bL:i=b
  ·subst bL;have cu:(c.heap.set i (.arr (g+1) ts l'))[i]?=some bx:=hi;rw[ahQ fE]at cu;cases cu;right;have nG:c'.own i=own:=by simp[c',Cx.kN]
   obtain⟨q0,-,-⟩:=ho.box i _ hb;obtain⟨eU,UF⟩:=dF;refine⟨q0,eU,?_⟩;rcases UF with⟨h1,h2⟩|⟨blk,cap,vs,h1,h2,h3,h4,h5,h6⟩
   ·exact .inl ⟨nG.trans h1,h2⟩
   ·exact .inr ⟨blk,cap,vs,nG.trans h1,h2,h3,h4,h5,h6.ij eU⟩
  ·left;have cu:(c.heap.set b (.arr (g+1) ts l'))[i]?=some bx:=hi;rw[ahR (Ne.symm bL)]at cu;refine⟨cu,by simp only[c',Cx.kN];rw[if_neg bL],fun x n hn=>nF x (ho.bD i x n hn).1 (fun m hm=>bL (ho.inj i b x n m hn hm))⟩
theorem lu{b g:Nat}{ts:Nat × Nat}{l:List DV}(hb:c.heap[b]?=some (.arr g ts l)){v:Value}(hv:VR c (.own b g) v):(∃ blk cap,c.own b=some (blk,cap)/\v=.slice (some ⟨blk,0,none⟩) l.length cap)\/(l=[]/\v=.slice none 0 0/\c.own b=none):=by
 cases hv with
 |own _ _ _ l' blk cap k1 k2=>rw[hb]at k1;cases k1;exact .inl ⟨blk,cap,k2,rfl⟩
 |jJ _ _ _ k1 k2=>rw[hb]at k1;cases k1;exact .inr ⟨rfl,rfl,k2⟩
 |l7 _ _ g' _ _ _ k1 k2 _=>rw[hb]at k1;cases k1;omega
 |ln _ _ _ k1 _=>rw[hb]at k1;cases k1
 |ow _ _ _ _ _ _ k1 _ _=>rw[hb]at k1;cases k1
theorem UG{β:Type}{vs news:List β}{o:Nat}(h:o+news.length<=vs.length):dX vs o news=vs.take o++news++vs.drop (o+news.length):=by
 have h1:vs=vs.take o++(vs.drop o).take news.length++vs.drop (o+news.length):=by
  rw[aiK,<- List.drop_drop,ai9,ai9]
 have h2:(vs.take o).length=o:=by simp;omega
 have:=Gy news (vs.take o) ((vs.drop o).take news.length) (vs.drop (o+news.length)) (by simp;omega);rw[<- h1,h2]at this;exact this
theorem pC{n:Nat}(h:n<=2147483648):n<=maxLen:=by unfold maxLen;omega
theorem L5(aV:aO G c){t0 t1:TypeId}{i:TypeInfo}{z:Value}{d1:TypeDesc}{ts:Nat × Nat}(h0:P.underlying t0=some (.slice ts.1))(h1:P.underlying t1=some d1)(oD:∀ k,d1 ≠ .int k)(hi:P.info? ts.1=some i)(hz:i.zero=some z)(kL:z.cells.size=i.size)(iG:i.size=ts.2)(sM:i.bytes<=65536)
  {b g:Nat} {l m:List DV} (hb:c.heap[b]?=some (.arr g ts l)) {v x:Value} (hv:VR c (.own b g) v) {news:List Value} (hs:Src P i.size c.w x m.length news) (hn:∀ (j:Nat) (y:DV) (v:Value),(flat m)[j]?=some y->news[j]?=some v->VD c.bad c.w y v) (hm:∀ e∈m,e.cells.length=ts.2) (uC:l.length+m.length<=2147483648) (ty:TypeId) :
  ∃ (c':Cx) (v':Value),(Builtin.append_ #[t0,t1] ty #[v,x]).run P c.w=.ok v' c'.w/\c'.heap=c.heap.set b (.arr (g+1) ts (l++m))/\aO G c'/\VR c' (.own b (g+1)) v'/\Step c c':=by
 obtain⟨q0,q1,q2⟩:=aV.box b _ hb;have fE:=aW hb;have L6:jN ts.2 (l++m):=UC q1 hm;have AH:(flat m).length=m.length*ts.2:=pw (fun i e he=>hm e (aiQ he));have yA:news.length=(flat m).length:=by rw[hs.size,AH,iG]
 have oE:∀ own w,(c.kN b (g+1) ts (l++m) own w).heap[b]?=some (.arr (g+1) ts (l++m)):=fun own w=>by show(c.heap.set b _)[b]?=_;rw[ahQ fE]
 have GQ:∀ own w,(c.kN b (g+1) ts (l++m) own w).own b=own:=fun own w=>by simp[Cx.kN]
 have grown:∀ (rm:List Value) (cap:Nat) (bs:Option Addr),(∀ (idx:Nat) (y:DV),(flat l)[idx]?=some y->∃ v,rm[idx]?=some v/\v.oneCell'=true/\VD c.bad c.w y v)->rm.length=l.length*ts.2->(∀ d:Nat,(Builtin.firstCells i.size l.length (.slice bs l.length cap)).run P { c.w with drawn:=d }=.ok rm.toArray { c.w with drawn:=d })->cap<l.length+m.length->v=.slice bs l.length cap ->
   ∃ (c':Cx) (v':Value),(Builtin.append_ #[t0,t1] ty #[v,x]).run P c.w=.ok v' c'.w/\c'.heap=c.heap.set b (.arr (g+1) ts (l++m))/\aO G c'/\VR c' (.own b (g+1)) v'/\Step c c':=by
  intro rm cap bs hold yB UH kI UI;subst UI;have hr:=Uv h0 h1 oD hi hz UH hs kI uC sM ty;have aA:=grownCap_ge c.w (l.length+m.length) cap ts.1;have hle:=grownCap_le_maxLen c.w (l.length+m.length) cap ts.1 (pC uC);generalize grownCap c.w (l.length+m.length) cap ts.1=nc at hr aA hle
  let cells:Array Value:=rm.toArray++news.toArray++Builtin.zeroCells z.cells (nc-(l.length+m.length))
  have hw:(c.w.drew.alloc (.cells cells ts.1)).heap[c.w.heap.size]?=some (.cells cells ts.1 (0,0)):=heap_alloc_new c.w.drew _;obtain⟨k1,k2⟩:=aV.kN (l':=l++m) hb (w:=c.w.drew.alloc (.cells cells ts.1)) (some (c.w.heap.size,nc)) rfl rfl rfl sP (fun k hk _=>Below.heap_alloc c.w.drew _ k hk) (fun k n e=>by cases e;exact⟨by simp,fun h=>by omega⟩);refine⟨_,_,hr,rfl,k2 ⟨L6,.inr ⟨c.w.heap.size,nc,cells,rfl,hw,?_,zD aA,hle,?_⟩⟩,?_,k1⟩
  ·simp only[cells,Array.size_append,List.size_toArray,size_zeroCells,kL,yB,yA,AH,iG,<- ahK]
   congr 1
   omega
  ·have:=mQ.append (c:=c) (l:=l) (m:=m) (vs:=rm) (news:=news) (tail:=(Builtin.zeroCells z.cells (nc-(l.length+m.length))).toList) q1 hold oM hs.one yA hn;rw[List.take_of_length_le oM]at this;have:=this.step k1
   simpa [cells]using this
  ·have:=VR.own (c:=c.kN b (g+1) ts (l++m) (some (c.w.heap.size,nc)) (c.w.drew.alloc (.cells cells ts.1))) b (g+1) ts (l++m) c.w.heap.size nc (oE _ _) (GQ _ _);rw[ah5]at this;exact this
 rcases lu hb hv with⟨blk,cap,r1,rfl⟩|⟨rfl,rfl,r1⟩
 ·rcases q2 with⟨q2,-⟩|⟨jL,iV,vs,q2,q3,q4,q5,q6,q7⟩
  ·rw[r1]at q2;cases q2
  rw[r1]at q2;cases q2;have pB:=mQ.UB q0 q1 q7;have fw:l.length*ts.2<=vs.size:=by rw[q4];exact aiP _ q5
  by_cases sL:l.length+m.length<=cap
  ·have jM:l.length*i.size+news.length<=vs.size:=by
    rw[yA,AH,iG,q4,<- ahK];exact aiP _ sL
   have hr:=Ut h0 h1 oD hi q3 hs sL jM ty;obtain⟨e1,e2,e3,e4⟩:=C5 blk news (l.length*i.size) c.w;obtain⟨k1,k2⟩:=aV.kN (l':=l++m) hb (w:=c.w.setCells blk (l.length*i.size) news) (some (blk,cap)) e1 e2 e3 (aiu e4.symm) (fun k _ hk=>yk blk news _ c.w k (fun e=>hk cap (by rw[e];exact r1))) (fun k n e=>by cases e;exact⟨by rw[e4];exact(aV.bD b blk cap r1).1,fun _=>⟨cap,r1⟩⟩);refine⟨_,_,hr,rfl,k2 ⟨L6,.inr ⟨blk,cap,(dX vs.toList (l.length*i.size) news).toArray,rfl,C6 blk ts.1 (0,0) news _ c.w vs q3,by simp[Ao,q4],zD sL,q6,?_⟩⟩,?_,k1⟩
   ·have:=mQ.append (c:=c) (l:=l) (m:=m) (vs:=vs.toList) (news:=news) (tail:=vs.toList.drop (l.length*ts.2+news.length)) q1 pB (zD fw) hs.one yA hn;have:=this.step k1;show mQ _ (l++m) (dX vs.toList (l.length*i.size) news);rw[UG (by simp;exact jM)];rw[<- iG]at this;exact this
   ·have:=VR.own (c:=c.kN b (g+1) ts (l++m) (some (blk,cap)) (c.w.setCells blk (l.length*i.size) news)) b (g+1) ts (l++m) blk cap (oE _ _) (GQ _ _);rw[ah5]at this;exact this
  ·have bz:=mL q3;refine grown (vs.toList.take (l.length*ts.2)) cap (some ⟨blk,0,none⟩) (fun idx y hy=>?_) (by simp;omega) (fun d=>?_) oM rfl
   ·obtain⟨u,g1,g2⟩:=pB idx y hy;have ai:=aW hy;rw[pw q1]at ai;exact⟨u,by rw[ahS,if_pos ai];exact g1,g2⟩
   ·have:=run_loadCells_list (P:=P) { c.w with drawn:=d } ⟨blk,0,none⟩ (vs.toList.take (l.length*ts.2)) (fun j u hu=>by
     rw[ahS]at hu;split at hu
     ·rw[oy];exact bz j u hu
     ·cases hu)
    have hlen:(vs.toList.take (l.length*ts.2)).length=l.length*i.size:=by simp;rw[iG];omega
    rw[hlen]at this;exact this
 ·by_cases GR:m.length=0
  ·obtain rfl:m=[]:=ahM GR;have sN:news=[]:=ahM (by rw[hs.size];simp);subst sN;have hr:=Uu (b:=none) (n:=0) (cap:=0) h0 h1 oD hi hs (ahL _) ty;obtain⟨k1,k2⟩:=aV.kN (l':=[]++[]) hb (w:=c.w) none rfl rfl rfl (ahL _) (fun k _ _=>rfl) (fun k n e=>by cases e);exact⟨c.kN b (g+1) ts ([]++[]) none c.w,.slice none 0 0,hr,rfl,k2 ⟨fun i e he=>by simp at he,.inl ⟨rfl,rfl⟩⟩,.jJ b (g+1) ts (oE _ _) (GQ _ _),k1⟩
  ·exact grown [] 0 none (fun idx y hy=>by simp[flat]at hy) sP (fun d=>by simp[Builtin.firstCells]) (by simp;omega) rfl
theorem aO.nH(aV:aO G c)(ts:Nat × Nat)(kh:0<ts.2):let c':Cx:={ c with heap:=c.heap++[.arr 0 ts []] }
  aO G c'/\Step c c'/\c'.heap[c.heap.length]?=some (.arr 0 ts [])/\VR c' (.own c.heap.length 0) (.slice none 0 0):=by
 intro c';have bI:c.own c.heap.length=none:=by
  cases ho:c.own c.heap.length with
  |none=>rfl
  |some p=>have:=(aV.bD _ p.1 p.2 ho).2;omega
 have bc:Step c c':=⟨rfl,aV.bV,rfl,rfl,rfl,ahL _,fun _ _ _=>rfl,fun i b n hi _=>⟨n,hi⟩,fun i bx hi=>by
  have h':c'.heap[i]?=some bx:=by show(c.heap++_)[i]?=_;rw[ahT (aW hi)];exact hi
  cases bx with
  |cells cs=>exact .inl ⟨cs,h',rfl,rfl⟩
  |arr g sz l=>exact .inl ⟨g,l,h',.inr ⟨rfl,rfl,rfl⟩⟩
  |map es=>exact .inl ⟨es,h',rfl⟩
  |gone=>exact h'
  |hole=>exact⟨_,h'⟩⟩
 have eK:c'.heap[c.heap.length]?=some (.arr 0 ts []):=by show(c.heap++_)[_]?=_;simp
 refine⟨aV.next bc (fun i b n hi=>⟨(aV.bD i b n hi).1,by have:=(aV.bD i b n hi).2;show i<(c.heap++_).length;simp;omega⟩) aV.inj (fun i bx hi=>?_),bc,eK,.jJ _ _ ts eK bI⟩;by_cases hY:i=c.heap.length
 ·subst hY;rw[eK]at hi;cases hi;exact .inr ⟨kh,fun i e he=>by simp at he,.inl ⟨bI,rfl⟩⟩
 ·have ai:i<c.heap.length:=by
   have:=aW hi;have h2:c'.heap.length=c.heap.length+1:=by show(c.heap++_).length=_;simp
   omega
  have cu:(c.heap++[.arr 0 ts []])[i]?=some bx:=hi;rw[ahT ai]at cu;exact .inl ⟨cu,rfl,fun _ _ _=>rfl⟩
theorem L7{o:Oper}{ac:Act}{w w':World}{args:Array Operand}{ts:Array TypeId}{x y:Operand}{t0 t1:Nat}{v v0 v1:Value}(h1:o.op=.call { callee := .builtin .append,args:=args,argTypes:=ts })(hx:args.toList=[x,y])(ht:ts.toList=[t0,t1])(e0:ac.eval x=v0)(e1:ac.eval y=v1)
  (hr:(Builtin.append_ #[t0,t1] o.type #[v0,v1]).run P w=.ok v w'):(execOp ac.eval o).run P w=.ok (.value v) w':=by
 have ha:args.map ac.eval = #[v0,v1]:=by
  apply aiY;rw[Array.toList_map,hx];simp[e0,e1]
 have kh:ts = #[t0,t1]:=by apply aiY;rw[ht]
 simp only[execOp,h1,resolve,ha,kh,ahq,ahp,ahr,invoke,builtin,hr]
theorem L8(hE:E.OK){args:Array Operand}{wx:Array TypeId}{x y:Operand}{t0 t1 e:Nat}{i0 i1 ei:bA}(hx:args.toList=[x,y])(De:wx.toList=[t0,t1])(mO:E.T[t0]?=some i0)(yC:E.T[t1]?=some i1)(cb:i0.k=.slice e)(dB:∀ k,i1.k ≠ .int k)(b9:E.T[e]?=some ei)
  (hz:ei.zero.length=ei.size) (db:0<ei.size) (sM:ei.bytes<=65536) {bv:AV} (hy:bk E.G s y bv) {m:List DV} (hm:∀ e∈m,e.cells.length=ei.size)
  (sO:∀ (c:Cx) (v:Value),VR c bv v->∃ news:List Value,Src E.P ei.size c.w v m.length news/\(∀ (j:Nat) (y:DV) (v:Value),(flat m)[j]?=some y->news[j]?=some v->VD c.bad c.w y v))
  {a:AV} (ha:bk E.G s x a) {r:AV} {h':List ae}
  (GS:(∃ b g ts l,a=.own b g/\h[b]?=some (.arr g ts l)/\ts.1=e/\ts.2=ei.size/\l.length+m.length<=2147483648/\r=.own b (g+1)/\h'=h.set b (.arr (g+1) ts (l++m)))\/(a=.d .aF/\m.length<=2147483648/\r=.own h.length 1/\h'=h++[.arr 1 (e,ei.size) m])) :
  bE E (.call { callee := .builtin .append,args:=args,argTypes:=wx }) s h r h':=fun o c ac h1 h2 h3 h4=>by
 subst h2;obtain⟨C7,d0,g1,g2,g3,-⟩:=cK (hE.types _ _ mO);obtain rfl:=mM (cb.symm.trans g3);obtain⟨ti1,d1,k1,k2,k3,-⟩:=cK (hE.types _ _ yC);obtain⟨ti,z,q1,q2,q3,q4⟩:=zeroOf (hE.types _ _ b9) hz db;obtain⟨yu,d',p1,p2,p3,p4,p5,-⟩:=cK (hE.types _ _ b9);rw[q1]at p1;cases p1;have oD:∀ k,d1 ≠ .int k:=fun k e=>dB k (by rw[k3,e];rfl);have kL:z.cells.size=ti.size:=by
  obtain⟨vs,e1,e2⟩:=q4 c;rw[e1];have:=e2.1;simp at this;simp[<- this,hz,q3]
 rcases GS with⟨b,g,ts,l,rfl,hb,rfl,L9,uC,rfl,rfl⟩|⟨rfl,uC,rfl,rfl⟩
 ·obtain⟨news,hs,hn⟩:=sO c _ (hy c ac h3 h4);rw[q3]at hs;obtain⟨c',v',r1,r2,r3,r4,r5⟩:=L5 h3 g2 k2 oD q1 q2 kL (by rw[<- q3];exact L9.symm) (by rw[<- p5];exact sM) hb (ha c ac h3 h4) hs hn (fun e he=>by rw[L9];exact hm e he) uC o.type;exact⟨c',v',.inl (L7 h1 hx De rfl rfl r1),r2,r3,r4,r5⟩
 ·obtain⟨w1,w2,w3,w4⟩:=h3.nH (e,ei.size) db;have nI:=w2.vr (hy c ac h3 h4);obtain⟨news,hs,hn⟩:=sO _ _ nI;rw[q3]at hs;have cV:ac.eval x=.slice none 0 0:=by
   have:=ha c ac h3 h4;generalize ac.eval x=u at this;cases this with
   |d _ _ hd=>cases hd;rfl
  obtain⟨c',v',r1,r2,r3,r4,r5⟩:=L5 (ts:=(e,ei.size)) w1 g2 k2 oD q1 q2 kL q3.symm (by rw[<- p5];exact sM) w3 w4 hs hn hm (zD uC) o.type;refine⟨c',v',.inl (L7 h1 hx De cV rfl r1),?_,r3,r4,w2.trans r5⟩;rw[r2];simp
theorem Ma(hE:E.OK){t e:Nat}{n cc:Operand}{i ei:bA}(hi:E.T[t]?=some i)(hk:i.k=.slice e)(b9:E.T[e]?=some ei)(hz:ei.zero.length=ei.size)(db:0<ei.size)(sM:ei.bytes<=65536)(gJ:∀ y∈ei.zero,y.gd=true){j j':IntKind}{a b:Int}(hn:bk E.G s n (.d (.int j a)))(hc:bk E.G s cc (.d (.int j' b)))
  (ha:0<=a) (oF:a<=b) (hb:b<=2147483648) {zd:DV} (Mb:zd.cells=ei.zero):bE E (.makeSlice t n cc) s h (.own h.length 0) (h++[.arr 0 (e,ei.size) (ahC a.toNat zd)]):=fun o c ac h1 h2 h3 h4=>by
 subst h2;obtain⟨C7,d0,g1,g2,g3,-⟩:=cK (hE.types _ _ hi);obtain rfl:=mM (hk.symm.trans g3);obtain⟨ti,z,q1,q2,q3,q4⟩:=zeroOf (hE.types _ _ b9) hz db;obtain⟨yu,d',p1,p2,p3,p4,p5,-⟩:=cK (hE.types _ _ b9);rw[q1]at p1;cases p1;obtain⟨zs,kL,kc⟩:=q4 c;have ny:zs.length=ei.size:=by rw[<- kc.1];simpa using hz
 have UJ:(ti.bytes:Int)*b<=281474976710656:=by
  have h5:(ti.bytes:Int)<=65536:=by rw[<- p5];omega
  calc (ti.bytes:Int)*b<=65536*2147483648:=Int.mul_le_mul h5 hb oM oM
   _<=281474976710656:=by decide
 have hr:=run_make (P:=E.P) c.w t e ti z g2 q1 q2 j j' a b ha oF UJ oM;have e1:=eT (hn c ac h3 h4);have e2:=eT (hc c ac h3 h4);obtain⟨k1,k2⟩:=h3.add (.arr 0 (e,ei.size) (ahC a.toNat zd)) b.toNat (.cells (madeCells z.cells (b.toNat*ti.size)) e);have eU:jN ei.size (ahC a.toNat zd):=fun i e he=>by
  rw[ah9]at he;split at he
  ·cases he;rw[Mb,hz]
  ·cases he
 have bN:(c.add (.arr 0 (e,ei.size) (ahC a.toNat zd)) b.toNat (.cells (madeCells z.cells (b.toNat*ti.size)) e)).own c.heap.length=some (c.w.heap.size,b.toNat):=by simp[Cx.add]
 have oE:(c.add (.arr 0 (e,ei.size) (ahC a.toNat zd)) b.toNat (.cells (madeCells z.cells (b.toNat*ti.size)) e)).heap[c.heap.length]?=some (.arr 0 (e,ei.size) (ahC a.toNat zd)):=by simp[Cx.add]
 refine⟨_,.slice (some ⟨c.w.heap.size,0,none⟩) a.toNat b.toNat,.inl ?_,rfl,k2 ⟨db,eU,.inr ⟨c.w.heap.size,b.toNat,madeCells z.cells (b.toNat*ti.size),bN,heap_alloc_new _ _,by rw[size_madeCells,q3],by simp;omega,pC oM,?_⟩⟩,?_,k1⟩
 ·simp only[execOp,h1,e1,e2,ahq,hr,ahr,ahp];rfl
 ·intro i' j2 e' x he hx;have lv:j2<ei.size:=by rw[<- eU i' e' he];exact aW hx
  rw[ah9]at he;split at he
  ·rename_i ai;cases he;rw[Mb]at hx;have rp:i'*ei.size+j2<b.toNat*ti.size:=by
    rw[<- q3];have:(i'+1)*ei.size<=b.toNat*ei.size:=aiP _ oM;rw[ahK,ah6]at this;omega
   have rq:(i'*ei.size+j2) % ei.size=j2:=by rw[aia,Nat.mul_add_mod,Nat.mod_eq_of_lt lv]
   have bJ:(madeCells z.cells (b.toNat*ti.size))[i'*ei.size+j2]?=some (zs[j2]' oM):=by
    simp[madeCells,rp,kL,ny,rq,lv]
   have fH:=kc.qY j2 x (zs[j2]' oM) hx (by simp[ny,lv]);exact⟨_,bJ,An fH (gJ x (aiQ hx)),k1.vd fH⟩
  ·cases he
 ·have:=VR.own (c:=c.add (.arr 0 (e,ei.size) (ahC a.toNat zd)) b.toNat (.cells (madeCells z.cells (b.toNat*ti.size)) e)) c.heap.length 0 (e,ei.size) _ c.w.heap.size b.toNat oE bN;rw[List.length_replicate]at this;exact this
theorem Mc(hE:E.OK){o:Op}{stop:Prop}{k:AV->List ae->Prop}(H:uB E.T E.G o s h stop k):stop\/∃ v h',k v h'/\bE E o s h v h':=by
 unfold uB at H;split at H
 ·rename_i args wx;rcases L0 H with h|⟨x,y,hx,H⟩
  ·exact .inl h
  rcases L0 H with h|⟨t0,t1,ht,H⟩
  ·exact .inl h
  rcases bu H with h|⟨i0,mO,H⟩
  ·exact .inl h
  rcases bu H with h|⟨i1,yC,H⟩
  ·exact .inl h
  split at H
  ·rename_i e cb;rcases bu H with h|⟨ei,b9,H⟩
   ·exact .inl h
   split at H
   ·rename_i q1 q2 q3;rcases cO H with h|⟨a,ha,H⟩
    ·exact .inl h
    rcases cO H with h|⟨b,hb,H⟩
    ·exact .inl h
    have fin:∀ (m:List DV),(∀ k,i1.k ≠ .int k)->((∀ e∈m,e.cells.length=ei.size)->∀ (c:Cx) (v:Value),VR c b v->∃ news:List Value,Src E.P ei.size c.w v m.length news/\(∀ (j:Nat) (y:DV) (v:Value),(flat m)[j]?=some y->news[j]?=some v->VD c.bad c.w y v)) ->
      Dc e ei h a m stop k->stop\/∃ v h',k v h'/\bE E (.call { callee := .builtin .append,args:=args,argTypes:=wx }) s h v h':=by
     intro m dB sO H;have gen:=fun{r h'} (hm:∀ e∈m,e.cells.length=ei.size) GS=>L8 (h:=h) (r:=r) (h':=h') hE hx ht mO yC cb dB b9 (ahu q1) (jO q2) (ahA q3) hb hm (sO hm) ha GS;unfold Dc at H;split at H
     ·obtain⟨⟨h1,h2⟩,H⟩:=qk H;rw[uo,ahB]at H;exact .inr ⟨_,_,H,gen h2 (.inr ⟨rfl,h1,rfl,rfl⟩)⟩
     ·rcases bu H with h|⟨bx,kb,H⟩
      ·exact .inl h
      split at H
      ·split at H
       ·rename_i p1 p2 p3;have p1:=ahu p1;subst p1;obtain⟨⟨h1,h2⟩,H⟩:=qk H;rw[jk]at H;exact .inr ⟨_,_,H,gen h2 (.inl ⟨_,_,_,_,rfl,kb,ahu p2,ahu p3,h1,rfl,rfl⟩)⟩
       ·exact .inl H
      ·exact .inl H
     ·exact .inl H
    split at H
    ·rename_i e' m dB;exact fin m (fun k hk=>by rw[dB]at hk;cases hk) (fun hm c v hv=>by cases hv with|d _ _ hv=>exact L3 (jO q2) hm hv) H
    ·rename_i z dB;split at H
     ·refine fin (z.map me) (fun k hk=>by rw[dB]at hk;cases hk) (fun hm c v hv=>?_) H;have fu:=qX hv;subst fu;by_cases hz:z=[]
      ·subst hz;exact⟨[],⟨fun _=>by simp[Builtin.lenOf,ByteArray.size],fun d=>by simp[Builtin.firstCells],fun v hv=>by simp at hv,by simp⟩,fun j y v hy=>by simp[flat]at hy⟩
      ·obtain⟨b0,r,hr⟩:=ahV hz;have h1:1=ei.size:=hm (me b0) (by rw[hr];simp);rw[<- h1];exact⟨_,L4.1,(L4 (P:=E.P)).2⟩
     ·exact .inl H
    ·exact .inl H
   ·exact .inl H
  ·exact .inl H
 ·rcases bu H with h|⟨i,hi,H⟩
  ·exact .inl h
  split at H
  ·rename_i e hk;rcases bu H with h|⟨ei,b9,H⟩
   ·exact .inl h
   split at H
   ·rename_i q1 q2 q3 q4;rcases cO H with h|⟨a,ha,H⟩
    ·exact .inl h
    split at H
    ·rcases cO H with h|⟨b,hb,H⟩
     ·exact .inl h
     split at H
     ·split at H
      ·rename_i z iB;obtain⟨⟨h1,h2,h3⟩,H⟩:=qk H;rw[uo,ahB]at H;have kL:z.gd=true:=by rw[iB]at q4;simpa using q4
       exact .inr ⟨_,_,H,Ma hE hi hk b9 (ahu q1) (jO q2) (ahA q3) (fun y hy=>ahH.1 q4 y hy) ha hb h1 h2 h3 (zd:=z) (by rw[iB];cases z<;>first|rfl|cases kL)⟩
      ·obtain⟨⟨h1,h2,h3⟩,H⟩:=qk H;rw[uo,ahB]at H;exact .inr ⟨_,_,H,Ma hE hi hk b9 (ahu q1) (jO q2) (ahA q3) (fun y hy=>ahH.1 q4 y hy) ha hb h1 h2 h3 rfl⟩
     ·exact .inl H
    ·exact .inl H
   ·exact .inl H
  ·exact .inl H
 ·exact .inl H
end
end Go.az
end
section
namespace Go.az
open Go Go.RowKit
@[irreducible] def sQ (l : List DV) (sz : Nat) (n : Int) (K : DV -> Prop) : Prop := ∃ e, 0 <= n /\ l[n.toNat]? = some e /\ e.cells.length = sz /\ K e
theorem fI{l:List DV}{sz:Nat}{n:Int}{K:DV->Prop}(e:DV)(h0:0<=n)(he:l[n.toNat]?=some e)(hs:e.cells.length=sz)(k:K e):sQ l sz n K:=by unfold sQ;exact⟨e,h0,he,hs,k⟩
theorem GU{l:List DV}{sz:Nat}{n:Int}{K:DV->Prop}(h:sQ l sz n K):∃ e,0<=n/\l[n.toNat]?=some e/\e.cells.length=sz/\K e:=by unfold sQ at h;exact h
@[irreducible] def AI (s : List UInt8) (n : Int) (K : UInt8 -> Prop) : Prop := ∃ b, 0 <= n /\ s[n.toNat]? = some b /\ K b
theorem mR{s:List UInt8}{n:Int}{K:UInt8->Prop}(b:UInt8)(h0:0<=n)(hb:s[n.toNat]?=some b)(k:K b):AI s n K:=by unfold AI;exact⟨b,h0,hb,k⟩
theorem UK{s:List UInt8}{n:Int}{K:UInt8->Prop}(h:AI s n K):∃ b,0<=n/\s[n.toNat]?=some b/\K b:=by unfold AI at h;exact h
@[irreducible] def AJ (c : List DV) (len sz : Nat) (n : Int) (K : DV -> Prop) : Prop := ∃ e, 0 <= n /\ n < len /\ 0 < sz /\ (c.drop (n.toNat * sz)).take sz = e.cells /\ e.cells.length = sz /\ K e
theorem UL{c:List DV}{len sz:Nat}{n:Int}{K:DV->Prop}(e:DV)(h0:0<=n)(h1:n<len)(hz:0<sz)(he:(c.drop (n.toNat*sz)).take sz=e.cells)(hs:e.cells.length=sz)(k:K e):AJ c len sz n K:=by unfold AJ;exact⟨e,h0,h1,hz,he,hs,k⟩
theorem UM{c:List DV}{len sz:Nat}{n:Int}{K:DV->Prop}(h:AJ c len sz n K):∃ e,0<=n/\n<len/\0<sz/\(c.drop (n.toNat*sz)).take sz=e.cells/\e.cells.length=sz/\K e:=by unfold AJ at h;exact h
def Df(G:List (Nat × DV))(s:List AV)(x:Option Operand)(stop:Prop)(k:Option Int->Prop):Prop :=
 match x with
 |none=>k none
 |some x=>cG G s x stop fun
  | .d (.int _ n)=>k (some n)
  |_=>stop
def Dg(e:DV)(off:Nat)(ds:List DV)(stop:Prop)(k:DV->Prop):Prop :=
 match e with
 | .agg c=>match Nat.ble (off+ds.length) c.length with
  |true=>yf c off ds fun c'=>k (.agg c')
  |false=>stop
 |_=>match off,ds with
  |0,[d]=>match d.gd with
   |true=>k d
   |false=>stop
  |_,_=>stop
def GV(e:DV)(off:Nat)(vs:List AV)(stop:Prop)(k:DV->Prop):Prop:=sE vs stop fun ds=>Dg e off ds stop k
def sR(T:List bA)(G:List (Nat × DV))(o:Op)(s:List AV)(h:List ae)(stop:Prop)(k:AV->List ae->Prop):Prop :=
 match o with
 | .indexAddr t x i=>bh T t stop fun ti=>cG G s x stop fun a=>cG G s i stop fun
  | .d (.int _ n)=>match ti.k with
   | .slice e=>bh T e stop fun ei=>match a with
    | .d (.sl l)=>match ahw 0 ei.size with
     |true=>sQ l ei.size n fun e=>k (.bT e 0) h
     |false=>stop
    | .own b g=>bh h b stop fun
     | .arr g' ts l=>match ahv g g',ahv ts.2 ei.size with
      |true,true=>need (0<=n/\n<l.length) (k (.dv b g n.toNat 0) h)
      |_,_=>stop
     |_=>stop
    |_=>stop
   | .array len e=>bh T e stop fun ei=>match a with
    | .bT (.agg c) 0=>AJ c len ei.size n fun e'=>k (.bT e' 0) h
    |_=>stop
   |_=>stop
  |_=>stop
 | .index t x i=>bh T t stop fun ti=>cG G s x stop fun a=>cG G s i stop fun
  | .d (.int _ n)=>match ti.k,a with
   | .string,.d (.str l)=>AI l n fun b=>k (.d (.int .u8 b.toNat)) h
   |_,_=>stop
  |_=>stop
 | .slice t x lo hi none=>bh T t stop fun ti=>cG G s x stop fun a=>Df G s lo stop fun l=>Df G s hi stop fun u=>match ti.k,a with
  | .string,.d (.str z)=>need (0<=l.getD 0/\l.getD 0<=u.getD z.length/\u.getD z.length<=z.length) (k (.d (.str ((z.take (u.getD z.length).toNat).drop (l.getD 0).toNat))) h)
  | .slice e,.d (.sl z)=>bh T e stop fun ei=>need (0<=l.getD 0/\l.getD 0<=u.getD z.length/\u.getD z.length<=z.length/\∀ e∈z,e.cells.length=ei.size) (k (.d (.sl ((z.take (u.getD z.length).toNat).drop (l.getD 0).toNat))) h)
  |_,_=>stop
 | .load t x=>bh T t stop fun ti=>cG G s x stop fun
  | .dv b g i off=>bh h b stop fun
   | .arr g' ts l=>match ahv g g' with
    |true=>sQ l ts.2 i fun e=>match e with
     | .agg c=>qh .d c fun c'=>mK ti c' off stop fun v=>k v h
     |e=>mK ti [.d e] off stop fun v=>k v h
    |false=>stop
   |_=>stop
  |_=>stop
 | .store t x y=>bh T t stop fun ti=>cG G s y stop fun v=>cG G s x stop fun
  | .dv b g i off=>bh h b stop fun
   | .arr g' ts l=>match ahv g g' with
    |true=>yh v stop fun vs=>match ahv vs.length ti.size,vs.all AV.gd with
     |true,true=>sQ l ts.2 i fun e=>GV e off vs stop fun e'=>iA h b (.arr g ts (l.set i e')) fun h'=>k (.d .undef) h'
     |_,_=>stop
    |false=>stop
   |_=>stop
  |_=>stop
 |o=>uB T G o s h stop k
section
variable {E:Env} {s:List AV} {h:List ae} {c:Cx}
theorem GW{P:Program}{t e:Nat}{i ei:bA}(ht:fR P t=some i)(yD:fR P e=some ei)(hk:i.k=.slice e){j:IntKind}{n:Int}{b o len cap:Nat}{w:World}(h0:0<=n)(h1:n<len) :
  (Instr.indexAt t (.slice (some ⟨b,o,none⟩) len cap) (.int j n)).run P w=.ok (.pointer (some ⟨b,o+n.toNat*ei.size,none⟩)) w:=by
 obtain⟨ti,d,g1,g2,g3,-⟩:=cK ht;obtain rfl:=mM (hk.symm.trans g3);simp only[Instr.indexAt,asIntOf,ahq,ahp,ahr,run_underlying g2,h0,h1,and_self,if_true,run_sizeOf yD,oy]
theorem AK{P:Program}{o:Oper}{ac:Act}{w:World}{t:Nat}{x i:Operand}{v:Value}(h1:o.op=.indexAddr t x i)(hr:(Instr.indexAt t (ac.eval x) (ac.eval i)).run P w=.ok v w):(execOp ac.eval o).run P w=.ok (.value v) w:=by
 simp only[execOp,h1,ahq,hr,ahr,ahp]
theorem UN{l:List DV}{v:Value}(hv:VR c (.d (.sl l)) v){n sz:Nat}{e:DV}(he:l[n]?=some e)(hs:e.cells.length=sz)(db:0<sz):∃ blk off cap,v=.slice (some ⟨blk,off,none⟩) l.length cap/\VR c (.bT e 0) (.pointer (some ⟨blk,off+n*sz,none⟩)):=by
 cases hv with
 |d _ _ hd=>cases hd with
  |slnil=>simp at he
  |l6=>simp at he
  |sl _ blk off cap dH f hb bP kI hlen dQ bJ bW =>
   obtain rfl:dH=sz:=(hlen n e he).symm.trans hs;refine⟨blk,off,cap,rfl,?_⟩;have aL:l≠[]:=fun h0=>by subst h0;simp at he
   have:=VR.bT (c:=c) e 0 blk (off+n*dH) (fun j=>f n j) (hb aL) (fun h0=>by rw[h0]at hs;simp at hs;omega) (fun j x hx=>by rw[ahE];exact dQ n j e x he hx) (fun j x hx=>bJ n j e x he hx);exact this
theorem UO(hE:E.OK){t e:Nat}{x i:Operand}{ti ei:bA}(ca:E.T[t]?=some ti)(b9:E.T[e]?=some ei)(hk:ti.k=.slice e){l:List DV}{j:IntKind}{n:Int}(hx:bk E.G s x (.d (.sl l)))(hi:bk E.G s i (.d (.int j n)))(db:0<ei.size){y:DV}(h0:0<=n)(hy:l[n.toNat]?=some y)(hs:y.cells.length=ei.size) :
  bE E (.indexAddr t x i) s h (.bT y 0) h := .quiet fun o c ac h1 _ h3 h4=>by
 obtain⟨blk,off,cap,e1,e2⟩:=UN (hx c ac h3 h4) hy hs db;refine⟨_,AK h1 ?_,e2⟩;rw[e1,eT (hi c ac h3 h4)];have:=aW hy;exact GW (hE.types t ti ca) (hE.types e ei b9) hk h0 oM
theorem Md{b g i off:Nat}{ts:Nat × Nat}{l:List DV}(hb:c.heap[b]?=some (.arr g ts l)){v:Value}(hv:VR c (.dv b g i off) v):∃ blk cap,c.own b=some (blk,cap)/\v=.pointer (some ⟨blk,i*ts.2+off,none⟩)/\i<l.length:=by
 cases hv with
 |dv _ _ _ _ _ l' blk cap k1 k2 k3=>rw[hb]at k1;cases k1;exact⟨blk,cap,k2,rfl,k3⟩
 |nv _ _ g' _ _ _ _ _ k1 k2 _=>rw[hb]at k1;cases k1;omega
 |nw _ _ _ _ _ k1 _=>rw[hb]at k1;cases k1
theorem UP(hE:E.OK){t e:Nat}{x i:Operand}{ti ei:bA}(ca:E.T[t]?=some ti)(b9:E.T[e]?=some ei)(hk:ti.k=.slice e){b g:Nat}{ts:Nat × Nat}{l:List DV}(hb:h[b]?=some (.arr g ts l))(kh:ts.2=ei.size){j:IntKind}{n:Int}(hx:bk E.G s x (.own b g))(hi:bk E.G s i (.d (.int j n)))(h0:0<=n)(h1:n<l.length) :
  bE E (.indexAddr t x i) s h (.dv b g n.toNat 0) h := .quiet fun o c ac e1 e2 h3 h4=>by
 subst e2;rcases lu hb (hx c ac h3 h4)with⟨blk,cap,q1,q2⟩|⟨rfl,-,-⟩
 ·refine⟨_,AK e1 (v := .pointer (some ⟨blk,0+n.toNat*ei.size,none⟩)) ?_,?_⟩
  ·rw[q2,eT (hi c ac h3 h4)];exact GW (hE.types t ti ca) (hE.types e ei b9) hk h0 h1
  ·have:=VR.dv (c:=c) b g n.toNat 0 ts l blk cap hb q1 oM;rw[kh]at this
   simpa using this
 ·simp at h1;omega
theorem UQ(hE:E.OK){t e len:Nat}{x i:Operand}{ti ei:bA}(ca:E.T[t]?=some ti)(b9:E.T[e]?=some ei)(hk:ti.k=.array len e){cs:List DV}{j:IntKind}{n:Int}(hx:bk E.G s x (.bT (.agg cs) 0))(hi:bk E.G s i (.d (.int j n))){y:DV}(h0:0<=n)(h1:n<len)(db:0<ei.size)(hy:(cs.drop (n.toNat*ei.size)).take ei.size=y.cells)(hs:y.cells.length=ei.size) :
  bE E (.indexAddr t x i) s h (.bT y 0) h := .quiet fun o c ac e1 _ h3 h4=>by
 obtain⟨nJ,d,g1,g2,g3,-⟩:=cK (hE.types t ti ca);obtain rfl:=yn (hk.symm.trans g3);have key:∀ p,VR c (.bT (.agg cs) 0) p->∃ blk o',p=.pointer (some ⟨blk,o',none⟩)/\VR c (.bT y 0) (.pointer (some ⟨blk,o'+n.toNat*ei.size,none⟩)):=fun p hp=>by
  cases hp with
  |bT _ _ blk o' f k1 k2 k3 k4 =>
   have ew:∀ (jj:Nat) (z:DV),y.cells[jj]?=some z->cs[n.toNat*ei.size+jj]?=some z:=fun jj z hz=>by
    rw[<- hy,ahS]at hz;split at hz
    ·simpa using hz
    ·cases hz
   exact⟨blk,o'+0,rfl,VR.bT y 0 blk (o'+0+n.toNat*ei.size) (fun jj=>f (n.toNat*ei.size+jj)) k1 (fun hh=>by rw[hh]at hs;simp at hs;omega) (fun jj z hz=>by rw[ah3,ahE];exact k3 _ z (ew jj z hz)) (fun jj z hz=>k4 _ z (ew jj z hz))⟩
 obtain⟨blk,o',q1,q2⟩:=key _ (hx c ac h3 h4);refine⟨_,AK e1 ?_,q2⟩;rw[q1,eT (hi c ac h3 h4)];simp only[Instr.indexAt,asIntOf,ahq,ahp,ahr,run_underlying g2,Instr.sureAddr,h0,h1,and_self,if_true,run_sizeOf (hE.types e ei b9),oy]
theorem UR(hE:E.OK){t:Nat}{x i:Operand}{ti:bA}(ca:E.T[t]?=some ti)(hk:ti.k=.string){l:List UInt8}{j:IntKind}{n:Int}(hx:bk E.G s x (.d (.str l)))(hi:bk E.G s i (.d (.int j n))){b:UInt8}(h0:0<=n)(hb:l[n.toNat]?=some b) :
  bE E (.index t x i) s h (.d (.int .u8 b.toNat)) h := .quiet fun o c ac e1 _ h3 h4=>by
 obtain⟨nJ,d,g1,g2,g3,-⟩:=cK (hE.types t ti ca);obtain rfl:=uu (hk.symm.trans g3);have ai:=aW hb;have ew:(ByteArray.mk l.toArray)[n.toNat]?=some b:=by
  have hs:n.toNat<(ByteArray.mk l.toArray).size:=by simpa [ByteArray.size]using ai
  rw[getElem?_pos (ByteArray.mk l.toArray) n.toNat hs];have:=aiX ai;rw[hb]at this
  simpa [ByteArray.getElem_eq_getElem_data]using this.symm
 refine⟨.int .u8 b.toNat,?_,.d _ _ (.int _ _)⟩;simp only[execOp,e1,qX (hx c ac h3 h4),eT (hi c ac h3 h4),Instr.index,asIntOf,ahq,ahp,ahr,run_underlying g2,h0,if_true,ew]
def AL(G:List (Nat × DV))(s:List AV)(x:Option Operand)(n:Option Int):Prop:=∀ (c:Cx) (a:Act),aO G c->VS c s a.tmps->match n with
 |none=>x.map a.eval=none
 |some n=>∃ j,x.map a.eval=some (.int j n)
theorem Me{x:Option Operand}{stop:Prop}{k:Option Int->Prop}(H:Df E.G s x stop k):stop\/∃ n,AL E.G s x n/\k n:=by
 unfold Df at H;split at H
 ·exact .inr ⟨none,fun _ _ _ _=>rfl,H⟩
 ·rcases cO H with h|⟨v,hv,H⟩
  ·exact .inl h
  split at H
  ·rename_i j n;refine .inr ⟨some n,fun c a h1 h2=>?_,H⟩;show ∃ j,_=some (Value.int j n);exact⟨j,by simp[eT (hv c a h1 h2)]⟩
  ·exact .inl H
theorem GX{P:Program}{w:World}{isSlice:Bool}{len cap:Nat}{lo hi:Option Value}{l u:Option Int}(hl:match l with|none=>lo=none|some n=>∃ j,lo=some (.int j n))(hu:match u with|none=>hi=none|some n=>∃ j,hi=some (.int j n))
  (h0:0<=l.getD 0) (h1:l.getD 0<=u.getD len) (h2:u.getD len<=len) (hc:len<=cap) :
  (Instr.sliceBounds isSlice len cap lo hi none).run P w=.ok ((l.getD 0).toNat,(u.getD len).toNat,cap) w:=by
 cases l with
 |none =>
  simp only at hl;subst hl;cases u with
  |none =>
   simp only at hu;subst hu;simp only[Instr.sliceBounds,ahq,ahp,ahr,aiZ,ai0,ai']
  |some n =>
   obtain⟨j,rfl⟩:=hu;simp only[ah8,aiZ]at h1 h2;simp only[Instr.sliceBounds,ahq,ahp,ahr,aiZ,ah8,ai',run_sliceBound w j n cap _ h1 oM]
 |some m =>
  obtain⟨i,rfl⟩:=hl;cases u with
  |none =>
   simp only at hu;subst hu;simp only[ah8,aiZ]at h0 h1;simp only[Instr.sliceBounds,ahq,ahp,ahr,aiZ,ah8,ai0,run_sliceBound w i m len _ h0 h1]
  |some n =>
   obtain⟨j,rfl⟩:=hu;simp only[ah8]at h0 h1 h2;simp only[Instr.sliceBounds,ahq,ahp,ahr,ah8,run_sliceBound w j n cap _ oM oM,run_sliceBound w i m n.toNat _ h0 oM]
theorem US(l:List UInt8)(a b:Nat):(ByteArray.mk l.toArray).extract a b=ByteArray.mk ((l.take b).drop a).toArray:=by
 apply ByteArray.ext;simp[List.extract_eq_take_drop,List.drop_take]
theorem UT(hE:E.OK){t:Nat}{x:Operand}{lo hi:Option Operand}{ti:bA}(ca:E.T[t]?=some ti)(hk:ti.k=.string){z:List UInt8}{l u:Option Int}(hx:bk E.G s x (.d (.str z)))(hl:AL E.G s lo l)(hu:AL E.G s hi u)
  (h0:0<=l.getD 0) (h1:l.getD 0<=u.getD z.length) (h2:u.getD z.length<=z.length):bE E (.slice t x lo hi none) s h (.d (.str ((z.take (u.getD z.length).toNat).drop (l.getD 0).toNat))) h := .quiet fun o c ac e1 _ h3 h4=>by
 obtain⟨nJ,d,g1,g2,g3,-⟩:=cK (hE.types t ti ca);obtain rfl:=uu (hk.symm.trans g3);have bP:(ByteArray.mk z.toArray).size=z.length:=by simp[ByteArray.size]
 have hb:=GX (P:=E.P) (w:=c.w) (isSlice:=false) (len:=z.length) (cap:=z.length) (hl c ac h3 h4) (hu c ac h3 h4) h0 h1 h2 (ahL _);refine⟨_,?_,.d _ _ (.str _)⟩;simp only[execOp,e1,qX (hx c ac h3 h4),Instr.sliceAt,Instr.slice,ahq,ahp,ahr,run_underlying g2,ai1,Option.isSome_none,ah0,if_false,bP,hb,US]
theorem Mf{bad:Nat->Prop}{w:World}{z:List DV}{v:Value}(hv:VD bad w (.sl z) v){lo hi sz:Nat}(h1:lo<=hi)(h2:hi<=z.length)(bP:∀ e∈z,e.cells.length=sz):∃ a cap,v=.slice a z.length cap/\z.length<=cap/\VD bad w (.sl ((z.take hi).drop lo)) (.slice (if cap=lo then a else a.map (·.add (lo*sz))) (hi-lo) (cap-lo)):=by
 have hlen:((z.take hi).drop lo).length=hi-lo:=by simp;omega
 cases hv with
 |slnil =>
  simp at h2;subst h2;simp at h1;subst h1;exact⟨none,0,rfl,ahL _,zD VD.slnil⟩
 |l6 a =>
  simp at h2;subst h2;simp at h1;subst h1;exact⟨some a,0,rfl,ahL _,zD (VD.l6 a)⟩
 |sl _ blk off cap dH f hb Dd kI mS dQ bJ bW =>
  refine⟨some ⟨blk,off,none⟩,cap,rfl,kI,?_⟩;by_cases hc:cap=lo
  ·have:hi=lo:=by omega
   subst this;have e:(z.take hi).drop hi=[]:=by simp
   rw[e,if_pos hc,Nat.sub_self];exact .sl [] blk off (cap-hi) dH f (fun h=>absurd rfl h) Dd (ai4 _) (fun i e he=>by simp at he) (fun i j e x he=>by simp at he) (fun i j e x he=>by simp at he) (fun i j e x he=>by simp at he)
  ·rw[if_neg hc,<- hlen];simp only[air,oy];have ew:∀ (i:Nat) (e:DV),((z.take hi).drop lo)[i]?=some e->z[lo+i]?=some e:=fun i e he=>by
    simp only[ai5,ahS]at he;split at he
    ·exact he
    ·cases he
   by_cases aL:(z.take hi).drop lo=[]
   ·rw[aL];exact .sl [] blk _ (cap-lo) dH f (fun h=>absurd rfl h) Dd (ai4 _) (fun i e he=>by simp at he) (fun i j e x he=>by simp at he) (fun i j e x he=>by simp at he) (fun i j e x he=>by simp at he)
   ·obtain⟨e0,r,hr⟩:=ahV aL;have GY:=ew 0 e0 (by rw[hr];rfl);have pt:dH=sz:=(mS _ _ GY).symm.trans (bP e0 (aiQ GY));subst pt;refine .sl _ blk (off+lo*dH) (cap-lo) dH (fun i j=>f (lo+i) j) (fun _=>hb (fun h=>by subst h;simp at GY)) Dd (by rw[hlen];omega) (fun i e he=>mS _ _ (ew i e he)) (fun i j e x he hx=>?_) (fun i j e x he hx=>bJ _ _ _ _ (ew i e he) hx) (fun i j e x he hx=>bW _ _ _ _ (ew i e he) hx);have:=dQ _ _ _ _ (ew i e he) hx;rw[ahK]at this;rw[show off+lo*dH+(i*dH+j)=off+(lo*dH+i*dH+j) by omega];exact this
theorem UU(hE:E.OK){t e:Nat}{x:Operand}{lo hi:Option Operand}{ti ei:bA}(ca:E.T[t]?=some ti)(b9:E.T[e]?=some ei)(hk:ti.k=.slice e){z:List DV}{l u:Option Int}(hx:bk E.G s x (.d (.sl z)))(hl:AL E.G s lo l)(hu:AL E.G s hi u)
  (h0:0<=l.getD 0) (h1:l.getD 0<=u.getD z.length) (h2:u.getD z.length<=z.length) (bP:∀ e∈z,e.cells.length=ei.size):bE E (.slice t x lo hi none) s h (.d (.sl ((z.take (u.getD z.length).toNat).drop (l.getD 0).toNat))) h := .quiet fun o c ac e1 _ h3 h4=>by
 obtain⟨nJ,d,g1,g2,g3,-⟩:=cK (hE.types t ti ca);obtain rfl:=mM (hk.symm.trans g3);have hv:=hx c ac h3 h4;generalize GZ:ac.eval x=v at hv;cases hv with
 |d _ _ hv =>
  obtain⟨a,cap,rfl,kI,hd⟩:=Mf hv (lo:=(l.getD 0).toNat) (hi:=(u.getD z.length).toNat) oM oM bP;have hb:=GX (P:=E.P) (w:=c.w) (isSlice:=true) (len:=z.length) (cap:=cap) (hl c ac h3 h4) (hu c ac h3 h4) h0 h1 h2 kI;refine⟨_,?_,.d _ _ hd⟩;simp only[execOp,e1,GZ,Instr.sliceAt,Instr.slice,ahq,ahp,ahr,run_underlying g2,ai1,hb,run_sizeOf (hE.types e ei b9)]
theorem aO.elem{G:List (Nat × DV)}(ho:aO G c){b g:Nat}{ts:Nat × Nat}{l:List DV}(hb:c.heap[b]?=some (.arr g ts l)){blk cap:Nat}(bN:c.own b=some (blk,cap)){i:Nat}{e:DV}(he:l[i]?=some e) :
  ∃ (vs:Array Value) (us:List Value),c.w.heap[blk]?=some (.cells vs ts.1 (0,0))/\us.length=ts.2/\C3 c.w blk (i*ts.2) us/\VL c (e.cells.map .d) us/\i*ts.2+ts.2<=vs.size:=by
 obtain⟨q0,q1,q2⟩:=ho.box b _ hb;rcases q2 with⟨q2,-⟩|⟨jL,iV,vs,q2,q3,q4,q5,q6,q7⟩
 ·rw[bN]at q2;cases q2
 ·rw[bN]at q2;cases q2;have hlen:=q1 i e he;have hi:=aW he;have jM:i*ts.2+ts.2<=vs.size:=by
   rw[q4]
   calc i*ts.2+ts.2=(i+1)*ts.2:=by rw[ahK,ah6]
    _<=cap*ts.2:=aiP _ oM
  refine⟨vs,(vs.toList.drop (i*ts.2)).take ts.2,q3,by simp;omega,fun j v hv=>?_,.v7 (by simp[hlen];omega) (fun j x v hx hv=>?_),jM⟩
  ·rw[ahS]at hv;split at hv
   ·rw[ai5]at hv;have:=mL q3 (i*ts.2+j) v hv
    simpa using this
   ·cases hv
  ·obtain⟨u,k1,-,k2⟩:=q7 i j e x he hx;rw[ahS]at hv;split at hv
   ·rw[ai5]at hv;have:vs[i*ts.2+j]?=some v:=zD hv
    rw[k1]at this;cases this;exact k2
   ·cases hv
theorem Mg(hE:E.OK){t:Nat}{x:Operand}{ti:bA}(ca:E.T[t]?=some ti){b g i off:Nat}{ts:Nat × Nat}{l:List DV}(hb:h[b]?=some (.arr g ts l))(hx:bk E.G s x (.dv b g i off)){e:DV}(he:l[i]?=some e){stop:Prop}{k:AV->Prop}{cs:List AV}(eE:cs=e.cells.map .d)(H:mK ti cs off stop k) :
  stop\/∃ v,k v/\bE E (.load t x) s h v h:=by
 rcases C4 H with h1|⟨v,hk,hp⟩
 ·exact .inl h1
 refine .inr ⟨v,hk,.quiet fun o c ac h1 h2 h3 h4=>?_⟩;subst h2;obtain⟨blk,cap,q1,q2,q3⟩:=Md hb (hx c ac h3 h4);obtain⟨vs,us,r1,r2,r3,r4,r5⟩:=h3.elem hb q1 he;obtain⟨u,hu,sF⟩:=hp E.P t c blk (i*ts.2) us (hE.types t ti ca) (by rw[eE];exact r4) r3;refine⟨u,?_,sF⟩;simp only[execOp,h1,q2,ahq,hu,ahr,ahp]
theorem aO.UW{G:List (Nat × DV)}(ho:aO G c){b g blk cap:Nat}{ts:Nat × Nat}{l:List DV}{vs:Array Value}(hb:c.heap[b]?=some (.arr g ts l))(bN:c.own b=some (blk,cap))(hblk:c.w.heap[blk]?=some (.cells vs ts.1 (0,0)))
  {i off:Nat} {e e':DV} (he:l[i]?=some e) (hs:e'.cells.length=ts.2) {us:List Value} (jM:off+us.length<=ts.2) (bW:∀ u∈us,u.oneCell'=true)
  (hv:∀ (j:Nat) (x:DV),e'.cells[j]?=some x->(off<=j/\∃ v,us[j-off]?=some v/\VD c.bad c.w x v)\/((j<off\/off+us.length<=j)/\e.cells[j]?=some x)) :
  let c':Cx:={ c with heap:=c.heap.set b (.arr g ts (l.set i e')),w:=c.w.setCells blk (i*ts.2+off) us }
  aO G c'/\Step c c':=by
 intro c';obtain⟨e1,e2,e3,e4⟩:=C5 blk us (i*ts.2+off) c.w;have fE:b<c.heap.length:=(ho.bD b blk cap bN).2
 have bc:Step c c':={
  aD:=rfl
  bV:=ho.bV
  os:=e1
  tape:=e2
  output:=e3
  size:=aiu e4.symm
  keep:=fun x _ hn=>yk blk us _ c.w x (fun e=>hn b cap (by rw[e];exact bN))
  eh:=fun i x n hi _=>⟨n,hi⟩
  boxes:=fun k bx hk=>by
   by_cases sS:k=b
   ·subst sS;rw[hb]at hk;cases hk;exact .inl ⟨g,l.set i e',by show(c.heap.set k _)[k]?=_;rw[ahQ fE],.inr ⟨rfl,by simp,rfl⟩⟩
   ·have h':c'.heap[k]?=some bx:=by show(c.heap.set b _)[k]?=_;rw[ahR (Ne.symm sS)];exact hk
    cases bx with
    |cells cs=>exact .inl ⟨cs,h',rfl,rfl⟩
    |arr g sz l=>exact .inl ⟨g,l,h',.inr ⟨rfl,rfl,rfl⟩⟩
    |map es=>exact .inl ⟨es,h',rfl⟩
    |gone=>exact h'
    |hole=>exact⟨_,h'⟩ }
 refine⟨ho.next bc (fun k x n hk=>⟨by show x<(c.w.setCells blk _ us).heap.size;rw[e4];exact(ho.bD k x n hk).1,by show k<(c.heap.set b _).length;rw[aiv];exact(ho.bD k x n hk).2⟩) ho.inj (fun k bx hk=>?_),bc⟩;by_cases sS:k=b
 ·subst sS;have lx:(c.heap.set k (.arr g ts (l.set i e')))[k]?=some bx:=hk;rw[ahQ fE]at lx;cases lx;right;obtain⟨q0,q1,q2⟩:=ho.box k _ hb;rcases q2 with⟨q2,-⟩|⟨jL,iV,vs',q2,q3,q4,q5,q6,q7⟩
  ·rw[bN]at q2;cases q2
  ·rw[bN]at q2;cases q2;rw[hblk]at q3;cases q3;have hY:=aW he;have G0:jN ts.2 (l.set i e'):=jN.set q1 i hs;refine⟨q0,G0,.inr ⟨blk,cap,(dX vs.toList (i*ts.2+off) us).toArray,bN,C6 blk ts.1 (0,0) us _ c.w vs hblk,by simp[Ao,q4],zD q5,q6,fun i' j e2 x h2 hx=>?_⟩⟩;have hj:j<ts.2:=by rw[<- G0 i' e2 h2];exact aW hx
   have ew:∀ (p:Nat),(dX vs.toList (i*ts.2+off) us)[p]?=if i*ts.2+off<=p/\p<i*ts.2+off+us.length/\p<vs.size then us[p-(i*ts.2+off)]? else vs[p]? := by
    intro p;have gen:∀ (us:List Value) (o:Nat) (q:List Value),(dX q o us)[p]?=if o<=p/\p<o+us.length/\p<q.length then us[p-o]? else q[p]? := by
     intro us
     induction us with
     |nil=>intro o q;rw[if_neg (by simp;omega)];rfl
     |cons u us ih =>
      intro o q;rw[dX,ih];by_cases hp:o=p
      ·subst hp;rw[if_neg oM];by_cases hq:o<q.length
       ·rw[if_pos (by simp;omega),ahQ hq];simp
       ·rw[if_neg oM,aht (by simp;omega),aht oM]
      ·by_cases hc:o+1<=p/\p<o+1+us.length/\p<q.length
       ·rw[if_pos (zD hc),if_pos (by simp;omega)];rw[show p-o=(p-(o+1))+1 by omega];simp
       ·rw[if_neg (zD hc),if_neg (by simp;omega),ahR hp]
    have:=gen us (i*ts.2+off) vs.toList
    simpa using this
   have agv:i*ts.2+ts.2<=vs.size:=by
    rw[q4]
    calc i*ts.2+ts.2=(i+1)*ts.2:=by rw[ahK,ah6]
     _<=cap*ts.2:=aiP _ oM
   show ∃ v,(dX vs.toList (i*ts.2+off) us).toArray[i'*ts.2+j]?=some v/\_;rw[List.getElem?_toArray,ew];by_cases G1:i'=i
   ·subst G1;rw[ahQ hY]at h2;cases h2;rcases hv j x hx with⟨k1,v,k2,k3⟩|⟨k1,k2⟩
    ·have:=aW k2;rw[if_pos oM];exact⟨v,by rw[show i'*ts.2+j-(i'*ts.2+off)=j-off by omega];exact k2,bW v (aiQ k2),bc.vd k3⟩
    ·rw[if_neg oM];obtain⟨v,r1,r2,r3⟩:=q7 i' j e x he k2;exact⟨v,r1,r2,bc.vd r3⟩
   ·rw[ahR (Ne.symm G1)]at h2;obtain⟨v,r1,r2,r3⟩:=q7 i' j e2 x h2 hx;rw[if_neg ?_]
    ·exact⟨v,r1,r2,bc.vd r3⟩
    ·rintro⟨k1,k2,-⟩;rcases Nat.lt_or_gt_of_ne G1 with ai|wy
     ·have:(i'+1)*ts.2<=i*ts.2:=aiP _ ai;rw[ahK,ah6]at this;omega
     ·have:(i+1)*ts.2<=i'*ts.2:=aiP _ wy;rw[ahK,ah6]at this;omega
 ·left;have lx:(c.heap.set b (.arr g ts (l.set i e')))[k]?=some bx:=hk;rw[ahR (Ne.symm sS)]at lx;exact⟨lx,rfl,fun x n hn=>yk blk us _ c.w x (fun e=>sS (ho.inj k b blk n cap (by rw[<- e];exact hn) bN))⟩
theorem UX{β:Type}(us:List β)(o:Nat)(q:List β)(p:Nat):(dX q o us)[p]?=if o<=p/\p<o+us.length/\p<q.length then us[p-o]? else q[p]? := by
 induction us generalizing o q with
 |nil=>rw[if_neg (by simp;omega)];rfl
 |cons u us ih =>
  rw[dX,ih];by_cases hp:o=p
  ·subst hp;rw[if_neg oM];by_cases hq:o<q.length
   ·rw[if_pos (by simp;omega),ahQ hq];simp
   ·rw[if_neg oM,aht (by simp;omega),aht oM]
  ·by_cases hc:o+1<=p/\p<o+1+us.length/\p<q.length
   ·rw[if_pos (zD hc),if_pos (by simp;omega)];rw[show p-o=(p-(o+1))+1 by omega];simp
   ·rw[if_neg (zD hc),if_neg (by simp;omega),ahR hp]
theorem Mh{e:DV}(h:e.gd=true):e.cells=[e]:=by cases e<;>first|rfl|cases h
def G2(e:DV)(off:Nat)(ds:List DV)(e':DV):Prop:=e'.cells.length=e.cells.length/\off+ds.length<=e.cells.length /\
 ∀ (j:Nat) (x:DV),e'.cells[j]?=some x->(off<=j/\ds[j-off]?=some x)\/((j<off\/off+ds.length<=j)/\e.cells[j]?=some x)
theorem UY{e:DV}{off:Nat}{ds:List DV}{stop:Prop}{k:DV->Prop}(H:Dg e off ds stop k):stop\/∃ e',k e'/\G2 e off ds e':=by
 unfold Dg at H;split at H
 ·rename_i cs;split at H
  ·rename_i q;rw[Gg]at H;have hq:=ahA q;refine .inr ⟨.agg (dX cs off ds),H,by simp[DV.cells,Ao],hq,fun j x hx=>?_⟩;simp only[DV.cells]at hx;rw[UX]at hx;split at hx
   ·rename_i hc;exact .inl ⟨hc.1,hx⟩
   ·rename_i hc;refine .inr ⟨?_,hx⟩;have hj:=aW hx;omega
  ·exact .inl H
 ·rename_i qj;split at H
  ·rename_i d;split at H
   ·rename_i hd;have mN:e.cells=[e]:=by cases e<;>first|rfl|exact absurd rfl (qj _)
    refine .inr ⟨d,H,by rw[mN,Mh hd];rfl,by rw[mN];simp,fun j x hx => .inl ⟨ai4 _,by rw[Mh hd]at hx;simpa using hx⟩⟩
   ·exact .inl H
  ·exact .inl H
theorem UZ{e:DV}{off:Nat}{vs:List AV}{stop:Prop}{k:DV->Prop}(H:GV e off vs stop k):stop\/∃ (ds:List DV) (e':DV),vs=ds.map .d/\k e'/\G2 e off ds e':=by
 unfold GV at H;rcases Aj vs stop (fun ds=>Dg e off ds stop k)with⟨ds,h1,h2⟩|h2
 ·rw[h2]at H;rcases UY H with h|⟨e',h3,h4⟩
  ·exact .inl h
  ·exact .inr ⟨ds,e',h1,h3,h4⟩
 ·rw[h2]at H;exact .inl H
theorem U0(hE:E.OK){t:Nat}{x y:Operand}{ti:bA}(ca:E.T[t]?=some ti){b g i off:Nat}{ts:Nat × Nat}{l:List DV}(hb:h[b]?=some (.arr g ts l))(hx:bk E.G s x (.dv b g i off)){v:AV}(hy:bk E.G s y v){ds:List DV}(hv:Gq v (ds.map .d))(bP:ds.length=ti.size)(U1:(ds.map AV.d).all AV.gd=true)
  {e e':DV} (he:l[i]?=some e) (nx:e.cells.length=ts.2) (hp:G2 e off ds e'):bE E (.store t x y) s h (.d .undef) (h.set b (.arr g ts (l.set i e'))):=fun o c ac h1 h2 h3 h4=>by
 subst h2;obtain⟨blk,cap,q1,q2,q3⟩:=Md hb (hx c ac h3 h4);obtain⟨vs,us0,r1,r2,r3,r4,r5⟩:=h3.elem hb q1 he;obtain⟨us,v8,l8⟩:=hv c _ (hy c ac h3 h4);have hlen:us.length=ds.length:=by rw[<- l8.1];simp
 obtain⟨p1,p2,p3⟩:=hp;have bW:∀ u∈us,u.oneCell'=true:=fun u hu=>by
  obtain⟨j,hj,rfl⟩:=List.getElem_of_mem hu;have ra:j<(ds.map AV.d).length:=by rw[l8.1];exact hj
  exact Gp (l8.2 j _ us[j] (aiX ra) (by simp[hj])) (ahH.1 U1 _ (aix ra))
 have cL:=LF (P:=E.P) (w:=c.w) (b:=blk) (o:=i*ts.2+off) (hE.types t ti ca) v8 oM r1 oM bW
 obtain⟨w1,w2⟩:=h3.UW (i:=i) (off:=off) (e':=e') (us:=us) hb q1 r1 he oM oM bW (fun j x hx=>by
  rcases p3 j x hx with⟨k1,k2⟩|⟨k1,k2⟩
  ·have ai:=aW k2;exact .inl ⟨k1,us[j-off]' oM,by simp[show j-off<us.length by omega],l8.qY (j-off) x _ k2 (by simp[show j-off<us.length by omega])⟩
  ·exact .inr ⟨by omega,k2⟩)
 refine⟨_,Go.undef,.inr ⟨?_,rfl⟩,rfl,w1,.d _ _ .undef,w2⟩;simp only[execOp,h1,q2,ahq,cL,ahr,ahp]
theorem U2(hE:E.OK){o:Op}{stop:Prop}{k:AV->List ae->Prop}(H:sR E.T E.G o s h stop k):stop\/∃ v h',k v h'/\bE E o s h v h':=by
 unfold sR at H;split at H
 ·
  rcases bu H with h|⟨ti,ca,H⟩
  ·exact .inl h
  rcases cO H with h|⟨a,ha,H⟩
  ·exact .inl h
  rcases cO H with h|⟨b,hb,H⟩
  ·exact .inl h
  split at H
  ·split at H
   ·rename_i e hk;rcases bu H with h|⟨ei,b9,H⟩
    ·exact .inl h
    split at H
    ·split at H
     ·rename_i q;obtain⟨y,h0,h1,h2,H⟩:=GU H;exact .inr ⟨_,_,H,UO hE ca b9 hk ha hb (jO q) h0 h1 h2⟩
     ·exact .inl H
    ·rcases bu H with h|⟨bx,kb,H⟩
     ·exact .inl h
     split at H
     ·split at H
      ·rename_i q1 q2;have:=ahu q1;subst this;obtain⟨⟨h0,h1⟩,H⟩:=qk H;exact .inr ⟨_,_,H,UP hE ca b9 hk kb (ahu q2) ha hb h0 h1⟩
      ·exact .inl H
     ·exact .inl H
    ·exact .inl H
   ·rename_i len e hk;rcases bu H with h|⟨ei,b9,H⟩
    ·exact .inl h
    split at H
    ·obtain⟨y,h0,h1,h2,h3,h4,H⟩:=UM H;exact .inr ⟨_,_,H,UQ hE ca b9 hk ha hb h0 h1 h2 h3 h4⟩
    ·exact .inl H
   ·exact .inl H
  ·exact .inl H
 ·
  rcases bu H with h|⟨ti,ca,H⟩
  ·exact .inl h
  rcases cO H with h|⟨a,ha,H⟩
  ·exact .inl h
  rcases cO H with h|⟨b,hb,H⟩
  ·exact .inl h
  split at H
  ·split at H
   ·have hk:ti.k=.string:=by assumption
    obtain⟨y,h0,h1,H⟩:=UK H;exact .inr ⟨_,_,H,UR hE ca hk ha hb h0 h1⟩
   ·exact .inl H
  ·exact .inl H
 ·
  rcases bu H with h|⟨ti,ca,H⟩
  ·exact .inl h
  rcases cO H with h|⟨a,ha,H⟩
  ·exact .inl h
  rcases Me H with h|⟨l,hl,H⟩
  ·exact .inl h
  rcases Me H with h|⟨u,hu,H⟩
  ·exact .inl h
  split at H
  ·have hk:ti.k=.string:=by assumption
   obtain⟨⟨h0,h1,h2⟩,H⟩:=qk H;exact .inr ⟨_,_,H,UT hE ca hk ha hl hu h0 h1 h2⟩
  ·rcases bu H with h|⟨ei,b9,H⟩
   ·exact .inl h
   obtain⟨⟨h0,h1,h2,h3⟩,H⟩:=qk H;exact .inr ⟨_,_,H,UU hE ca b9 (by assumption) ha hl hu h0 h1 h2 h3⟩
  ·exact .inl H
 ·
  rcases bu H with h|⟨ti,ca,H⟩
  ·exact .inl h
  rcases cO H with h|⟨a,ha,H⟩
  ·exact .inl h
  split at H
  ·rcases bu H with h|⟨bx,kb,H⟩
   ·exact .inl h
   split at H
   ·split at H
    ·rename_i q;have:=ahu q;subst this;obtain⟨e,h0,h1,h2,H⟩:=GU H;rw[ai0]at h1;split at H
     ·rw[vV]at H;rcases Mg hE ca kb ha h1 rfl H with h|⟨v,H,hv⟩
      ·exact .inl h
      ·exact .inr ⟨_,_,H,hv⟩
     ·rename_i qj;rcases Mg hE ca kb ha h1 (by cases e<;>first|rfl|exact absurd rfl (qj _)) H with h|⟨v,H,hv⟩
      ·exact .inl h
      ·exact .inr ⟨_,_,H,hv⟩
    ·exact .inl H
   ·exact .inl H
  ·exact .inl H
 ·
  rcases bu H with h|⟨ti,ca,H⟩
  ·exact .inl h
  rcases cO H with h|⟨v,hv,H⟩
  ·exact .inl h
  rcases cO H with h|⟨a,ha,H⟩
  ·exact .inl h
  split at H
  ·rcases bu H with h|⟨bx,kb,H⟩
   ·exact .inl h
   split at H
   ·split at H
    ·rename_i q;have:=ahu q;subst this;rcases C1 H with h|⟨vs,fw,H⟩
     ·exact .inl h
     split at H
     ·rename_i q1 q2;obtain⟨e,h0,h1,h2,H⟩:=GU H;rw[ai0]at h1;rcases UZ H with h|⟨ds,e',rfl,H,hp⟩
      ·exact .inl h
      rw[jk]at H;exact .inr ⟨_,_,H,U0 hE ca kb ha hv fw (by have:=ahu q1;simpa using this) q2 h1 h2 hp⟩
     ·exact .inl H
    ·exact .inl H
   ·exact .inl H
  ·exact .inl H
 ·exact Mc hE H
end
end Go.az
end
section
namespace Go.az
open Go Go.RowKit
def Dh(op:BinOp)(j:IntKind)(a b:Int):Int :=
 let x:=BitVec.ofInt j.bits a
 let y:=BitVec.ofInt j.bits b
 match op with
 | .and=>j.wrap (x &&& y).toNat
 | .or=>j.wrap (x ||| y).toNat
 | .xor=>j.wrap (x ^^^ y).toNat
 |_=>j.wrap (x &&& ~~~y).toNat
def mT(op:BinOp)(j:IntKind)(a:Int)(n:Nat):Int:=match op with
 | .shl=>j.wrap (a*2 ^ min n j.bits)
 |_=>a.fdiv (2 ^ min n j.bits)
def Mi:BinOp->Bool
 | .and | .or | .xor | .andNot=>true
 |_=>false
def Mj:BinOp->Bool
 | .shl | .shr=>true
 |_=>false
def Mk:BinOp->Bool
 | .quo | .rem=>true
 |_=>false
def G3(op:BinOp)(j:IntKind)(a b:Int):Int:=match op with
 | .quo=>j.wrap (a.tdiv b)
 |_=>a.tmod b
def AM(d:Nat):List Nat->Bool
 |[]=>false
 |a::l=>match ahv a d with
  |true=>true
  |false=>AM d l
theorem AN{a b:Nat}(h:ahw a b=true):a<b:=ahA h
theorem Di{d:Nat}:∀ {l:List Nat},AM d l=true->d∈l
 |[],h=>by cases h
 |a::l,h=>by
  unfold AM at h;split at h
  ·rename_i q;rw[ahu q];exact aio ..
  ·exact aip _ (Di h)
section
variable {E:Env} {s:List AV} {h:List ae} {c:Cx} {G:List (Nat × DV)}
theorem U3{op:BinOp}(cH:Mi op=true){t t':TypeId}{x y:Operand}{j:IntKind}{a b:Int}(hx:bk E.G s x (.d (.int j a)))(hy:bk E.G s y (.d (.int j b))):bE E (.binOp op t x y t') s h (.d (.int j (Dh op j a b))) h :=
 .quiet fun o c ac h1 _ h3 h4=>by
  have e1:=eT (hx c ac h3 h4);have e2:=eT (hy c ac h3 h4);refine⟨.int j (Dh op j a b),sH h1 (by rw[e1,e2];exact yl ..) ?_,.d _ _ (.int _ _)⟩;rw[e1,e2];cases op<;>first|(simp only[binOp,ne_eq,not_true_eq_false,if_false,Op.intBits];rfl)|cases cH
theorem U4{op:BinOp}(cH:Mj op=true){t t':TypeId}{x y:Operand}{j j':IntKind}{a:Int}{b:Int}(hb:0<=b)(hx:bk E.G s x (.d (.int j a)))(hy:bk E.G s y (.d (.int j' b))):bE E (.binOp op t x y t') s h (.d (.int j (mT op j a b.toNat))) h :=
 .quiet fun o c ac h1 _ h3 h4=>by
  have e1:=eT (hx c ac h3 h4);have e2:=eT (hy c ac h3 h4);refine⟨.int j (mT op j a b.toNat),sH h1 (by rw[e1,e2];exact yl ..) ?_,.d _ _ (.int _ _)⟩;rw[e1,e2];have hn:¬ (b<0):=by omega
  cases op<;>first|(simp only[binOp,Op.shift,hn,if_false];rfl)|cases cH
def uD{α:Sort _}(kd:TK)(a b:DV)(stop:α)(k:Bool->α):α :=
 match kd,a,b with
 | .int _,.int j m,.int j' n=>match IntKind.same j j' with
  |true=>k (m==n)
  |false=>stop
 | .string,.str m,.str n=>k (m==n)
 | .bool,.bool m,.bool n=>k (m==n)
 |_,_,_=>stop
def pD{α:Sort _}(T:List bA):Nat->List (Nat × Nat)->List DV->List DV->(stop:α)->(Bool->α)->α
 |_,[],[],[],_,k=>k true
 |n,f::fs,a::l,b::m,stop,k=>match ahv f.1 n with
  |true=>bh T f.2 stop fun i=>uD i.k a b stop fun p=>pD T (n+1) fs l m stop fun q=>k (p&&q)
  |false=>stop
 |_,_,_,_,stop,_=>stop
theorem U5{kd:TK}{a b:DV}{stop:Prop}{k:Bool->Prop}(H:uD kd a b stop k):stop\/∃ p,k p:=by
 unfold uD at H;split at H
 ·split at H
  ·exact .inr ⟨_,H⟩
  ·exact .inl H
 ·exact .inr ⟨_,H⟩
 ·exact .inr ⟨_,H⟩
 ·exact .inl H
theorem Ml{T:List bA}{stop:Prop}:∀ {n:Nat} {fs:List (Nat × Nat)} {l m:List DV} {k:Bool->Prop},pD T n fs l m stop k->stop\/∃ p,k p
 |_,[],[],[],_,H => .inr ⟨_,H⟩
 |_,[],[],_::_,_,H => .inl H
 |_,[],_::_,_,_,H => .inl H
 |_,_::_,[],_,_,H => .inl H
 |_,_::_,_::_,[],_,H => .inl H
 |n,f::fs,a::l,b::m,k,H=>by
  simp only[pD]at H;split at H
  ·rcases bu H with H|⟨i,-,H⟩
   ·exact .inl H
   rcases U5 H with H|⟨p,H⟩
   ·exact .inl H
   rcases Ml H with H|⟨q,H⟩
   ·exact .inl H
   ·exact .inr ⟨_,H⟩
  ·exact .inl H
theorem U6{P:Program}{ft:Nat}{i:bA}(ht:fR P ft=some i){a b:DV}{stop:Prop}{k:Bool->Prop}(H:uD i.k a b stop k):stop\/∃ p,k p/\i.k.agg=false /\
  ∀ (bad:Nat->Prop) (w w':World) (u v:Value) (d:Nat),VD bad w a u->VD bad w b v->(Op.equalIn (d+1) ft u v).run P w'=.ok p w':=by
 obtain⟨ti,td,g1,g2,g3,-⟩:=cK ht;unfold uD at H;split at H
 ·rename_i hk;split at H
  ·rename_i hs;obtain rfl:=ur hs;refine .inr ⟨_,H,by rw[hk];rfl,fun bad w w' u v d hu hv=>?_⟩;cases hu;cases hv;obtain rfl:=ym (hk.symm.trans g3);exact run_equalIn_int w' d ft _ _ _ _ g2
  ·exact .inl H
 ·rename_i hk;refine .inr ⟨_,H,by rw[hk];rfl,fun bad w w' u v d hu hv=>?_⟩;cases hu;cases hv;obtain rfl:=uu (hk.symm.trans g3);rw[run_equalIn_string w' d ft _ _ g2];simp
 ·rename_i hk;refine .inr ⟨_,H,by rw[hk];rfl,fun bad w w' u v d hu hv=>?_⟩;cases hu;cases hv;have:td=.bool:=by rw[hk]at g3;cases td<;>first|rfl|cases g3
  subst this;exact run_equalIn_bool' w' _ ft _ _ g2
 ·exact .inl H
theorem Mm {P : Program} {T : List bA} (hT : ∀ (t : Nat) (i : bA), T[t]? = some i -> fR P t = some i) {stop : Prop} : ∀ {n : Nat} {fl : List Field} {l m : List DV} {k : Bool -> Prop}, pD T n (fl.map fun f => (f.offset, f.type)) l m stop k -> (∀ f ∈ fl, f.name ≠ "_") -> stop \/ ∃ p, k p /\
  ∀ (bad:Nat->Prop) (w w':World) (xs ys:List Value) (d:Nat),(∀ (j:Nat) (x:DV),l[j]?=some x->∃ u,xs[n+j]?=some u/\VD bad w x u)->(∀ (j:Nat) (x:DV),m[j]?=some x->∃ u,ys[n+j]?=some u/\VD bad w x u)->(Op.eqFields (d+1) xs.toArray ys.toArray fl).run P w'=.ok p w':=by
 intro n fl
 induction fl generalizing n with
 |nil =>
  intro l m k H _;cases l with
  |nil=>cases m with
   |nil=>exact .inr ⟨true,H,fun bad w w' xs ys d _ _=>by simp only[Op.eqFields,ahp]⟩
   |cons b m=>exact .inl H
  |cons a l=>exact .inl H
 |cons f fl ih =>
  intro l m k H hn;cases l with
  |nil=>exact .inl H
  |cons a l=>cases m with
   |nil=>exact .inl H
   |cons b m =>
    simp only[ahx,pD]at H;split at H
    ·rename_i q;have q:=ahu q;rcases bu H with H|⟨i,hi,H⟩
     ·exact .inl H
     rcases U6 (hT _ i hi) H with H|⟨p,H,gT,hp⟩
     ·exact .inl H
     rcases ih H (fun g hg=>hn g (aip _ hg))with H|⟨p',H,uq⟩
     ·exact .inl H
     refine .inr ⟨p&&p',H,fun bad w w' xs ys d hx hy=>?_⟩;obtain⟨u,u1,u2⟩:=hx 0 a rfl;obtain⟨v,v1,v2⟩:=hy 0 b rfl;rw[ah3]at u1 v1;have Dj:=hn f (aio ..);simp only[Op.eqFields,ne_eq,Dj,not_false_eq_true,if_true,ahq];rw[q,Ap (hT _ i hi) w' xs n u u1 gT,ahr,Ap (hT _ i hi) w' ys n v v1 gT,ahr,hp bad w w' u v d u2 v2,ahr];cases p with
     |false=>simp
     |true =>
      simp only[Bool.not_true,ah0,if_false,aja];exact uq bad w w' xs ys d (fun j x hj=>by rw[show n+1+j=n+(j+1) by omega];exact hx (j+1) x (zD hj)) (fun j x hj=>by rw[show n+1+j=n+(j+1) by omega];exact hy (j+1) x (zD hj))
    ·exact .inl H
theorem Mn(hE:E.OK){op:BinOp}{t:Nat}{t':TypeId}{x y:Operand}{i:bA}(hi:E.T[t]?=some i)(hQ:t∈E.Q){fs:List (Nat × Nat)}(hk:i.k=.struct fs){l m:List DV}(hx:bk E.G s x (.d (.agg l)))(hy:bk E.G s y (.d (.agg m))){stop:Prop}{k:Bool->Prop}(H:pD E.T 0 fs l m stop k) :
  stop\/∃ p,k p/\(op=.eql->∀ h,bE E (.binOp op t x y t') s h (.d (.bool p)) h)/\(op=.neq->∀ h,bE E (.binOp op t x y t') s h (.d (.bool !p)) h):=by
 obtain⟨ti,d,g1,g2,g3,-⟩:=cK (hE.types t i hi);obtain⟨fl,rfl,rfl⟩:=sJ (hk.symm.trans g3);have hq:=hE.eqs t hQ;simp only[CV,g2,ai2,ajb,ahH,bne_iff_ne,ne_eq]at hq;obtain⟨⟨q1,q2⟩,q3⟩:=hq;rcases Mm hE.types H q3 with h|⟨p,H,hp⟩
 ·exact .inl h
 have jq:E.P.fieldsOf t=fl:=by simp[Program.fieldsOf,g2]
 have val:∀ (c:Cx) (ac:Act),aO E.G c->VS c s ac.tmps->∃ xs ys:List Value,ac.eval x=.agg xs.toArray/\ac.eval y=.agg ys.toArray/\(Op.equalIn 10000 t (.agg xs.toArray) (.agg ys.toArray)).run E.P c.w=.ok p c.w:=by
  intro c ac h3 h4;have dY:=hx c ac h3 h4;have ia:=hy c ac h3 h4;generalize ac.eval x=u at dY;generalize ac.eval y=v at ia;cases dY with
  |d _ _ dY=>cases dY with
   |agg _ xs x1 x2=>cases ia with
    |d _ _ ia=>cases ia with
     |agg _ ys y1 y2 =>
      refine⟨xs.toList,ys.toList,by simp,by simp,?_⟩;rw[run_equalIn_struct c.w 9999 t _ _ (by rw[jq];exact g2) q1,jq];refine hp c.bad c.w c.w xs.toList ys.toList 9998 (fun j z hz=>?_) (fun j z hz=>?_)
      ·have hj:=aW hz;rw[x1]at hj;exact⟨xs[j],by simp[hj],x2 j z _ hz (by simp[hj])⟩
      ·have hj:=aW hz;rw[y1]at hj;exact⟨ys[j],by simp[hj],y2 j z _ hz (by simp[hj])⟩
 have guard:∀ (op:BinOp) (xs ys:Array Value) (w:World),(eqGuard op t x y (.agg xs) (.agg ys)).run E.P w=.ok () w:=fun op xs ys w=>run_eqGuard_agg w op t x y xs ys q2;refine .inr ⟨p,H,fun e h=>?_,fun e h=>?_⟩
 ·subst e;refine .quiet fun o c ac h1 _ h3 h4=>⟨.bool p,?_,.d _ _ (.bool _)⟩;obtain⟨xs,ys,e1,e2,e3⟩:=val c ac h3 h4;simp only[execOp,h1,e1,e2,ahq,guard,ahr,run_eql_struct,e3,ahp]
 ·subst e;refine .quiet fun o c ac h1 _ h3 h4=>⟨.bool !p,?_,.d _ _ (.bool _)⟩;obtain⟨xs,ys,e1,e2,e3⟩:=val c ac h3 h4;simp only[execOp,h1,e1,e2,ahq,guard,ahr,run_neq_struct,e3,ahp]
theorem U7(hE:E.OK){t0 t e:Nat}{x:Operand}{i0 i ei:bA}(mO:E.T[t0]?=some i0)(hi:E.T[t]?=some i)(b9:E.T[e]?=some ei)(hk:i.k=.slice e)(G4:ei.k=.int .u8){l:List UInt8}(hx:bk E.G s x (.d (.str l))) :
  bE E (.convert t0 t x) s h (.d (.sl (l.map me))) h:=fun o c ac h1 h2 h3 h4=>by
 obtain⟨C7,d0,k1,k2,-⟩:=cK (hE.types t0 i0 mO);obtain⟨ti,d,g1,g2,g3,-⟩:=cK (hE.types t i hi);obtain rfl:=mM (hk.symm.trans g3);obtain⟨tie,de,q1,q2,q3,-⟩:=cK (hE.types e ei b9);obtain rfl:=ym (G4.symm.trans q3);have ex:=qX (hx c ac h3 h4);have cL:=Lib.run_convert_string_bytes (P:=E.P) c.w t0 t e ⟨l.toArray⟩ k2 g2 q2;have U8:Proofs.YtlhehdgciafakaaGreatDoor.Ext c.w (Lib.bytesWorld c.w e ⟨l.toArray⟩):=⟨rfl,rfl,rfl,by rw[Lib.bytesWorld_size];omega,fun b hb=>Lib.bytesWorld_at_old c.w e _ b hb⟩;obtain⟨r1,r2⟩:=h3.grow U8;refine⟨c.fe (Lib.bytesWorld c.w e ⟨l.toArray⟩),_,.inl (by simp only[execOp,h1,ex,ahq,cL,ahr,ahp];rfl),h2,r1,.d _ _ ?_,r2⟩;have bP:(ByteArray.mk l.toArray).size=(l.map me).length:=by simp[ByteArray.size]
 rw[bP];have dQ:∀ (j:Nat) (b:UInt8),l[j]?=some b->(Lib.bytesWorld c.w e ⟨l.toArray⟩).cell? ⟨c.w.heap.size,0+(j*1+0),none⟩=some (.int .u8 b.toNat):=fun j b hb=>by
  have hj:=aW hb;rw[show 0+(j*1+0)=j by omega,Lib.bytesWorld_cell c.w e _ j (by simp[ByteArray.size];exact hj)];simp[ahU,hb]
 have key:∀ (i j:Nat) (a y:DV),(l.map me)[i]?=some a->a.cells[j]?=some y->∃ b,l[i]?=some b/\j=0/\y=.int .u8 b.toNat:=fun i j a y ha hy=>by
  rw[ahy]at ha;cases hb:l[i]? with
  |none=>rw[hb]at ha;cases ha
  |some b =>
   rw[hb]at ha;cases ha;simp only[me,DV.cells]at hy;cases j with
   |zero=>simp at hy;exact⟨b,rfl,rfl,hy.symm⟩
   |succ j=>simp at hy
 refine .sl _ c.w.heap.size 0 _ 1 (fun i _ => .int .u8 (l.getD i 0).toNat) (fun _ hb=>?_) oM ?_ (fun i a ha=>?_) (fun i j a y ha hy=>?_) (fun i j a y ha hy=>?_) (fun i j a y ha hy=>rfl)
 ·rcases hb with hb|⟨i,n,hi⟩
  ·have:=h3.bV _ hb;omega
  ·have:=(h3.bD i _ n hi).1;omega
 ·rw[List.length_map];have:=grownCap_ge c.w l.length 0 e
  simpa [ByteArray.size]using this
 ·rw[ahy]at ha;cases hb:l[i]? with
  |none=>rw[hb]at ha;cases ha
  |some b=>rw[hb]at ha;cases ha;rfl
 ·obtain⟨b,hb,rfl,rfl⟩:=key i j a y ha hy;refine(dQ i b hb).trans ?_;simp[ahU,hb]
 ·obtain⟨b,hb,rfl,rfl⟩:=key i j a y ha hy;simp only[ahU,hb,ah8];exact .int _ _
theorem U9{op:BinOp}(cH:Mk op=true){t t':TypeId}{x y:Operand}{j:IntKind}{a b:Int}(hb:b≠0)(hx:bk E.G s x (.d (.int j a)))(hy:bk E.G s y (.d (.int j b))):bE E (.binOp op t x y t') s h (.d (.int j (G3 op j a b))) h :=
 .quiet fun o c ac h1 _ h3 h4=>by
  have e1:=eT (hx c ac h3 h4);have e2:=eT (hy c ac h3 h4);refine⟨.int j (G3 op j a b),sH h1 (by rw[e1,e2];exact yl ..) ?_,.d _ _ (.int _ _)⟩;rw[e1,e2];cases op<;>first|(simp only[binOp,ne_eq,not_true_eq_false,if_false,Op.intDiv,hb];rfl)|cases cH
theorem U'{t t':TypeId}{x y:Operand}{a b:List UInt8}(hl:a.length+b.length<=9223372036854775807)(hx:bk E.G s x (.d (.str a)))(hy:bk E.G s y (.d (.str b))):bE E (.binOp .add t x y t') s h (.d (.str (a++b))) h :=
 .quiet fun o c ac h1 _ h3 h4=>by
  have e1:=qX (hx c ac h3 h4);have e2:=qX (hy c ac h3 h4);have e:(⟨a.toArray⟩:ByteArray)++⟨b.toArray⟩=⟨(a++b).toArray⟩:=by
   apply ByteArray.ext;simp
  refine⟨.string ⟨(a++b).toArray⟩,sH h1 (by rw[e1,e2];rfl) ?_,.d _ _ (.str _)⟩;rw[e1,e2];have hn:¬ (((ByteArray.mk a.toArray).size+(ByteArray.mk b.toArray).size:Nat):Int)>IntKind.i64.max:=by
   simp[ByteArray.size,IntKind.max,IntKind.bits,IntKind.signed];omega
  simp only[binOp,Op.stringOp,hn,if_false,e];rfl
def AO(E:Env)(o:Op)(s:List AV)(stop:Prop)(k:AV->Prop):Prop :=
 match o with
 | .binOp op t x y _=>bh E.T t stop fun i=>cG E.G s x stop fun a=>cG E.G s y stop fun b =>
  match a,b with
  | .d (.int j m),.d (.int j' n)=>match Mi op with
   |true=>match IntKind.same j j' with
    |true=>k (.d (.int j (Dh op j m n)))
    |false=>stop
   |false=>stop
  | .d (.agg l),.d (.agg m)=>match i.k,AM t E.Q with
   | .struct fs,true=>pD E.T 0 fs l m stop fun p=>match op with
    | .eql=>k (.d (.bool p))
    | .neq=>k (.d (.bool !p))
    |_=>stop
   |_,_=>stop
  |_,_=>stop
 | .convert t0 t x=>bh E.T t0 stop fun _=>bh E.T t stop fun i=>cG E.G s x stop fun v=>match i.k,v with
  | .slice e,.d (.str l)=>bh E.T e stop fun ei=>match ei.k with
   | .int .u8=>k (.d (.sl (l.map me)))
   |_=>stop
  |_,_=>stop
 |_=>stop
theorem Mo(hE:E.OK){o:Op}{stop:Prop}{k:AV->Prop}(H:AO E o s stop k):stop\/∃ v,k v/\∀ h,bE E o s h v h:=by
 unfold AO at H;split at H
 ·rename_i op t x y t';rcases bu H with h|⟨i,hi,H⟩
  ·exact .inl h
  rcases cO H with h|⟨a,ha,H⟩
  ·exact .inl h
  rcases cO H with h|⟨b,hb,H⟩
  ·exact .inl h
  split at H
  ·split at H
   ·rename_i q;split at H
    ·rename_i p;obtain rfl:=ur p;exact .inr ⟨_,H,fun h=>U3 q ha hb⟩
    ·exact .inl H
   ·exact .inl H
  ·split at H
   ·rename_i fs hk hq;by_cases he:op=.eql
    ·subst he;rcases Mn (op := .eql) (t':=t') (s:=s) hE hi (Di hq) hk ha hb H with h|⟨p,H,h1,-⟩
     ·exact .inl h
     ·exact .inr ⟨_,H,fun h=>h1 rfl h⟩
    ·by_cases jR:op=.neq
     ·subst jR;rcases Mn (op := .neq) (t':=t') (s:=s) hE hi (Di hq) hk ha hb H with h|⟨p,H,-,h1⟩
      ·exact .inl h
      ·exact .inr ⟨_,H,fun h=>h1 rfl h⟩
     ·refine .inl ?_;rcases Ml H with h|⟨p,h⟩
      ·exact h
      ·split at h
       ·exact absurd rfl he
       ·exact absurd rfl jR
       ·exact h
   ·exact .inl H
  ·exact .inl H
 ·rename_i t0 t x;rcases bu H with h|⟨i0,mO,H⟩
  ·exact .inl h
  rcases bu H with h|⟨i,hi,H⟩
  ·exact .inl h
  rcases cO H with h|⟨v,hv,H⟩
  ·exact .inl h
  split at H
  ·rename_i e l hk;rcases bu H with h|⟨ei,b9,H⟩
   ·exact .inl h
   split at H
   ·rename_i G4;exact .inr ⟨_,H,fun h=>U7 hE mO hi b9 hk G4 hv⟩
   ·exact .inl H
  ·exact .inl H
 ·exact .inl H
def G5(E:Env)(o:Op)(s:List AV)(stop:Prop)(k:AV->Prop):Prop :=
 match o with
 | .binOp op _ x y _=>cG E.G s x stop fun a=>cG E.G s y stop fun b =>
  match a,b with
  | .d (.int j m),.d (.int j' n)=>match Mj op with
   |true=>need (0<=n) (k (.d (.int j (mT op j m n.toNat))))
   |false=>match Mk op,IntKind.same j j' with
    |true,true=>need (n≠0) (k (.d (.int j (G3 op j m n))))
    |_,_=>stop
  | .d (.str l),.d (.str m)=>match op with
   | .add=>need (l.length+m.length<=9223372036854775807) (k (.d (.str (l++m))))
   |_=>stop
  |_,_=>stop
 |_=>stop
theorem Va{o:Op}{stop:Prop}{k:AV->Prop}(H:G5 E o s stop k):stop\/∃ v,k v/\∀ h,bE E o s h v h:=by
 unfold G5 at H;split at H
 ·rename_i op t x y t';rcases cO H with h|⟨a,ha,H⟩
  ·exact .inl h
  rcases cO H with h|⟨b,hb,H⟩
  ·exact .inl h
  split at H
  ·split at H
   ·rename_i q;obtain⟨h0,H⟩:=qk H;exact .inr ⟨_,H,fun h=>U4 q h0 ha hb⟩
   ·split at H
    ·rename_i q p;obtain rfl:=ur p;obtain⟨h0,H⟩:=qk H;exact .inr ⟨_,H,fun h=>U9 q h0 ha hb⟩
    ·exact .inl H
  ·split at H
   ·obtain⟨h0,H⟩:=qk H;exact .inr ⟨_,H,fun h=>U' h0 ha hb⟩
   ·exact .inl H
  ·exact .inl H
 ·exact .inl H
theorem Vb(hE:E.OK){t e len:Nat}{x i:Operand}{ti ei:bA}(ca:E.T[t]?=some ti)(b9:E.T[e]?=some ei)(hk:ti.k=.array len e){b off:Nat}{cs:List AV}(hb:h[b]?=some (.cells cs)){j:IntKind}{m:Nat}(hx:bk E.G s x (.ptr b off))(hi:bk E.G s i (.d (.int j (.ofNat m))))(h1:m<len) :
  bE E (.indexAddr t x i) s h (.ptr b (off+m*ei.size)) h := .quiet fun o c ac e1 e2 h3 h4=>by
 subst e2;obtain⟨nJ,d,g1,g2,g3,-⟩:=cK (hE.types t ti ca);obtain rfl:=yn (hk.symm.trans g3);have key:∀ p,VR c (.ptr b off) p->∃ blk,p=.pointer (some ⟨blk,off,none⟩)/\VR c (.ptr b (off+m*ei.size)) (.pointer (some ⟨blk,off+m*ei.size,none⟩)):=fun p hp=>by
  cases hp with
  |ptr _ _ cs' blk cap k1 k2=>exact⟨blk,rfl,.ptr _ _ cs' blk cap k1 k2⟩
  |jK _ _ _ k1 _=>rw[hb]at k1;cases k1
 obtain⟨blk,q1,q2⟩:=key _ (hx c ac h3 h4);refine⟨_,AK e1 ?_,q2⟩;rw[q1,eT (hi c ac h3 h4)];have h0:(0:Int)<=Int.ofNat m:=Int.natCast_nonneg m;have sU:Int.ofNat m<(len:Int):=zD h1
 simp only[Instr.indexAt,asIntOf,ahq,ahp,ahr,run_underlying g2,Instr.sureAddr,h0,sU,and_self,if_true,run_sizeOf (hE.types e ei b9),oy];rfl
theorem Vc(hE:E.OK){t e len:Nat}{x:Operand}{ti ei:bA}(ca:E.T[t]?=some ti)(b9:E.T[e]?=some ei)(hk:ti.k=.array len e)(db:0<len){b:Nat}{ds:List DV}(hb:h[b]?=some (.cells (ds.map .d)))(hlen:ds.length=len)(gJ:ds.all DV.gd=true)(hx:bk E.G s x (.ptr b 0)) :
  bE E (.slice t x none none none) s h (.d (.sl ds)) (h.set b .gone):=fun o c ac h1 h2 h3 h4=>by
 subst h2;obtain⟨nJ,d,g1,g2,g3,-⟩:=cK (hE.types t ti ca);obtain rfl:=yn (hk.symm.trans g3);have fE:=aW hb;have key:∀ p,VR c (.ptr b 0) p->∃ blk cap,p=.pointer (some ⟨blk,0,none⟩)/\c.own b=some (blk,cap):=fun p hp=>by
  cases hp with
  |ptr _ _ cs' blk cap k1 k2=>exact⟨blk,cap,rfl,k2⟩
  |jK _ _ _ k1 _=>rw[hb]at k1;cases k1
 obtain⟨blk,cap,q1,q2⟩:=key _ (hx c ac h3 h4);obtain⟨jL,iV,vs,ty,p1,p2,p3⟩:=h3.cells hb;rw[q2]at p1;cases p1
 let c':Cx:={ c with own:=fun i=>if i=b then none else c.own i,heap:=c.heap.set b .gone }
 have fT:c'.heap[b]?=some .gone:=by show(c.heap.set b .gone)[b]?=_;rw[ahQ fE]
 have ly:∀ i,i≠b->c'.heap[i]?=c.heap[i]? := fun i hi=>by show(c.heap.set b .gone)[i]?=_;rw[ahR (Ne.symm hi)]
 have bN:∀ i,i≠b->c'.own i=c.own i:=fun i hi=>by simp only[c',if_neg hi]
 have kO:∀ i p,c'.own i=some p->i≠b/\c.own i=some p:=fun i p hp=>by
  simp only[c']at hp;split at hp
  ·cases hp
  ·rename_i q;exact⟨q,hp⟩
 have bc:Step c c':=⟨rfl,h3.bV,rfl,rfl,rfl,ahL _,fun _ _ _=>rfl,fun i x n hi _=>⟨n,(kO i _ hi).2⟩,fun i bx hi=>by
  by_cases bL:i=b
  ·subst bL;cases bx with
   |cells cs=>exact .inr fT
   |arr g sz l=>exact .inr fT
   |map es=>exact .inr fT
   |gone=>exact fT
   |hole=>exact⟨_,fT⟩
  ·rw[<- ly i bL]at hi;cases bx with
   |cells cs=>exact .inl ⟨cs,hi,bN i bL,rfl⟩
   |arr g sz l=>exact .inl ⟨g,l,hi,.inr ⟨rfl,rfl,bN i bL⟩⟩
   |map es=>exact .inl ⟨es,hi,bN i bL⟩
   |gone=>exact hi
   |hole=>exact⟨_,hi⟩⟩
 have aV:aO E.G c':=by
  refine h3.next bc (fun i x n hi=>?_) (fun i j x n m hi hj=>h3.inj i j x n m (kO i _ hi).2 (kO j _ hj).2) (fun i bx hi=>?_)
  ·have:=h3.bD i x n (kO i _ hi).2;refine⟨this.1,?_⟩;show i<(c.heap.set b .gone).length;rw[aiv];exact this.2
  ·by_cases bL:i=b
   ·subst bL;rw[fT]at hi;cases hi;right;show c'.own i=none;simp[c']
   ·rw[ly i bL]at hi;exact .inl ⟨hi,bN i bL,fun _ _ _=>rfl⟩
 have bJ:∀ (j:Nat) (y:DV),ds[j]?=some y->∃ v,vs[j]?=some v/\v.oneCell'=true/\VD c.bad c.w y v:=fun j y hy=>by
  have hj:=aW hy;have hl:=p3.1;simp at hl;have hv:vs.toList[j]?=some vs[j]:=by simp
  have:=p3.2 j (.d y) _ (by simp[hy]) hv;cases this with
  |d _ _ hd=>exact⟨_,by simp,An hd (ahH.1 gJ y (aiQ hy)),hd⟩
 refine⟨c',.slice (some ⟨blk,0,none⟩) ds.length ds.length,.inl ?_,rfl,aV,.d _ _ ?_,bc⟩
 ·have ki:(Instr.sliceBounds false len len none none none).run E.P c.w=.ok (0,len,len) c.w:=rfl;have aL:¬ (len=0):=by omega
  simp only[execOp,h1,q1,Instr.sliceAt,ahq,ahp,ahr,run_underlying g2,Instr.sureAddr,ai1,ki,run_sizeOf (hE.types e ei b9),aL,if_false,aiG,oy,ai6,hlen];rfl
 ·have one:∀ (i j:Nat) (y z:DV),ds[i]?=some y->y.cells[j]?=some z->j=0/\z=y:=fun i j y z hy hz=>by
   have:=ahH.1 gJ y (aiQ hy);have hc:y.cells=[y]:=by cases y<;>first|rfl|cases this
   rw[hc]at hz;cases j with
   |zero=>simp at hz;exact⟨rfl,hz.symm⟩
   |succ j=>simp at hz
  refine .sl ds blk 0 ds.length 1 (fun i j=>(vs[i]?).getD undef) (fun _ fJ=>?_) oM (ahL _) (fun i y hy=>?_) (fun i j y z hy hz=>?_) (fun i j y z hy hz=>?_) (fun i j y z hy hz=>?_)
  ·rcases fJ with fJ|⟨i,n,hi⟩
   ·exact h3.sep b blk cap q2 fJ
   ·obtain⟨k1,k2⟩:=kO i _ hi;exact k1 (h3.inj i b blk n cap k2 q2)
  ·have:=ahH.1 gJ y (aiQ hy);cases y<;>first|rfl|cases this
  ·obtain⟨rfl,rfl⟩:=one i j y z hy hz;obtain⟨v,r1,r2,r3⟩:=bJ i z hy;rw[r1,ah8];have:=mL p2 i v (zD r1)
   simpa using this
  ·obtain⟨rfl,rfl⟩:=one i j y z hy hz;obtain⟨v,r1,r2,r3⟩:=bJ i z hy;simp only[r1,ah8];exact bc.vd r3
  ·obtain⟨rfl,rfl⟩:=one i j y z hy hz;obtain⟨v,r1,r2,r3⟩:=bJ i z hy;simp only[r1,ah8];exact r2
theorem Vd(hE:E.OK){t e:Nat}{ti ei:bA}(ca:E.T[t]?=some ti)(b9:E.T[e]?=some ei)(hk:ti.k=.slice e)(db:0<ei.size){parts:Array (Nat × Operand)}(hp:parts.toList=[]) :
  bE E (.buildSlice t 0 parts) s h (.own h.length 0) (h++[.arr 0 (e,ei.size) []]):=fun o c ac h1 h2 h3 h4=>by
 subst h2;obtain⟨nJ,d,g1,g2,g3,-⟩:=cK (hE.types t ti ca);obtain rfl:=mM (hk.symm.trans g3);obtain⟨k1,k2⟩:=h3.add (.arr 0 (e,ei.size) []) 0 (.cells #[] e);have bN:(c.add (.arr 0 (e,ei.size) []) 0 (.cells #[] e)).own c.heap.length=some (c.w.heap.size,0):=by simp[Cx.add]
 have oE:(c.add (.arr 0 (e,ei.size) []) 0 (.cells #[] e)).heap[c.heap.length]?=some (.arr 0 (e,ei.size) []):=by simp[Cx.add]
 refine⟨_,.slice (some ⟨c.w.heap.size,0,none⟩) 0 0,.inl ?_,rfl,k2 ⟨db,fun i e he=>by simp at he,.inr ⟨c.w.heap.size,0,#[],bN,heap_alloc_new _ _,by simp,by simp,by simp,fun i j e x he=>by simp at he⟩⟩,.own c.heap.length 0 (e,ei.size) [] c.w.heap.size 0 oE bN,k1⟩;have uq:parts = #[]:=by apply aiY;simpa using hp
 subst uq;have hn:¬ ((0:Nat)>2 ^ 24):=by decide
 simp only[execOp,h1,Instr.buildSlice,ahq,ahp,ahr,run_underlying g2,run_sizeOf (hE.types e ei b9),aiG,Array.map_empty,hn,if_false,if_true];simp[Instr.fill,newRow,show Array.range 0 = #[]from rfl];rfl
def AP(E:Env)(o:Op)(s:List AV)(h:List ae)(stop:Prop)(k:AV->List ae->Prop):Prop :=
 match o with
 | .indexAddr t x i=>bh E.T t stop fun ti=>match ti.k with
  | .array len e=>bh E.T e stop fun ei=>cG E.G s x stop fun
   | .ptr b off=>bh h b stop fun
    | .cells _=>cG E.G s i stop fun
     | .d (.int _ n)=>match n with
      | .ofNat m=>match ahw m len with
       |true=>k (.ptr b (off+m*ei.size)) h
       |false=>stop
      |_=>stop
     |_=>stop
    |_=>stop
   |_=>stop
  |_=>stop
 | .slice t x none none none=>bh E.T t stop fun ti=>match ti.k with
  | .array len e=>bh E.T e stop fun _=>match ahw 0 len with
   |true=>cG E.G s x stop fun
    | .ptr b 0=>bh h b stop fun
     | .cells cs=>sE cs stop fun ds=>match ahv ds.length len,ds.all DV.gd with
      |true,true=>iA h b .gone fun h'=>k (.d (.sl ds)) h'
      |_,_=>stop
     |_=>stop
    |_=>stop
   |_=>stop
  |_=>stop
 | .buildSlice t len parts=>match len with
  |0=>bh E.T t stop fun ti=>match ti.k with
   | .slice e=>bh E.T e stop fun ei=>match ahw 0 ei.size,parts.toList with
    |true,[]=>pq h (.arr 0 (e,ei.size) []) 0 fun h' n=>k (.own n 0) h'
    |_,_=>stop
   |_=>stop
  |_=>stop
 |_=>stop
theorem Mp(hE:E.OK){o:Op}{stop:Prop}{k:AV->List ae->Prop}(H:AP E o s h stop k):stop\/∃ v h',k v h'/\bE E o s h v h':=by
 unfold AP at H;split at H
 ·rename_i t x i;rcases bu H with h|⟨ti,ca,H⟩
  ·exact .inl h
  split at H
  ·rename_i len e hk;rcases bu H with h|⟨ei,b9,H⟩
   ·exact .inl h
   rcases cO H with h|⟨a,ha,H⟩
   ·exact .inl h
   split at H
   ·rename_i b off;rcases bu H with h|⟨bx,hb,H⟩
    ·exact .inl h
    split at H
    ·rcases cO H with h|⟨n,hn,H⟩
     ·exact .inl h
     split at H
     ·split at H
      ·split at H
       ·rename_i q;exact .inr ⟨_,_,H,Vb hE ca b9 hk hb ha hn (AN q)⟩
       ·exact .inl H
      ·exact .inl H
     ·exact .inl H
    ·exact .inl H
   ·exact .inl H
  ·exact .inl H
 ·rename_i t x;rcases bu H with h|⟨ti,ca,H⟩
  ·exact .inl h
  split at H
  ·rename_i len e hk;rcases bu H with h|⟨ei,b9,H⟩
   ·exact .inl h
   split at H
   ·rename_i q2;rcases cO H with h|⟨a,ha,H⟩
    ·exact .inl h
    split at H
    ·rename_i b;rcases bu H with h|⟨bx,hb,H⟩
     ·exact .inl h
     split at H
     ·rename_i cs
      rcases Aj cs stop (fun ds=>match ahv ds.length len,ds.all DV.gd with
       |true,true=>iA h b .gone fun h'=>k (.d (.sl ds)) h'
       |_,_=>stop)with⟨ds,e1,e2⟩|e2
      ·rw[e2]at H;split at H
       ·rename_i p1 p2;rw[jk]at H;subst e1;exact .inr ⟨_,_,H,Vc hE ca b9 hk (AN q2) hb (ahu p1) p2 ha⟩
       ·exact .inl H
      ·rw[e2]at H;exact .inl H
     ·exact .inl H
    ·exact .inl H
   ·exact .inl H
  ·exact .inl H
 ·rename_i t len parts;split at H
  ·rcases bu H with h|⟨ti,ca,H⟩
   ·exact .inl h
   split at H
   ·rename_i e hk;rcases bu H with h|⟨ei,b9,H⟩
    ·exact .inl h
    split at H
    ·rename_i q1 q2;rw[uo,ahB]at H;exact .inr ⟨_,_,H,Vd hE ca b9 hk (AN q1) q2⟩
    ·exact .inl H
   ·exact .inl H
  ·exact .inl H
 ·exact .inl H
def AQ(E:Env)(o:Op)(s:List AV)(h:List ae)(stop:Prop)(k:AV->List ae->Prop):Prop:=AO E o s (AP E o s h stop k) fun v=>k v h
theorem Mq(hE:E.OK){o:Op}{stop:Prop}{k:AV->List ae->Prop}(H:AQ E o s h stop k):stop\/∃ v h',k v h'/\bE E o s h v h':=by
 rcases Mo hE H with H|⟨v,H,ho⟩
 ·exact Mp hE H
 ·exact .inr ⟨v,h,H,ho h⟩
end
end Go.az
end
section
namespace Go.az
open Go Go.RowKit
def sV:DV->DV->Bool
 | .int j m,.int k n=>IntKind.same j k&&(m==n)
 | .str a,.str b=>a==b
 | .bool a,.bool b=>a==b
 |_,_=>false
def wz:List DV->List DV->Bool
 |[],[]=>true
 |a::l,b::m=>sV a b&&wz l m
 |_,_=>false
def fy:DV->DV->Bool
 | .agg l,.agg m=>wz l m
 |a,b=>sV a b
def fU(k:DV):List (DV × DV)->Option Nat
 |[]=>none
 |p::l=>if fy k p.1 then some 0 else(fU k l).map (· + 1)
def findD(k:DV):List (DV × DV)->Option DV
 |[]=>none
 |p::l=>if fy k p.1 then some p.2 else findD k l
def b8(k v:DV):List (DV × DV)->List (DV × DV)
 |[]=>[(k,v)]
 |p::l=>if fy k p.1 then(k,v)::l else p::b8 k v l
def pE:TK->DV->Prop
 | .int j,x=>∃ n,x=.int j n
 | .string,x=>∃ s,x=.str s
 | .bool,x=>∃ b,x=.bool b
 |_,_=>False
def wA(T:List bA):Nat->List (Nat × Nat)->List DV->Prop
 |_,[],[]=>True
 |n,f::fs,a::l=>f.1=n/\(∃ i,T[f.2]?=some i/\pE i.k a)/\wA T (n+1) fs l
 |_,_,_=>False
def eo(T:List bA)(k:TK)(x:DV):Prop:=match k with
 | .struct fs=>∃ l,x=.agg l/\wA T 0 fs l
 |k=>pE k x
def iH:DV->Value
 | .int j n => .int j n
 | .str s => .string ⟨s.toArray⟩
 | .bool b => .bool b
 | .agg l => .agg (l.map fun
  | .int j n => .int j n
  | .str s => .string ⟨s.toArray⟩
  | .bool b => .bool b
  |_=>undef).toArray
 |_=>undef
def yE:DV->Prop
 | .int _ _=>True
 | .str _=>True
 | .bool _=>True
 |_=>False
theorem pE.flat{k:TK}{x:DV}(h:pE k x):yE x:=by
 cases k<;>first|(obtain⟨_,rfl⟩:=h;trivial)|exact h.elim
theorem wA.flat{T:List bA}:∀ {n:Nat} {fs:List (Nat × Nat)} {l:List DV},wA T n fs l->∀ x∈l,yE x
 |_,[],[],_,x,hx=>by simp at hx
 |_,_::_,[],h,_,_=>h.elim
 |_,[],_::_,h,_,_=>h.elim
 |n,f::fs,a::l,h,x,hx=>by
  rcases ai3.1 hx with rfl|hx
  ·obtain⟨-,⟨i,-,h⟩,-⟩:=h;exact h.flat
  ·exact h.2.2.flat x hx
theorem Mr{bad:Nat->Prop}{w:World}{x:DV}{v:Value}(hf:yE x)(h:VD bad w x v):v=iH x:=by
 cases x<;>first|exact hf.elim|(cases h;rfl)
theorem eo.cases{T:List bA}{k:TK}{x:DV}(h:eo T k x):yE x\/∃ l,x=.agg l/\∀ y∈l,yE y:=by
 unfold eo at h;split at h
 ·obtain⟨l,rfl,h⟩:=h;exact .inr ⟨l,rfl,h.flat⟩
 ·exact .inl h.flat
theorem wB{T:List bA}{k:TK}{bad:Nat->Prop}{w:World}{x:DV}{v:Value}(hf:eo T k x)(h:VD bad w x v):v=iH x:=by
 rcases hf.cases with gU|⟨l,rfl,gU⟩
 ·exact Mr gU h
 ·cases h with
  |agg _ vs hl hv =>
   simp only[iH]
   congr 1
   apply Array.ext
   ·simpa using hl.symm
   ·intro j h1 h2;have hj:j<l.length:=by omega
    have e:=hv j l[j] vs[j] sP (by simp[h1]);have:=Mr (gU _ (aix hj)) e;rw[this];simp only[List.getElem_toArray,List.getElem_map];have pB:=gU _ (aix hj);generalize l[j]=y at pB;cases y<;>first|rfl|exact pB.elim
theorem G6(j:IntKind):IntKind.same j j=true:=by cases j<;>rfl
theorem Ms{a b:DV}(h:sV a b=true):a=b:=by
 unfold sV at h;split at h
 ·simp only[ai2,beq_iff_eq]at h;obtain rfl:=ur h.1;rw[h.2]
 ·simp at h;rw[h]
 ·simp at h;rw[h]
 ·cases h
theorem Mt:∀ {a b:List DV},wz a b=true->a=b
 |[],[],_=>rfl
 |[],_::_,h=>by cases h
 |_::_,[],h=>by cases h
 |x::a,y::b,h=>by
  simp only[wz,ai2]at h;rw[Ms h.1,Mt h.2]
theorem Mu{a b:DV}(h:fy a b=true):a=b:=by
 unfold fy at h;split at h
 ·rw[Mt h]
 ·exact Ms h
theorem G7(a b:List UInt8):((⟨a.toArray⟩:ByteArray)==⟨b.toArray⟩)=(a==b):=by
 show(a.toArray==b.toArray)=_;simp
theorem G8{α:Type}:∀ {l:List α} {p:α × α},p∈l.zip l->p.1=p.2/\p.1∈l
 |[],p,h=>by simp at h
 |a::l,p,h=>by
  rcases ai3.1 h with rfl|h
  ·exact⟨rfl,aio ..⟩
  ·exact⟨(G8 h).1,aip _ (G8 h).2⟩
theorem Ve(n:Nat){x:DV}(h:yE x):Instr.sameBits n (iH x) (iH x)=true:=by
 cases x<;>first|exact h.elim|(cases n<;>simp[iH,Instr.sameBits,G7])
theorem Mv{T:List bA}{k:TK}{x:DV}(h:eo T k x):Instr.sameBits 10000 (iH x) (iH x)=true:=by
 rcases h.cases with h1|⟨l,rfl,h1⟩
 ·exact Ve _ h1
 ·show Instr.sameBits (9999+1) _ _=true;simp only[iH,Instr.sameBits,beq_self_eq_true,aja,ahH];intro p hp;obtain⟨e1,e2⟩:=G8 hp;obtain⟨p1,p2⟩:=p;simp only at e1 e2;subst e1;obtain⟨y,hy,rfl⟩:=ahY.1 e2;have:=h1 y hy;cases y<;>first|exact this.elim|simp[Instr.sameBits,G7]
def AR(bad:Nat->Prop)(w:World)(es:List (DV × DV))(en:List MapEntry):Prop:=en.length=es.length/\∀ (j:Nat) (k x:DV) (m:MapEntry),es[j]?=some (k,x)->en[j]?=some m->VD bad w k m.key/\VD bad w x m.val
theorem AR.cons{bad:Nat->Prop}{w:World}{p:DV × DV}{m:MapEntry}{es:List (DV × DV)}{en:List MapEntry}(h:AR bad w (p::es) (m::en)):VD bad w p.1 m.key/\VD bad w p.2 m.val/\AR bad w es en:=by
 obtain⟨h1,h2⟩:=h;have:=h2 0 p.1 p.2 m rfl rfl;exact⟨this.1,this.2,zD h1,fun j k x m' hk hm=>h2 (j+1) k x m' (zD hk) (zD hm)⟩
theorem Dk{k:DV}:∀ {es:List (DV × DV)} {j:Nat},fU k es=some j->∃ p,es[j]?=some p/\fy k p.1=true/\findD k es=some p.2
 |[],_,h=>by cases h
 |p::es,j,h=>by
  unfold fU at h;split at h
  ·rename_i q;cases h;exact⟨p,rfl,q,by simp[findD,q]⟩
  ·rename_i q;cases hf:fU k es with
   |none=>rw[hf]at h;cases h
   |some i =>
    rw[hf]at h;cases h;obtain⟨p',h1,h2,h3⟩:=Dk hf;exact⟨p',zD h1,h2,by simp[findD,q,h3]⟩
theorem G9{k:DV}:∀ {es:List (DV × DV)},fU k es=none->findD k es=none
 |[],_=>rfl
 |p::es,h=>by
  unfold fU at h;split at h
  ·cases h
  ·rename_i q;cases hf:fU k es with
   |none=>simp[findD,q,G9 hf]
   |some i=>rw[hf]at h;cases h
theorem AS{k v:DV}:∀ {es:List (DV × DV)} {j:Nat},fU k es=some j->b8 k v es=es.set j (k,v)
 |[],_,h=>by cases h
 |p::es,j,h=>by
  unfold fU at h;split at h
  ·rename_i q;cases h;simp[b8,q]
  ·rename_i q;cases hf:fU k es with
   |none=>rw[hf]at h;cases h
   |some i =>
    rw[hf]at h;cases h;simp[b8,q,AS hf]
theorem AT{k v:DV}:∀ {es:List (DV × DV)},fU k es=none->b8 k v es=es++[(k,v)]
 |[],_=>rfl
 |p::es,h=>by
  unfold fU at h;split at h
  ·cases h
  ·rename_i q;cases hf:fU k es with
   |none=>simp[b8,q,AT hf]
   |some i=>rw[hf]at h;cases h
theorem sW{P:Program}{w:World}{r:Nat}{es:Array MapEntry}{clock:Nat}(hb:w.heap[r]?=some (.map es clock)):(getObj r).run P w=.ok (.map es clock) w:=by
 simp[getObj,Sem.run,hb]
theorem AU{P:Program}{w:World}{r:Nat}{es:Array MapEntry}{clock:Nat}(o:Obj)(hb:w.heap[r]?=some (.map es clock)):(setObj r o).run P w=.ok () { w with heap:=w.heap.setIfInBounds r o }:=by
 simp[setObj,Sem.run,hb]
theorem Vf{P:Program}{w:World}{kt:TypeId}{d:TypeDesc}{k:Value}{l:List MapEntry}{a:Option (Nat × Value)}(hd:P.underlying kt=some d)(h:Instr.findNow d k l 0=some a):(Instr.findKey kt k l).run P w=.ok a w:=by
 simp[Instr.findKey,run_underlying hd,ajc,h]
section
variable {E:Env}
def G':TK->Prop
 | .int _=>True
 | .string=>True
 | .bool=>True
 |_=>False
inductive uE (E:Env) (t:Nat):TK->Prop
 |plain (i:bA) (hi:E.T[t]?=some i) (h:G' i.k):uE E t i.k
 |struct (i:bA) (hi:E.T[t]?=some i) (fs:List (Nat × Nat)) (hk:i.k=.struct fs) (hq:t∈E.Q):uE E t (.struct fs)
theorem Mw{T:List bA}:∀ {n:Nat} {fs:List (Nat × Nat)} {l m:List DV},wA T n fs l->wA T n fs m->pD T n fs l m False (· = wz l m)
 |_,[],[],[],_,_=>rfl
 |_,_::_,[],_,h,_=>h.elim
 |_,[],_::_,_,h,_=>h.elim
 |_,_::_,_::_,[],_,h=>h.elim
 |_,[],[],_::_,_,h=>h.elim
 |n,f::fs,a::l,b::m,h,h'=>by
  obtain⟨e1,⟨i,hi,ha⟩,hl⟩:=h;obtain⟨-,⟨i',cu,hb⟩,hm⟩:=h';rw[hi]at cu;cases cu;simp only[pD];have:ahv f.1 n=true:=by rw[e1];exact ai7 n
  rw[this];simp only;rw[CW hi];have key:∀ (K:Bool->Prop),K (sV a b)->uD i.k a b False K:=fun K hK=>by
   unfold pE at ha hb;split at ha
   ·rename_i j hk;obtain⟨x,rfl⟩:=ha;rw[hk]at hb ⊢;obtain⟨y,rfl⟩:=hb;simp only[uD,G6]
    simpa [sV,G6]using hK
   ·rename_i hk;obtain⟨x,rfl⟩:=ha;rw[hk]at hb ⊢;obtain⟨y,rfl⟩:=hb;exact hK
   ·rename_i hk;obtain⟨x,rfl⟩:=ha;rw[hk]at hb ⊢;obtain⟨y,rfl⟩:=hb;exact hK
   ·exact ha.elim
  refine key _ ?_;have ih:=Mw hl hm;have mono:∀ {n:Nat} {fs:List (Nat × Nat)} {l m:List DV} {K K':Bool->Prop},(∀ p,K p->K' p)->pD T n fs l m False K->pD T n fs l m False K':=by
   intro n fs
   induction fs generalizing n with
   |nil=>intro l m K K' hk H;cases l<;>cases m<;>first|exact hk _ H|exact H
   |cons f fs Ha =>
    intro l m K K' hk H;cases l with
    |nil=>exact H
    |cons a l=>cases m with
     |nil=>exact H
     |cons b m =>
      simp only[pD]at H ⊢;split at H
      ·rcases bu H with H|⟨i,hi,H⟩
       ·exact H.elim
       rw[CW hi];unfold uD at H ⊢;split at H
       ·split at H
        ·exact Ha (fun p hp=>hk _ hp) H
        ·exact H
       ·exact Ha (fun p hp=>hk _ hp) H
       ·exact Ha (fun p hp=>hk _ hp) H
       ·exact H
      ·exact H
  refine mono (fun p hp=>?_) ih;rw[hp,wz]
theorem Vg(hE:E.OK){t:Nat}{i:bA}(hi:E.T[t]?=some i){fs:List (Nat × Nat)}(hk:i.k=.struct fs)(hq:t∈E.Q){x y:DV}(hx:eo E.T (.struct fs) x)(hy:eo E.T (.struct fs) y){bad:Nat->Prop}{w:World}{u v:Value}(hu:VD bad w x u)(hv:VD bad w y v) :
  (Op.equal t u v).run E.P w=.ok (fy x y) w:=by
 obtain⟨l,rfl,hl⟩:=hx;obtain⟨m,rfl,hm⟩:=hy;obtain⟨ti,d,g1,g2,g3,-⟩:=cK (hE.types t i hi);obtain⟨fl,rfl,rfl⟩:=sJ (hk.symm.trans g3);have yF:=hE.eqs t hq;simp only[CV,g2,ai2,ajb,ahH,bne_iff_ne,ne_eq]at yF;obtain⟨⟨q1,q2⟩,q3⟩:=yF;rcases Mm hE.types (Mw hl hm) q3 with h|⟨p,rfl,hp⟩
 ·exact h.elim
 have jq:E.P.fieldsOf t=fl:=by simp[Program.fieldsOf,g2]
 cases hu with
 |agg _ xs x1 x2=>cases hv with
  |agg _ ys y1 y2 =>
   show(Op.equalIn (9999+1) t _ _).run E.P w=_;rw[run_equalIn_struct w 9999 t _ _ (by rw[jq];exact g2) q1,jq];have:=hp bad w w xs.toList ys.toList 9998 (fun j z hz=>?_) (fun j z hz=>?_)
   ·simpa [fy]using this
   ·have hj:=aW hz;rw[x1]at hj;exact⟨xs[j],by simp[hj],x2 j z _ hz (by simp[hj])⟩
   ·have hj:=aW hz;rw[y1]at hj;exact⟨ys[j],by simp[hj],y2 j z _ hz (by simp[hj])⟩
theorem Vh{td:TypeDesc}{k:TK}(hk:k=tk td)(hp:G' k){x y:DV}(hx:pE k x)(hy:pE k y):Instr.sameNow td (iH x) (iH y)=some (fy x y):=by
 subst hk;cases td<;>simp only[tk,G']at hp hx hy
 ·obtain⟨a,rfl⟩:=hx;obtain⟨b,rfl⟩:=hy;rfl
 ·obtain⟨a,rfl⟩:=hx;obtain⟨b,rfl⟩:=hy;simp[Instr.sameNow,iH,fy,sV,G6]
 ·obtain⟨a,rfl⟩:=hx;obtain⟨b,rfl⟩:=hy;simp[Instr.sameNow,iH,fy,sV,G7]
def mU(k:DV)(es:List (DV × DV))(en:List MapEntry)(i:Nat):Option (Nat × Value):=(fU k es).bind fun j=>(en[j]?).map fun m=>(i+j,m.val)
theorem Mx{k:DV}{p:DV × DV}{m:MapEntry}{es:List (DV × DV)}{en:List MapEntry}{i:Nat}:mU k (p::es) (m::en) i=if fy k p.1 then some (i,m.val)else mU k es en (i+1):=by
 simp only[mU,fU];split
 ·simp
 ·cases fU k es with
  |none=>rfl
  |some j =>
   simp;cases en[j]? with
   |none=>rfl
   |some m=>simp;omega
theorem Hb(hE:E.OK){t:Nat}{k:TK}(hT:uE E t k){x:DV}(hx:eo E.T k x){bad:Nat->Prop}{w:World}{u:Value}(hu:VD bad w x u){es:List (DV × DV)}{en:List MapEntry}(nx:∀ p∈es,eo E.T k p.1)(yG:AR bad w es en) :
  (Instr.findKey t u en).run E.P w=.ok (mU x es en 0) w:=by
 cases hT with
 |plain i hi h =>
  obtain⟨ti,d,g1,g2,g3,-⟩:=cK (hE.types t i hi);refine Vf g2 ?_;have hF:∀ y,eo E.T i.k y->pE i.k y:=fun y hy=>by
   unfold eo at hy;split at hy
   ·rename_i q;rw[q]at h;exact h.elim
   ·exact hy
  obtain rfl:=wB hx hu;generalize 0=n
  induction es generalizing en n with
  |nil =>
   obtain rfl:en=[]:=ahM (zD yG.1);rfl
  |cons p es ih=>cases en with
   |nil=>have:=yG.1;simp at this
   |cons m en =>
    obtain⟨h1,h2,h3⟩:=yG.cons;have hp:=nx p (aio ..);have e1:=wB hp h1;rw[Mx,Instr.findNow,e1,Vh g3 h (hF _ hx) (hF _ hp)];cases fy x p.1 with
    |true=>rfl
    |false =>
     have ha:∀ q∈es,eo E.T i.k q.1:=fun q hq=>nx q (aip _ hq);first|exact ih ha h3 (n+1)|exact ih h3 ha (n+1)|exact ih h3 (n+1) ha
 |struct i hi fs hk hq =>
  obtain⟨ti,d,g1,g2,g3,-⟩:=cK (hE.types t i hi);obtain⟨fl,rfl,-⟩:=sJ (hk.symm.trans g3);rw[run_findKey_eq w (by rw[g2]) u en];generalize 0=n
  induction es generalizing en n with
  |nil =>
   obtain rfl:en=[]:=ahM (zD yG.1);simp[Instr.findAsking,mU,fU]
  |cons p es ih=>cases en with
   |nil=>have:=yG.1;simp at this
   |cons m en =>
    obtain⟨h1,h2,h3⟩:=yG.cons;have hp:=nx p (aio ..);rw[Mx];simp only[Instr.findAsking,ahq,Vg hE hi hk hq hx hp hu h1,ahr];cases fy x p.1 with
    |true=>simp
    |false =>
     simp only[ah0,if_false];have ha:∀ q∈es,eo E.T (.struct _) q.1:=fun q hq=>nx q (aip _ hq);first|exact ih ha h3 (n+1)|exact ih h3 ha (n+1)|exact ih h3 (n+1) ha
theorem Hc(hE:E.OK){t:Nat}{k:TK}(hT:uE E t k){x:DV}(hx:eo E.T k x){bad:Nat->Prop}{w:World}{u:Value}(hu:VD bad w x u)(em:Bool):(Instr.checkKey em 10000 t u).run E.P w=.ok () w:=by
 have one:∀ (n:Nat) (t:Nat) (i:bA) (hi:E.T[t]?=some i) (y:DV),pE i.k y->(Instr.checkKey em (n+1) t (iH y)).run E.P w=.ok () w:=fun n t i hi y hy=>by
  obtain⟨ti,d,g1,g2,g3,-⟩:=cK (hE.types t i hi);unfold Instr.checkKey;simp only[ahq,run_underlying g2,ajc];unfold pE at hy;split at hy
  ·rename_i q;obtain⟨a,rfl⟩:=hy;obtain rfl:=ym (q.symm.trans g3);simp[iH]
  ·rename_i q;obtain⟨a,rfl⟩:=hy;obtain rfl:=uu (q.symm.trans g3);simp[iH]
  ·rename_i q;obtain⟨a,rfl⟩:=hy;have:d=.bool:=by rw[q]at g3;cases d<;>first|rfl|cases g3
   subst this;simp[iH]
  ·exact hy.elim
 obtain rfl:=wB hx hu;cases hT with
 |plain i hi h =>
  have hF:pE i.k x:=by
   unfold eo at hx;split at hx
   ·rename_i q;rw[q]at h;exact h.elim
   ·exact hx
  exact one 9999 t i hi x hF
 |struct i hi fs hk hq =>
  obtain⟨ti,d,g1,g2,g3,-⟩:=cK (hE.types t i hi);obtain⟨fl,rfl,rfl⟩:=sJ (hk.symm.trans g3);obtain⟨l,rfl,hl⟩:=hx;show(Instr.checkKey em (9999+1) t _).run E.P w=_;rw[Instr.checkKey];simp only[ahq,run_underlying g2,ahr,iH];rw[<- Array.forIn_toList]
  generalize eE:(l.map fun
   | .int j n=>Value.int j n
   | .str s => .string ⟨s.toArray⟩
   | .bool b => .bool b
   |_=>undef)=cs
  have bJ:∀ (j:Nat) (y:DV),l[j]?=some y->cs[0+j]?=some (iH y):=fun j y hy=>by
   rw[<- eE];have:=hl.flat y (aiQ hy);simp[hy];cases y<;>first|rfl|exact this.elim
  clear eE;have go:∀ (fl:List Field) (n:Nat) (l:List DV),wA E.T n (fl.map fun f=>(f.offset,f.type)) l->(∀ (j:Nat) (y:DV),l[j]?=some y->cs[n+j]?=some (iH y)) ->
    (forIn fl PUnit.unit fun f _ =>
     if f.name ≠ "_" then do
      let d <- part f.type cs.toArray f.offset
      Instr.checkKey em 9999 f.type d
      pure (ForInStep.yield PUnit.unit)
     else pure (ForInStep.yield PUnit.unit):Sem PUnit).run E.P w=.ok PUnit.unit w:=by
   intro fl
   induction fl with
   |nil=>intro n l _ _;simp
   |cons f fl ih =>
    intro n l h hv;cases l with
    |nil=>exact h.elim
    |cons a l =>
     obtain⟨e1,⟨fi,lq,ql⟩,hr⟩:=h;simp only at e1 lq;have gT:fi.k.agg=false:=by
      unfold pE at ql;split at ql<;>first|(rename_i q;rw[q];rfl)|exact ql.elim
     have h0 := hv 0 a rfl;rw [ah3] at h0;have hp := Ap (hE.types _ fi lq) w cs n (iH a) h0 gT;have wC := ih (n + 1) l hr (fun j y hy => by rw [show n + 1 + j = n + (j + 1) by omega]; exact hv (j + 1) y (zD hy));simp only [List.forIn_cons, ahq];by_cases Dj : f.name = "_"
     ·simp only[Dj,ne_eq,not_true_eq_false,if_false,ahq,ahp,ahr];exact wC
     ·simp only[Dj,ne_eq,not_false_eq_true,if_true,ahq,e1,hp,ahr,one 9998 f.type fi lq a ql,ahp];exact wC
  have:=go fl.toList 0 l hl bJ;rw[this];rfl
end
section
variable {E:Env} {s:List AV} {h:List ae} {c:Cx} {G:List (Nat × DV)}
theorem Vi{t:Nat}:bE E (.makeMap t none) s h (.map h.length) (h++[.map []]):=fun o c ac h1 h2 h3 h4=>by
 subst h2;obtain⟨k1,k2⟩:=h3.add (.map []) 0 (.map #[] 0);have bN:(c.add (.map []) 0 (.map #[] 0)).own c.heap.length=some (c.w.heap.size,0):=by simp[Cx.add]
 have oE:(c.add (.map []) 0 (.map #[] 0)).heap[c.heap.length]?=some (.map []):=by simp[Cx.add]
 refine⟨_,.map (some c.w.heap.size),.inl ?_,rfl,k2 ⟨c.w.heap.size,0,#[],0,bN,heap_alloc_new _ _,⟨rfl,by simp,by simp,by simp,rfl⟩,fun j k x m hj=>by simp at hj⟩,.map c.heap.length [] c.w.heap.size 0 oE bN,k1⟩;simp only[execOp,h1,ai1,Instr.makeMap];rfl
theorem Vj{b:Nat}{es:List (DV × DV)}(hb:c.heap[b]?=some (.map es)){v:Value}(hv:VR c (.map b) v):∃ blk cap,v=.map (some blk)/\c.own b=some (blk,cap):=by
 cases hv with
 |map _ ev blk cap k1 k2=>exact⟨blk,cap,rfl,k2⟩
 |pn _ _ k1 _=>rw[hb]at k1;cases k1
theorem yH(h3:aO G c){b:Nat}{es:List (DV × DV)}(hb:c.heap[b]?=some (.map es)){v:Value}(hv:VR c (.map b) v):∃ (blk cap:Nat) (en:Array MapEntry) (ck:Nat),v=.map (some blk)/\c.own b=some (blk,cap)/\c.w.heap[blk]?=some (.map en ck)/\pr en ck es.length/\AR c.bad c.w es en.toList:=by
 obtain⟨blk,cap,rfl,ho⟩:=Vj hb hv;obtain⟨jL,iV,en,ck,p1,p2,p3,p4⟩:=h3.box b _ hb;rw[ho]at p1;cases p1;exact⟨blk,cap,en,ck,rfl,ho,p2,p3,zD p3.size,fun j k x m hk hm=>p4 j k x m hk (zD hm)⟩
@[irreducible] def AX (E : Env) (e : Nat) (kd : TK) (x : DV) (es : List (DV × DV)) (K : DV -> Bool -> Prop) : Prop :=
 ∃ (z:DV) (zv:Value),eo E.T kd x/\(∀ p∈es,eo E.T kd p.1)/\(∀ w,(zeroValue e).run E.P w=.ok zv w)/\(∀ bad w,VD bad w z zv)/\K ((findD x es).getD z) (findD x es).isSome
theorem qm{E:Env}{e:Nat}{kd:TK}{x:DV}{es:List (DV × DV)}{K:DV->Bool->Prop}(z:DV)(zv:Value){v:DV}{f:Bool}(h1:eo E.T kd x)(h2:∀ p∈es,eo E.T kd p.1)(h3:∀ w,(zeroValue e).run E.P w=.ok zv w)(h4:∀ bad w,VD bad w z zv)
  (e1:(findD x es).getD z=v) (e2:(findD x es).isSome=f) (k:K v f):AX E e kd x es K:=by
 unfold AX;exact⟨z,zv,h1,h2,h3,h4,by rw[e1,e2];exact k⟩
theorem Vk{E:Env}{e:Nat}{kd:TK}{x:DV}{es:List (DV × DV)}{K:DV->Bool->Prop}(h:AX E e kd x es K) :
  ∃ (z:DV) (zv:Value),eo E.T kd x/\(∀ p∈es,eo E.T kd p.1)/\(∀ w,(zeroValue e).run E.P w=.ok zv w)/\(∀ bad w,VD bad w z zv)/\K ((findD x es).getD z) (findD x es).isSome:=by unfold AX at h;exact h
theorem Vl(hE:E.OK){t kt e:Nat}{m ko:Operand}{ti:bA}(ca:E.T[t]?=some ti)(hk:ti.k=.map kt e){kd:TK}(hT:uE E kt kd){b:Nat}{es:List (DV × DV)}(hb:h[b]?=some (.map es))(hm:bk E.G s m (.map b)){x:DV}(hx:bk E.G s ko (.d x))
  (h1:eo E.T kd x) (h2:∀ p∈es,eo E.T kd p.1) {z:DV} {zv:Value} (hz:∀ w,(zeroValue e).run E.P w=.ok zv w) (Vm:∀ bad w,VD bad w z zv) (ok:Bool) :
  bE E (.lookup t m ko ok) s h (match ok with|true => .d (.aG [(findD x es).getD z,.bool (findD x es).isSome])|false => .d ((findD x es).getD z)) h := .quiet fun o c ac e1 e2 h3 h4=>by
 subst e2;obtain⟨nJ,d,g1,g2,g3,-⟩:=cK (hE.types t ti ca);have hd:d=.map kt e:=by rw[hk]at g3;cases d<;>first|(cases g3;rfl)|cases g3
 subst hd;obtain⟨blk,cap,en,ck,q1,q2,q3,qe,q4⟩:=yH h3 hb (hm c ac h3 h4);have cV:=hx c ac h3 h4;generalize hu:ac.eval ko=u at cV;cases cV with
 |d _ _ cV =>
  have r1:=Hc hE hT h1 cV en.isEmpty;have r2:=Hb hE hT h1 cV h2 q4
  have hv:∃ (v:Value) (f:Bool),f=(findD x es).isSome/\VD c.bad c.w ((findD x es).getD z) v/\((match mU x es en.toList 0 with
    |some (_,v)=>pure (v,true)
    |none=>do pure (<- zeroValue e,false):Sem (Value × Bool))).run E.P c.w=.ok (v,f) c.w:=by
   cases hf:fU x es with
   |none =>
    rw[G9 hf];refine⟨zv,false,rfl,Vm _ _,?_⟩;simp[mU,hf,hz]
   |some j =>
    obtain⟨p,p1,p2,p3⟩:=Dk hf;rw[p3];have hj:j<en.toList.length:=by rw[q4.1];exact aW p1
    refine⟨en.toList[j].val,true,rfl,(q4.2 j p.1 p.2 _ p1 sP).2,?_⟩;have:en.toList[j]?=some en.toList[j]:=by simp
    simp only[mU,hf,aiy,this,air];rfl
  obtain⟨v,f,rfl,fH,cL⟩:=hv;have main:(Instr.lookup t (.map (some blk)) u ok).run E.P c.w=.ok (if ok then .tuple #[v,.bool (findD x es).isSome]else v) c.w:=by
   simp only[Instr.lookup,ahq,run_underlying g2,ahr,sW q3,ahp,r1,r2];have:=cL;cases My:mU x es en.toList 0 with
   |none =>
    rw[My]at this;simp only[ahq,ahp]at this ⊢;rw[hz]at this ⊢;simp only[ahr,Result.ok.injEq,Prod.mk.injEq]at this ⊢;rw[<- this.1.1,<- this.1.2];first|exact⟨rfl,rfl⟩|exact⟨rfl,trivial⟩|rfl
   |some q =>
    rw[My]at this;simp only[ahp,Result.ok.injEq,Prod.mk.injEq]at this ⊢;rw[<- this.1.1,<- this.1.2];first|exact⟨rfl,rfl⟩|exact⟨rfl,trivial⟩|rfl
  refine⟨_,by simp only[execOp,e1,q1,hu,ahq,main,ahr,ahp];rfl,?_⟩;cases ok with
  |true =>
   refine .d _ _ (.aG _ _ rfl fun j y w hy hw=>?_)
   match j with
   |0=>simp at hy hw;subst hy;subst hw;exact fH
   |1=>simp at hy hw;subst hy;subst hw;exact .bool _
   |j+2=>simp at hy
  |false=>exact .d _ _ fH
theorem Vn(hE:E.OK){op:Op}{t kt e:Nat}{m ko vo:Operand}(cH:op=.mapUpdate t m ko vo\/op=.insert t m ko vo){ti:bA}(ca:E.T[t]?=some ti)(hk:ti.k=.map kt e){kd:TK}(hT:uE E kt kd){b:Nat}{es:List (DV × DV)}(hb:h[b]?=some (.map es))(hm:bk E.G s m (.map b)){x y:DV}(hx:bk E.G s ko (.d x))(hy:bk E.G s vo (.d y))
  (h1:eo E.T kd x) (h2:∀ p∈es,eo E.T kd p.1):bE E op s h (.d .undef) (h.set b (.map (b8 x y es))):=fun o c ac e1 e2 h3 h4=>by
 subst e2;obtain⟨nJ,d,g1,g2,g3,-⟩:=cK (hE.types t ti ca);have hd:d=.map kt e:=by rw[hk]at g3;cases d<;>first|(cases g3;rfl)|cases g3
 subst hd;have fE:=aW hb;obtain⟨blk,cap,en,ck,q1,q2,q3,qe,q4⟩:=yH h3 hb (hm c ac h3 h4);have cV:=hx c ac h3 h4;have nI:=hy c ac h3 h4;generalize hu:ac.eval ko=u at cV;generalize hw:ac.eval vo=w at nI;cases cV with
 |d _ _ cV=>cases nI with
  |d _ _ nI =>
   have r1:=Hc hE hT h1 cV false;have r2:=Hb hE hT h1 cV h2 q4;have hblk:blk<c.w.heap.size:=(h3.bD b blk cap q2).1;have main:∃ (kj:Array MapEntry) (oG:Nat),(Instr.mapUpdate t (.map (some blk)) u w).run E.P c.w=.ok () { c.w with heap:=c.w.heap.setIfInBounds blk (.map kj oG) }/\pr kj oG (b8 x y es).length /\
     ∀ (j:Nat) (k v:DV) (mm:MapEntry),(b8 x y es)[j]?=some (k,v)->kj[j]?=some mm->VD c.bad c.w k mm.key/\VD c.bad c.w v mm.val:=by
    cases hf:fU x es with
    |none =>
     refine⟨en.push { key:=u,val:=w,born:=ck },ck+1,?_,?_,?_⟩
     ·simp only[Instr.mapUpdate,ahq,run_underlying g2,ahr,sW q3,r1,r2,mU,hf,Option.bind_none,AU _ q3]
     ·rw[AT hf,ah5];exact qe.push u w
     ·intro j k v mm hj eF;rw[AT hf]at hj;have hl:en.size=es.length:=zD q4.1
      rcases ahs j es.length with ai|aA
      ·rw[ahT ai]at hj;rw[aij,if_neg oM]at eF;exact q4.2 j k v mm hj (zD eF)
      ·have lv:j=es.length:=by
        have:=aW hj;simp at this;omega
       subst lv;rw[aiH (ahL _)]at hj;simp at hj;obtain⟨rfl,rfl⟩:=hj;rw[aij,if_pos hl.symm]at eF;cases eF;exact⟨cV,nI⟩
    |some i =>
     obtain⟨p,p1,p2,p3⟩:=Dk hf;have hl:en.size=es.length:=zD q4.1
     have hi:i<en.size:=by rw[hl];exact aW p1
     have mf:en[i]?=some en[i]:=by simp[hi]
     have Vo:=(q4.2 i p.1 p.2 en[i] p1 (by simp[hi])).1;have AY:=Mu p2;have e3:=wB h1 cV;have e4:=wB (h2 p (aiQ p1)) Vo;have Hd:Instr.sameBits 10000 en[i].key u=true:=by
      rw[e3,e4,<- AY];exact Mv h1
     refine⟨en.modify i fun e=>{ e with key:=u,val:=w },ck,?_,?_,?_⟩
     ·have He:mU x es en.toList 0=some (i,en[i].val):=by
       simp[mU,hf,hi]
      have Dl:(Instr.keyThatStays en[i].key u).run E.P c.w=.ok u c.w:=by
       simp only[Instr.keyThatStays,Hd,if_true,ahp]
      simp only[Instr.mapUpdate,ahq,run_underlying g2,ahr,sW q3,r1,r2,He,mf,air,ah8,Dl,AU _ q3]
     ·rw[AS hf,aiv];exact qe.modify i u w
     ·intro j k v mm hj eF;rw[AS hf]at hj;by_cases lz:j=i
      ·subst lz;rw[ahQ oM]at hj;cases hj;rw[ahZ,if_pos rfl,mf]at eF;cases eF;exact⟨cV,nI⟩
      ·rw[ahR (Ne.symm lz)]at hj;rw[ahZ,if_neg (Ne.symm lz)]at eF;exact q4.2 j k v mm hj (zD eF)
   obtain⟨kj,oG,cL,hlen,ib⟩:=main
   let c':Cx:={ c with heap:=c.heap.set b (.map (b8 x y es)),w:={ c.w with heap:=c.w.heap.setIfInBounds blk (.map kj oG) } }
   have AZ:c'.w.heap[blk]?=some (.map kj oG):=by simp[c',hblk]
   have uF:∀ b',b'≠blk->c'.w.heap[b']?=c.w.heap[b']? := fun b' cB=>by simp[c',Array.getElem?_setIfInBounds,Ne.symm cB]
   have sX:c'.heap[b]?=some (.map (b8 x y es)):=by show(c.heap.set b _)[b]?=_;rw[ahQ fE]
   have ly:∀ i,i≠b->c'.heap[i]?=c.heap[i]? := fun i hi=>by show(c.heap.set b _)[i]?=_;rw[ahR (Ne.symm hi)]
   have bc:Step c c':=⟨rfl,h3.bV,rfl,rfl,rfl,by simp[c'],fun b' _ bI=>uF b' (fun qo=>bI b cap (qo ▸ q2)),fun i b' n hi _=>⟨n,hi⟩,fun i bx hi=>by
    by_cases bL:i=b
    ·subst bL;rw[hb]at hi;cases hi;exact .inl ⟨_,sX,rfl⟩
    ·rw[<- ly i bL]at hi;cases bx with
     |cells cs=>exact .inl ⟨cs,hi,rfl,rfl⟩
     |arr g sz l=>exact .inl ⟨g,l,hi,.inr ⟨rfl,rfl,rfl⟩⟩
     |map es=>exact .inl ⟨es,hi,rfl⟩
     |gone=>exact hi
     |hole=>exact⟨_,hi⟩⟩
   have aV:aO E.G c':=by
    refine h3.next bc (fun i b' n hi=>?_) h3.inj (fun i bx hi=>?_)
    ·have:=h3.bD i b' n hi;refine⟨by simpa [c']using this.1,?_⟩;show i<(c.heap.set b _).length;rw[aiv];exact this.2
    ·by_cases bL:i=b
     ·subst bL;rw[sX]at hi;cases hi;right;exact⟨blk,cap,kj,oG,q2,AZ,hlen,fun j k v mm hj eF=>⟨bc.vd (ib j k v mm hj eF).1,bc.vd (ib j k v mm hj eF).2⟩⟩
     ·rw[ly i bL]at hi;exact .inl ⟨hi,rfl,fun b' n hn=>uF b' (fun qo=>bL (h3.inj i b blk n cap (qo ▸ hn) q2))⟩
   refine⟨c',undef,.inr ⟨?_,rfl⟩,rfl,aV,.d _ _ .undef,bc⟩;rcases cH with rfl|rfl
   ·simp only[execOp,e1,q1,hu,hw,ahq,cL,ahr,ahp];rfl
   ·simp only[execOp,e1,q1,hu,hw,ahq,cL,ahr,ahp];rfl
theorem Vp(hE:E.OK){t:Nat}{args:Array Operand}{ts:Array TypeId}{m:Operand}(kg:args.toList[0]?=some m)(kh:ts.toList[0]?=some t){ti:bA}(ca:E.T[t]?=some ti){kt e:Nat}(hk:ti.k=.map kt e){b:Nat}{es:List (DV × DV)}(hb:h[b]?=some (.map es))(hm:bk E.G s m (.map b)) :
  bE E (.call { callee := .builtin .len,args:=args,argTypes:=ts }) s h (.d (.int .i64 es.length)) h := .quiet fun o c ac e1 e2 h3 h4=>by
 subst e2;obtain⟨nJ,d,g1,g2,g3,-⟩:=cK (hE.types t ti ca);have hd:d=.map kt e:=by rw[hk]at g3;cases d<;>first|(cases g3;rfl)|cases g3
 subst hd;obtain⟨blk,cap,en,ck,q1,q2,q3,qe,q4⟩:=yH h3 hb (hm c ac h3 h4);refine⟨.int .i64 es.length,?_,.d _ _ (.int _ _)⟩;have hl:en.size=es.length:=zD q4.1
 have dY:args[0]?=some m:=zD kg
 have pv:ts[0]?=some t:=zD kh
 have yp:(args.map ac.eval)[0]?=some (.map (some blk)):=by rw[Array.getElem?_map,dY];simp[q1]
 simp only[execOp,e1,resolve,invoke,builtin,Builtin.len_,pv,yp,ahq,ahp,ahr,run_underlying g2,sW q3,goInt,hl]
def A0(E:Env)(kt:Nat)(stop:Prop)(k:TK->Prop):Prop:=bh E.T kt stop fun i=>match i.k with
 | .int j=>k (.int j)
 | .string=>k .string
 | .bool=>k .bool
 | .struct fs=>match AM kt E.Q with
  |true=>k (.struct fs)
  |false=>stop
 |_=>stop
theorem Hf{kt:Nat}{stop:Prop}{k:TK->Prop}(H:A0 E kt stop k):stop\/∃ kd,uE E kt kd/\k kd:=by
 unfold A0 at H;rcases bu H with H|⟨i,hi,H⟩
 ·exact .inl H
 split at H
 ·rename_i q;exact .inr ⟨_,q ▸ .plain i hi (by rw[q];trivial),H⟩
 ·rename_i q;exact .inr ⟨_,q ▸ .plain i hi (by rw[q];trivial),H⟩
 ·rename_i q;exact .inr ⟨_,q ▸ .plain i hi (by rw[q];trivial),H⟩
 ·rename_i fs q;split at H
  ·rename_i q2;exact .inr ⟨_,.struct i hi fs q (Di q2),H⟩
  ·exact .inl H
 ·exact .inl H
def yI(E:Env)(o:Op)(s:List AV)(h:List ae)(stop:Prop)(k:AV->List ae->Prop):Prop :=
 match o with
 | .makeMap _ none=>pq h (.map []) 0 fun h' n=>k (.map n) h'
 | .lookup t m x ok=>bh E.T t stop fun ti=>match ti.k with
  | .map kt e=>cG E.G s m stop fun
   | .map b=>bh h b stop fun
    | .map es=>cG E.G s x stop fun
     | .d y=>A0 E kt stop fun kd=>AX E e kd y es fun v f=>match ok with
      |true=>k (.d (.aG [v,.bool f])) h
      |false=>k (.d v) h
     |_=>stop
    |_=>stop
   |_=>stop
  |_=>stop
 | .call { callee := .builtin .len,args:=args,argTypes:=ts }=>bh args.toList 0 stop fun m=>bh ts.toList 0 stop fun t=>bh E.T t stop fun ti=>match ti.k with
  | .map _ _=>cG E.G s m stop fun
   | .map b=>bh h b stop fun
    | .map es=>k (.d (.int .i64 es.length)) h
    |_=>stop
   |_=>stop
  |_=>stop
 | .mapUpdate t m x v=>bh E.T t stop fun ti=>match ti.k with
  | .map kt _=>cG E.G s m stop fun
   | .map b=>bh h b stop fun
    | .map es=>cG E.G s x stop fun
     | .d y=>cG E.G s v stop fun
      | .d z=>A0 E kt stop fun kd=>need (eo E.T kd y/\∀ p∈es,eo E.T kd p.1) (iA h b (.map (b8 y z es)) fun h'=>k (.d .undef) h')
      |_=>stop
     |_=>stop
    |_=>stop
   |_=>stop
  |_=>stop
 |_=>stop
theorem Vq(hE:E.OK){o:Op}{stop:Prop}{k:AV->List ae->Prop}(H:yI E o s h stop k):stop\/∃ v h',k v h'/\bE E o s h v h':=by
 unfold yI at H;split at H
 ·rw[uo,ahB]at H;exact .inr ⟨_,_,H,Vi⟩
 ·rename_i t m x ok;rcases bu H with H|⟨ti,ca,H⟩
  ·exact .inl H
  split at H
  ·rename_i kt e hk;rcases cO H with H|⟨a,ha,H⟩
   ·exact .inl H
   split at H
   ·rename_i b;rcases bu H with H|⟨bx,hb,H⟩
    ·exact .inl H
    split at H
    ·rename_i es;rcases cO H with H|⟨y,hy,H⟩
     ·exact .inl H
     split at H
     ·rename_i y;rcases Hf H with H|⟨kd,hT,H⟩
      ·exact .inl H
      obtain⟨z,zv,f1,f2,f3,f4,H⟩:=Vk H;have:=Vl (s:=s) hE ca hk hT hb ha hy f1 f2 f3 f4 ok;cases ok with
      |true=>exact .inr ⟨_,_,H,this⟩
      |false=>exact .inr ⟨_,_,H,this⟩
     ·exact .inl H
    ·exact .inl H
   ·exact .inl H
  ·exact .inl H
 ·rename_i args ts;rcases bu H with H|⟨m,hm,H⟩
  ·exact .inl H
  rcases bu H with H|⟨t,ht,H⟩
  ·exact .inl H
  rcases bu H with H|⟨ti,ca,H⟩
  ·exact .inl H
  split at H
  ·rename_i kt e hk;rcases cO H with H|⟨a,ha,H⟩
   ·exact .inl H
   split at H
   ·rename_i b;rcases bu H with H|⟨bx,hb,H⟩
    ·exact .inl H
    split at H
    ·exact .inr ⟨_,_,H,Vp hE hm ht ca hk hb ha⟩
    ·exact .inl H
   ·exact .inl H
  ·exact .inl H
 ·rename_i t m x v;rcases bu H with H|⟨ti,ca,H⟩
  ·exact .inl H
  split at H
  ·rename_i kt e hk;rcases cO H with H|⟨a,ha,H⟩
   ·exact .inl H
   split at H
   ·rename_i b;rcases bu H with H|⟨bx,hb,H⟩
    ·exact .inl H
    split at H
    ·rename_i es;rcases cO H with H|⟨y,hy,H⟩
     ·exact .inl H
     split at H
     ·rename_i y;rcases cO H with H|⟨z,hz,H⟩
      ·exact .inl H
      split at H
      ·rename_i z;rcases Hf H with H|⟨kd,hT,H⟩
       ·exact .inl H
       obtain⟨⟨f1,f2⟩,H⟩:=qk H;rw[jk]at H;exact .inr ⟨_,_,H,Vn hE (.inl rfl) ca hk hT hb ha hy hz f1 f2⟩
      ·exact .inl H
     ·exact .inl H
    ·exact .inl H
   ·exact .inl H
  ·exact .inl H
 ·exact .inl H
def pF(E:Env)(o:Op)(s:List AV)(h:List ae)(stop:Prop)(k:AV->List ae->Prop):Prop:=sR E.T E.G o s h (G5 E o s (yI E o s h stop k) fun v=>k v h) k
theorem A2(hE:E.OK){o:Op}{stop:Prop}{k:AV->List ae->Prop}(H:pF E o s h stop k):stop\/∃ v h',k v h'/\bE E o s h v h':=by
 rcases U2 hE H with H|H
 ·rcases Va H with H|⟨v,H,ho⟩
  ·exact Vq hE H
  ·exact .inr ⟨v,h,H,ho h⟩
 ·exact .inr H
end
end Go.az
end
