/- Lemmas of mine. Conditions: as stated. -/
import Derived.Test.YtlhehdgciafakaaGreatDoorQ2
import Derived.Orders
import Derived.OrdersIn
set_option linter.unusedVariables false
set_option linter.unusedSimpArgs false
open Array renaming replicate->ai8,getElem?_eq_some_iff->ajS,ext'->aiY,range->ah'
open Bool renaming false_eq_true->ah0,or_eq_true->ajX,true_or->ajZ
open List renaming getElem?_eq_getElem->aiX,getElem?_eq_none->aht,all_eq_true->ahH,ext_getElem?->aik,replicate->ahC,mem_cons_self->aio,mem_append_left->ajL,mem_append_right->ajM,getElem?_map->ahy,mem_cons_of_mem->aip,getD->ahU,getElem?_cons_zero->ajW,getElem?_cons_succ->ajO,length_map->aiO,mem_cons->ai3,mem_of_getElem?->aiQ,length_append->ah5,mem_range->ajY,getElem?_set_ne->ahR,map_map->ajR,append_nil->aj0,map_cons->ahx,length_replicate->aiR,getElem?_replicate->ah9
open Nat renaming zero_add->ahB,le_refl->ahL,add_zero->ah3,lt_or_ge->ahs,ble->ahO,lt_trichotomy->ajV,eq_of_beq_eq_true->ahu,le_of_ble_eq_true->ahA,le_trans->aic,zero_lt_succ->aj1,mul_comm->aia
section
namespace Go.az
open Go Go.RowKit
inductive kS (ops:Array Oper):Nat->Nat->Prop
 |one {j:Nat} {o:Oper} {e:Edge} (hj:ops[j]?=some o) (he:e∈o.after) (hb:Region.binds .any e=true):kS ops e.on j
 |step {i j:Nat} {o:Oper} {e:Edge} (h:kS ops i e.on) (hj:ops[j]?=some o) (he:e∈o.after) (hb:Region.binds .any e=true):kS ops i j
def HS(acc:List Nat)(o:Oper):Nat:=o.after.toList.foldl (fun m e=>if Region.binds .any e then m ||| 2 ^ e.on ||| acc.getD e.on 0 else m) 0
def bits:List Oper->List Nat->List Nat
 |[],acc=>acc
 |o::l,acc=>bits l (acc++[HS acc o])
theorem VT{acc:List Nat}{o:Oper}{i:Nat}(h:(HS acc o).testBit i=true):∃ e∈o.after,Region.binds .any e=true/\(i=e.on\/(acc.getD e.on 0).testBit i=true):=by
 have gen:∀ (l:List Edge) (m:Nat),(l.foldl (fun m e=>if Region.binds .any e then m ||| 2 ^ e.on ||| acc.getD e.on 0 else m) m).testBit i=true->m.testBit i=true\/∃ e∈l,Region.binds .any e=true/\(i=e.on\/(acc.getD e.on 0).testBit i=true):=by
  intro l
  induction l with
  |nil=>intro m h;exact .inl h
  |cons e l ih =>
   intro m h;rw[List.foldl_cons]at h;rcases ih _ h with h|⟨e',jR,hb⟩
   ·split at h
    ·rename_i hb;simp only[Nat.testBit_or,ajX,Nat.testBit_two_pow,decide_eq_true_eq]at h;rcases h with(h|h)|h
     ·exact .inl h
     ·exact .inr ⟨e,aio ..,hb,.inl h.symm⟩
     ·exact .inr ⟨e,aio ..,hb,.inr h⟩
    ·exact .inl h
   ·exact .inr ⟨e',aip _ jR,hb⟩
 rcases gen _ _ h with h|⟨e,he,hb⟩
 ·simp at h
 ·exact⟨e,zD he,hb⟩
theorem HT(ops:Array Oper):∀ (l:List Oper) (acc:List Nat),ops.toList.drop acc.length=l->(∀ j i,(acc.getD j 0).testBit i=true->kS ops i j)->∀ j i,((bits l acc).getD j 0).testBit i=true->kS ops i j
 |[],acc,_,ha=>ha
 |o::l,acc,hl,ha=>by
  have ho:ops[acc.length]?=some o:=by
   have:=congrArg (·[0]?) hl
   simpa using this
  refine HT ops l (acc++[HS acc o]) (by rw[ah5,List.length_singleton,<- List.drop_drop,hl];rfl) (fun j i h=>?_);rcases ajV j acc.length with hj|hj|hj
  ·rw[ahU,List.getElem?_append_left hj]at h;exact ha j i h
  ·subst hj;rw[ahU,List.getElem?_append_right (ahL _),Nat.sub_self]at h;obtain⟨e,he,hb,h|h⟩:=VT (zD h)
   ·subst h;exact .one ho he hb
   ·exact .step (ha _ _ h) ho he hb
  ·rw[ahU,aht (by simp;omega)]at h;simp at h
def tmpsOf(o:Op):List Nat:=o.operands.toList.filterMap fun | .tmp t=>some t|_=>none
def Np(ops:Array Oper):Option (Nat × Bool)->List Nat
 |none=>[]
 |some (j,_)=>match (ops[j]?).bind (·.dst)with
  |some d=>[d]
  |none=>[]
def ey(ops:Array Oper)(o:Oper):List Nat:=tmpsOf o.op++Np ops o.guard
def rE(ops:Array Oper)(a b:Oper):Bool:=(match a.dst with|some d=>lD d (b.dst.toList++ey ops b)|none=>false)||(match b.dst with|some d=>lD d (ey ops a)|none=>false)
theorem Bs{d:Nat}:∀ {l:List Nat},lD d l=true↔d∈l
 |[]=>by simp[lD]
 |a::l=>by
  simp only[lD];split
  ·rename_i q;simp[ahu q]
  ·rename_i q;have aL:d≠a:=fun e=>by rw[e,Nat.beq_refl]at q;cases q
   rw[Bs (l:=l)];simp[aL]
structure DN(ops:Array Oper):Prop where
 low:∀ j o e,ops[j]?=some o->e∈o.after->Region.binds .any e=true->e.on<j
 pair:∀ i j oi oj,i<j->ops[i]?=some oi->ops[j]?=some oj->rE ops oi oj=true->kS ops i j
def DO(ops:Array Oper):Bool :=
 let bs:=bits ops.toList []
 (List.range ops.size).all fun j=>match ops[j]? with
  |none=>true
  |some oj=>(oj.after.toList.all fun e => !Region.binds .any e||decide (e.on<j))&&(List.range j).all fun i=>match ops[i]? with
   |none=>true
   |some oi=>(bs.getD j 0).testBit i || !rE ops oi oj
theorem Nq{ops:Array Oper}(h:DO ops=true):DN ops:=by
 have hb:=HT ops ops.toList [] rfl (fun j i h=>by simp at h);have aM:∀ j oj,ops[j]?=some oj->(oj.after.toList.all fun e => !Region.binds .any e||decide (e.on<j))=true/\∀ i oi,i<j->ops[i]?=some oi->((bits ops.toList []).getD j 0).testBit i=true\/rE ops oi oj=false:=fun j oj hj=>by
  have ai:j<ops.size:=(ajS.1 hj).1;have h1:=ahH.1 h j (ajY.2 ai);simp only[hj,Bool.and_eq_true]at h1;refine⟨h1.1,fun i oi hi nG=>?_⟩;have h2:=ahH.1 h1.2 i (ajY.2 hi);simp only[nG,ajX,Bool.not_eq_true']at h2;exact h2
 refine⟨fun j o e hj he fJ=>?_,fun i j oi oj eC hi hj hc=>?_⟩
 ·have:=ahH.1 (aM j o hj).1 e (zD he)
  simpa [fJ]using this
 ·rcases(aM j oj hj).2 i oi eC hi with h|h
  ·exact hb j i h
  ·rw[hc]at h;cases h
def DP(ops:Array Oper)(l:List (Nat × Nat)):Bool :=
 let bs:=bits ops.toList []
 l.all fun p=>(bs.getD p.2 0).testBit p.1
theorem Nr{ops:Array Oper}{l:List (Nat × Nat)}(h:DP ops l=true):∀ p∈l,kS ops p.1 p.2:=fun p hp =>
 HT ops ops.toList [] rfl (fun j i h=>by simp at h) p.2 p.1 (ahH.1 h p hp)
def cur:List (Oper × AV)->(Nat->Bool)->Nat->List AV->List AV
 |[],_,_,s=>s
 |(o,v)::l,L,i,s=>cur l L (i+1) (if L i then cg s o.dst v else s)
theorem uX:∀ (pl:List (Oper × AV)) (L:Nat->Bool) (i:Nat) (s:List AV),(cur pl L i s).length=s.length
 |[],_,_,_=>rfl
 |(o,v)::l,L,i,s=>by
  rw[cur,uX l];split
  ·cases o.dst<;>simp[cg]
  ·rfl
theorem VU{s:List AV}{d:Option Nat}{v:AV}{t:Nat}(h:d≠some t):(cg s d v)[t]?=s[t]? := by
 cases d with
 |none=>rfl
 |some d=>exact ahR (fun e=>h (by rw[e]))
theorem VV{s s':List AV}{d:Option Nat}{v:AV}{t:Nat}(hl:s.length=s'.length)(h:s[t]?=s'[t]?):(cg s d v)[t]?=(cg s' d v)[t]? := by
 cases d with
 |none=>exact h
 |some d =>
  by_cases hd:d=t
  ·subst hd;simp only[cg,List.getElem?_set,hl,if_true]
  ·simp only[cg,ahR hd,h]
theorem Bt{t:Nat}:∀ (pl:List (Oper × AV)) (L L':Nat->Bool) (i:Nat) (s s':List AV),s.length=s'.length->s[t]?=s'[t]? -> (∀ k o v,pl[k]?=some (o,v)->o.dst=some t->L (i+k)=L' (i+k))->(cur pl L i s)[t]?=(cur pl L' i s')[t]?
 |[],_,_,_,_,_,_,hs,_=>hs
 |(o,v)::l,L,L',i,s,s',hl,hs,hw=>by
  rw[cur,cur];have hlen:∀ (b:Bool) (q:List AV),(if b then cg q o.dst v else q).length=q.length:=fun b q=>by cases b<;>cases o.dst<;>simp[cg]
  refine Bt l L L' (i+1) _ _ (by rw[hlen,hlen,hl]) ?_ (fun k o' v' hk hd=>by have:=hw (k+1) o' v' (zD hk) hd;rwa [show i+(k+1)=i+1+k by omega]at this);by_cases hd:o.dst=some t
  ·have:=hw 0 o v rfl hd;rw[ah3]at this;rw[this];split
   ·exact VV hl hs
   ·exact hs
  ·split<;>split<;>simp only[VU hd,hs]
theorem tf:∀ (pl:List (Oper × AV)) (i:Nat) (s:List AV) (L:Nat->Bool),(∀ k,k<pl.length->L (i+k)=false)->cur pl L i s=s
 |[],_,_,_,_=>rfl
 |(o,v)::l,i,s,L,h=>by
  have h0:=h 0 sP;rw[ah3]at h0;rw[cur,h0];exact tf l (i+1) s L (fun k hk=>by have:=h (k+1) (zD hk);rwa [show i+(k+1)=i+1+k by omega]at this)
theorem Ns:∀ (pl:List (Oper × AV)) (i j:Nat) (s:List AV) (o:Oper) (v:AV),pl[j]?=some (o,v)->cur pl (fun k=>decide (k<i+j+1)) i s=cg (cur pl (fun k=>decide (k<i+j)) i s) o.dst v
 |[],_,_,_,_,_,h=>by simp at h
 |(o',v')::l,i,0,s,o,v,h=>by
  simp at h;obtain⟨rfl,rfl⟩:=h;rw[cur,cur];simp only[ah3,Nat.lt_irrefl,decide_false,ah0,if_false,Nat.lt_succ_self,decide_true,if_true];rw[tf l (i+1) _ _ (fun k _=>decide_eq_false oM),tf l (i+1) s _ (fun k _=>decide_eq_false oM)]
 |(o',v')::l,i,j+1,s,o,v,h=>by
  rw[cur,cur];have e1:(decide (i<i+(j+1)+1))=true:=decide_eq_true oM;have e2:(decide (i<i+(j+1)))=true:=by simp
  simp only[e1,e2,if_true];have:=Ns l (i+1) j (cg s o'.dst v') o v (zD h);rw[show i+(j+1)+1=i+1+j+1 by omega,show i+(j+1)=i+1+j by omega];exact this
theorem DQ(d:Nat):∀ (a:List (Oper × AV)) (L:Nat->Bool) (i:Nat) (s:List AV),cur a L (i+d) s=cur a (fun k=>L (k+d)) i s
 |[],_,_,_=>rfl
 |(o,v)::a,L,i,s=>by
  rw[cur,cur,show i+d+1=i+1+d by omega,DQ d a L (i+1)]
def dz(keep:List Nat):Nat->List AV->List AV
 |_,[]=>[]
 |i,x::s=>(match lD i keep with|true=>x|false => .any)::dz keep (i+1) s
theorem HU(keep:List Nat):∀ (i:Nat) (s:List AV),(dz keep i s).length=s.length
 |_,[]=>rfl
 |i,_::s=>by simp[dz,HU keep (i+1) s]
theorem HV(keep:List Nat):∀ (i t:Nat) (s:List AV) (x:AV),(dz keep i s)[t]?=some x->x=.any\/(i+t∈keep/\s[t]?=some x)
 |_,_,[],_,h=>by simp[dz]at h
 |i,0,y::s,x,h=>by
  simp only[dz,ajW,Option.some.injEq]at h;split at h
  ·rename_i q;subst h;exact .inr ⟨zD (Bs.1 q),rfl⟩
  ·exact .inl h.symm
 |i,t+1,y::s,x,h=>by
  simp only[dz,ajO]at h;rcases HV keep (i+1) t s x h with h|⟨h1,h2⟩
  ·exact .inl h
  ·exact .inr ⟨by rwa [show i+(t+1)=i+1+t by omega],zD h2⟩
theorem VS.mask{c:Cx}{s:List AV}{t:Array Value}(h:VS c s t){keep:List Nat}:VS c (dz keep 0 s) t:=by
 refine⟨by rw[HU];exact h.1,fun i x v hx hv=>?_⟩;rcases HV _ 0 i _ x hx with rfl|⟨-,hx⟩
 ·exact .any v
 ·exact h.2 i x v hx hv
def eL(E:Env)(ops:Array Oper)(o:Oper)(s:List AV)(h:List ae)(v:AV)(h':List ae):Prop :=
 ∀ (c:Cx) (a:Act),aO E.G c->c.heap=h->a.defers=[]->VS c (dz (ey ops o) 0 s) a.tmps->∀ (j:Nat),ops[j]?=some o->∀ (K:Act->World->Prop) (Q:Exit->Act->World->Prop),
  (∀ (c':Cx) (u:Value),aO E.G c'->c'.heap=h'->Step c c'->VR c' v u->K (a.put o.dst u) c'.w)->wpOp E.P ops Q j K a c.w
section
variable {E:Env} {ops:Array Oper}
def bY(listed:Array Bool)(i:Nat):Bool:=listed.getD i false
def DC(ops:Array Oper)(listed:Array Bool):Prop:=listed.size=ops.size/\∀ j o e,ops[j]?=some o->bY listed j=true->e∈o.after->Region.binds .any e=true->bY listed e.on=true
theorem DC.dep{listed:Array Bool}(hd:DC ops listed){i j:Nat}(h:kS ops i j)(hj:bY listed j=true):bY listed i=true:=by
 induction h with
 |one ho he hb=>exact hd.2 _ _ _ ho hj he hb
 |step h ho he hb ih=>exact ih (hd.2 _ _ _ ho hj he hb)
theorem DC.ready{listed:Array Bool}(hd:DC ops listed){i j:Nat}(hj:j∈Region.ready .any ops listed)(h:kS ops i j):bY listed i=true:=by
 obtain⟨-,o,ho,aM⟩:=mem_ready.1 hj;cases h with
 |one du he hb=>rw[ho]at du;cases du;exact aM _ he hb
 |step h du he hb=>rw[ho]at du;cases du;exact hd.dep h (aM _ he hb)
theorem DC.set{listed:Array Bool}(hd:DC ops listed){j:Nat}(hj:j∈Region.ready .any ops listed):DC ops (listed.setIfInBounds j true):=by
 refine⟨zD hd.1,fun i o e hi hl he hb=>?_⟩;by_cases eC:j=i
 ·subst eC;obtain⟨-,o',du,aM⟩:=mem_ready.1 hj;rw[hi]at du;cases du;exact getD_set_true (aM e he hb)
 ·have:bY listed i=true:=by unfold bY at hl ⊢;rwa [getD_set_ne false eC]at hl
  exact getD_set_true (hd.2 i o e hi this he hb)
theorem HW{listed:Array Bool}{j i:Nat}(hj:j<listed.size):bY (listed.setIfInBounds j true) i=(bY listed i||decide (i=j)):=by
 unfold bY;by_cases h:j=i
 ·subst h;simp[hj]
 ·rw[getD_set_ne false h];simp[Ne.symm h]
theorem wQ{listed:Array Bool}(hd:DC ops listed){j:Nat}(hj:j∈Region.ready .any ops listed):bY listed j=false/\j<ops.size:=by
 obtain⟨h1,o,ho,-⟩:=mem_ready.1 hj;have ai:j<ops.size:=(ajS.1 ho).1;refine⟨?_,ai⟩;have:j<listed.size:=by rw[hd.1];exact ai
 unfold bY;simp[this]at h1 ⊢;exact h1
theorem HX(hc:DN ops){listed:Array Bool}(hd:DC ops listed){j:Nat}(hj:j<ops.size)(hn:bY listed j=false):∃ i,i<=j/\i∈Region.ready .any ops listed:=by
 induction j using Nat.strongRecOn with
 |ind j ih =>
  by_cases aM:∀ i,i<j->bY listed i=true
  ·refine⟨j,ahL _,mem_ready.2 ⟨?_,ops[j],by simp[hj],fun e he hb=>aM _ (hc.low j _ e (by simp[hj]) he hb)⟩⟩;have:j<listed.size:=by rw[hd.1];exact hj
   unfold bY at hn;simp[this]at hn ⊢;exact hn
  ·have:∃ i,i<j/\bY listed i=false:=by
    apply Classical.byContradiction;intro aL;exact aM fun i hi=>by
     cases hl:bY listed i with
     |true=>rfl
     |false=>exact absurd ⟨i,hi,hl⟩ aL
   obtain⟨i,hi,hl⟩:=this;obtain⟨k,hk,hr⟩:=ih i hi oM hl;exact⟨k,by omega,hr⟩
def kT(L:Nat->Bool):Nat->Nat
 |0=>0
 |n+1=>kT L n+if L n then 0 else 1
theorem HY{L L':Nat->Bool}{j:Nat}(h:∀ i,i≠j->L' i=L i)(hj:L j=false)(fh:L' j=true):∀ n,(j<n->kT L' n+1=kT L n)/\(n<=j->kT L' n=kT L n)
 |0=>⟨fun h=>by omega,fun _=>rfl⟩
 |n+1=>by
  obtain⟨h1,h2⟩:=HY h hj fh n;simp only[kT];by_cases hn:n=j
  ·subst hn;refine⟨fun _=>?_,fun h=>by omega⟩;rw[h2 (ahL _),hj,fh];simp
  ·rw[h n hn];exact⟨fun hl=>by have:=h1 oM;omega,fun hl=>by rw[h2 oM]⟩
theorem Nt{L:Nat->Bool}{j:Nat}(hj:L j=false):∀ n,j<n->0<kT L n
 |0,h=>by omega
 |n+1,h=>by
  simp only[kT];by_cases hn:n=j
  ·subst hn;rw[hj];simp
  ·have:=Nt hj n oM;omega
theorem HZ{a b:Oper}{d:Nat}(ha:a.dst=some d)(hb:d∈b.dst.toList++ey ops b):rE ops a b=true:=by
 simp only[rE,ha,Bs.2 hb,ajZ]
theorem VW{a b:Oper}{d:Nat}(hb:b.dst=some d)(ha:d∈ey ops a):rE ops a b=true:=by
 simp only[rE,hb,Bs.2 ha,Bool.or_true]
theorem H3(Nu:∀ i j oi oj,i<j->ops[i]?=some oi->ops[j]?=some oj->rE ops oi oj=true->kS ops i j){q:List (Oper × AV)}(cZ:∀ (k:Nat) (o:Oper) (v:AV),q[k]?=some (o,v)->ops[k]?=some o){listed:Array Bool}(hd:DC ops listed){i:Nat}(hi:i∈Region.ready .any ops listed)
  {o:Oper} {v:AV} (kU:q[i]?=some (o,v)) {s0:List AV} {c:Cx} {a:Act} (h4:VS c (cur q (bY listed) 0 s0) a.tmps) :
  (∀ (c':Cx) (u:Value),(∀ x v,VR c x v->VR c' x v)->VR c' v u->VS c' (cur q (bY (listed.setIfInBounds i true)) 0 s0) (a.put o.dst u).tmps)/\VS c (dz (ey ops o) 0 (cur q (fun k=>decide (k<i)) 0 s0)) a.tmps:=by
 obtain⟨mX,fX⟩:=wQ hd hi;have nG:=cZ i o v kU;have wr:∀ k o' v',q[k]?=some (o',v')->(k<i->rE ops o' o=true->bY listed k=true)/\(i<k->rE ops o o'=true->bY listed k=false):=fun k o' v' hk=>by
  have aV:=cZ k o' v' hk;refine⟨fun ai oO=>hd.ready hi (Nu k i o' o ai aV nG oO),fun ai oO=>?_⟩;cases hl:bY listed k with
  |false=>rfl
  |true=>have:=hd.dep (Nu i k o o' ai nG aV oO) hl;rw[mX]at this;cases this
 have bP:i<listed.size:=by rw[hd.1];exact fX
 have eH:=fun q=>HW (i:=q) bP;refine⟨fun c' u k3 k4=>?_,?_⟩
 ·refine⟨by rw[uX];have:=h4.1;rw[uX]at this;cases DR:o.dst<;>simp[Act.put,this],fun t x u' hx AF=>?_⟩;by_cases jn:o.dst=some t
  ·have e1:(cur q (bY (listed.setIfInBounds i true)) 0 s0)[t]?=(cur q (fun k=>decide (k<0+i+1)) 0 s0)[t]? := by
    refine Bt _ _ _ 0 s0 s0 rfl rfl (fun k o' v' lx fo=>?_);rw[ahB,ahB,eH];rcases ajV k i with ai|rfl|wy
    ·rw[(wr k o' v' lx).1 ai (HZ fo (ajL _ (by simp[jn])))];simp;omega
    ·simp
    ·rw[(wr k o' v' lx).2 wy (HZ jn (ajL _ (by simp[fo])))];simp;omega
   rw[e1,Ns _ 0 i s0 o v kU,jn]at hx;have H4:t<(cur q (fun k=>decide (k<0+i)) 0 s0).length:=by
    have:=aW hx
    simpa [cg]using this
   rw[cg,List.getElem?_set_self H4]at hx;cases hx;have VX:t<a.tmps.size:=by rw[<- h4.1,uX];rwa [uX]at H4
   have y4:(a.tmps.setIfInBounds t u)[t]?=some u':=by simpa [Act.put,jn]using AF
   rw[Array.getElem?_setIfInBounds_self_of_lt VX]at y4;cases y4;exact k4
  ·have e1:(cur q (bY (listed.setIfInBounds i true)) 0 s0)[t]?=(cur q (bY listed) 0 s0)[t]? := by
    refine Bt _ _ _ 0 s0 s0 rfl rfl (fun k o' v' lx fo=>?_);rw[ahB,eH];have:k≠i:=fun e=>by
     subst e;rw[kU]at lx;cases lx;exact jn fo
    simp[this]
   rw[e1]at hx;refine k3 _ _ (h4.2 t x u' hx ?_);cases DR:o.dst with
   |none=>simpa [Act.put,DR]using AF
   |some d =>
    rw[DR]at jn;have aL:d≠t:=fun e=>jn (by rw[e])
    simpa [Act.put,DR,Array.getElem?_setIfInBounds_ne aL]using AF
 ·refine⟨by rw[HU,uX];have:=h4.1;rwa [uX]at this,fun t x u hx hu=>?_⟩;rcases HV _ 0 t _ x hx with rfl|⟨hk,hx⟩
  ·exact .any u
  ·rw[ahB]at hk;refine h4.2 t x u ?_ hu;rw[<- hx];refine Bt _ _ _ 0 s0 s0 rfl rfl (fun k o' v' lx fo=>?_);rw[ahB];rcases ajV k i with ai|rfl|wy
   ·rw[(wr k o' v' lx).1 ai (HZ fo (ajM _ hk))];simp[ai]
   ·rw[mX];simp
   ·rw[(wr k o' v' lx).2 wy (VW fo hk)];simp;omega
theorem Nv{pl:List (Oper × AV)}(fF:pl.map (·.1)=ops.toList):pl.length=ops.size/\∀ (k:Nat) (o:Oper) (v:AV),pl[k]?=some (o,v)->ops[k]?=some o:=by
 refine⟨by have:=congrArg List.length fF;simpa using this,fun k o v hk=>?_⟩;have:=congrArg (·[k]?) fF;simp only[ahy,hk,Option.map_some]at this
 simpa using this.symm
theorem H5{L:Nat->Bool}{n i:Nat}(h:kT L n<=0)(hi:i<n):L i=true:=by
 cases hl:L i with
 |true=>rfl
 |false=>have:=Nt hl n hi;omega
theorem uY(n i:Nat):bY (ai8 n false) i=false:=by
 unfold bY;simp[Array.getElem?_replicate];split<;>rfl
theorem Nw(n:Nat):∀ k,kT (bY (ai8 n false)) k<=k:=by
 intro k
 induction k with
 |zero=>exact ahL _
 |succ k ih=>simp only[kT];split<;>omega
end
section
variable {E:Env} {aj:FuncId} {R:cT} {ops:Array Oper} {s:List AV} {h:List ae}
theorem eL.skip{o:Oper}(hw:jm ops o (dz (ey ops o) 0 s) false):eL E ops o s h (.d .undef) h:=fun c a h1 h2 _ h4 j hj K Q hK=>by
 unfold wpOp;simp only[hj,hw c a.tmps h4,ah0,if_false];exact hK c Go.undef h1 h2 (Step.refl c h1.bV) (.d _ _ .undef)
theorem VY{s:List AV}{o:Oper}{fx:Operand}{args:Array Operand}{ts:Array TypeId}{f:FuncId}{a1 a2 av:List AV}{ds:List DV}{r:DV}(ho:o.op=.call { callee := .value fx,args:=args,argTypes:=ts })
  (hf:bk E.G s fx (.fn (.func f) a1 a2)) (ha:kK E.G s args.toList av) (hd:a1++av++a2=ds.map .d) (hc:aq E f ds (· = r)) {c:Cx} {a:Act} (h1:aO E.G c) (h4:VS c s a.tmps) {K:Act->World->Prop} {Q:Exit->Act->World->Prop}
  (hK:∀ (c':Cx) (u:Value),aO E.G c'->c'.heap=c.heap->Step c c'->VR c' (.d r) u->K (a.put o.dst u) c'.w):o.wp E.P a c.w K Q:=by
 unfold aq at hc;obtain⟨v1,v2,e1,e2,e3⟩:=mP (hf c a h1 h4);have e4:=ha c a h1 h4;have e5:=(e2.append e4).append e3;rw[hd]at e5;have wo:∀ b,c.bad b->b<c.w.heap.size:=fun b hb=>hb.elim (h1.bV b) fun⟨j,n,hj⟩=>(h1.bD j b n hj).1;have AB:uz E.G c.bad c.w:=fun g e hg=>by
  have hp:∀ p,VR c (.bT e 0) p->VR ⟨fun _=>none,[],c.bad,c.w⟩ (.bT e 0) p:=fun p hp=>by
   cases hp with
   |bT _ _ blk o' fv k1 k2 k3 k4=>exact .bT _ _ blk o' fv (fun hb=>k1 (wj.1 hb)) k2 k3 (fun j x hx=>wk (k4 j x hx))
  exact hp _ (h1.gI g e hg)
 have iZ:=hc.2 c.bad c.w _ wo AB ⟨zD e5.1,e5.qY⟩;have cL:=AA (P:=E.P) (w:=c.w) (a:=a) ho e1 hc.1;have kg:(v1.toArray++args.map a.eval++v2.toArray)=(v1++args.toList.map a.eval++v2).toArray:=by
  apply aiY;simp
 rw[kg]at cL;unfold Oper.wp;rw[cL,Oper.upon_enter];refine iZ.mono fun e w' he=>?_;obtain⟨v,r',rfl,rfl,hv,hx⟩:=he;obtain⟨k1,k2⟩:=h1.grow hx;exact hK (c.fe w') v k1 rfl k2 (.d _ _ hv)
theorem eL.call{o:Oper}{fx:Operand}{args:Array Operand}{ts:Array TypeId}{f:FuncId}{a1 a2 av:List AV}{ds:List DV}{r:DV}(hw:jm ops o (dz (ey ops o) 0 s) true)(ho:o.op=.call { callee := .value fx,args:=args,argTypes:=ts })
  (hf:bk E.G (dz (ey ops o) 0 s) fx (.fn (.func f) a1 a2)) (ha:kK E.G (dz (ey ops o) 0 s) args.toList av) (hd:a1++av++a2=ds.map .d) (hc:aq E f ds (· = r)):eL E ops o s h (.d r) h:=fun c a h1 h2 _ h4 j hj K Q hK=>by
 unfold wpOp;simp only[hj,hw c a.tmps h4,if_true];left;exact VY ho hf ha hd hc h1 h4 fun c' u k1 k2 k3 k4=>hK c' u k1 (k2.trans h2) k3 k4
end
def tg:Op->Bool
 | .box .. => false
 | .alloc .. => false
 | .store .. => false
 | .makeSlice .. => false
 | .makeMap .. => false
 | .mapUpdate .. => false
 | .call { callee := .builtin .append,.. }=>false
 |_=>true
def y5{α:Sort _}(keep:List Nat):Nat->List AV->(List AV->α)->α
 |_,[],k=>k []
 |i,x::s,k=>match lD i keep with
  |true=>y5 keep (i+1) s fun s'=>k (x::s')
  |false=>y5 keep (i+1) s fun s'=>k (.any::s')
theorem Nx{α:Sort _}(keep:List Nat):∀ (i:Nat) (s:List AV) (k:List AV->α),y5 keep i s k=k (dz keep i s)
 |_,[],_=>rfl
 |i,x::s,k=>by
  simp only[y5,dz];split<;>rename_i q<;>rw[Nx keep (i+1)]<;>simp only[q]
theorem VZ{T:List bA}{G:List (Nat × DV)}{o:Op}{s:List AV}{h:List ae}{stop:Prop}{K:AV->Prop}(ho:tg o=true)(H:kJ T G o s h stop (fun v _=>K v)):kJ T G o s h stop (fun v h'=>h'=h/\K v):=by
 cases o
 case box=>cases ho
 case alloc=>cases ho
 case store=>cases ho
 case unOp op t x=>cases op<;>simpa only[kJ,true_and]using H
 case call c =>
  obtain⟨callee,args,ts⟩:=c;cases callee with
  |builtin b=>cases b<;>simpa only[kJ,true_and]using H
  |_=>simpa only[kJ]using H
 all_goals simpa only[kJ,true_and]using H
theorem V0{T:List bA}{G:List (Nat × DV)}{o:Op}{s:List AV}{h:List ae}{stop:Prop}{K:AV->Prop}(ho:tg o=true)(H:sR T G o s h stop (fun v _=>K v)):sR T G o s h stop (fun v h'=>h'=h/\K v):=by
 cases o
 case store=>cases ho
 case makeSlice=>cases ho
 case slice t x lo hi mx=>cases mx<;>simpa only[sR,uB,true_and]using H
 case call c =>
  obtain⟨callee,args,ts⟩:=c;cases callee with
  |builtin b=>cases b<;>first|(simpa only[sR,uB]using H)|(simp[tg]at ho)
  |_=>simpa only[sR,uB]using H
 all_goals simpa only[sR,uB,true_and]using H
theorem V1{E:Env}{o:Op}{s:List AV}{h:List ae}{stop:Prop}{K:AV->Prop}(ho:tg o=true):yI E o s h stop (fun v h'=>h'=h/\K v)=yI E o s h stop (fun v _=>K v):=by
 unfold yI;split
 ·simp[tg]at ho
 ·simp only[true_and]
 ·simp only[true_and]
 ·simp[tg]at ho
 ·rfl
theorem V2{E:Env}{o:Op}{s:List AV}{h:List ae}{stop:Prop}{K:AV->Prop}(ho:tg o=true)(H:pF E o s h stop (fun v _=>K v)):pF E o s h stop (fun v h'=>h'=h/\K v):=by
 unfold pF at H ⊢;rw[V1 ho];have:=V0 ho H;have e:(fun v=>h=h/\K v)=K:=by funext v;simp
 rw[e];exact this
@[irreducible] def uZ (E : Env) (f : FuncId) (ds : List DV) (h : List ae) (K1 : DV -> Prop) (K2 : AV -> List ae -> Prop) : Prop :=
 (∃ r,aq E f ds (· = r)/\K1 r)\/∃ r h1,au E f [] (ds.map .d) (fun a b=>a=r/\b=h1)/\K2 (kl [] h r) (fV [] h h1)
theorem ax{E:Env}{f:FuncId}{ds:List DV}{h:List ae}{K1:DV->Prop}{K2:AV->List ae->Prop}{r:DV}(H:aq E f ds (· = r))(hk:K1 r):uZ E f ds h K1 K2:=by unfold uZ;exact .inl ⟨r,H,hk⟩
theorem Ny{E:Env}{f:FuncId}{ds:List DV}{h:List ae}{K1:DV->Prop}{K2:AV->List ae->Prop}{r:AV}{h1:List ae}{args:List AV}(hc:au E f [] args (fun a b=>a=r/\b=h1))(ha:args=ds.map .d)(hk:gK [] h r fun v=>kQ [] h h1 fun h'=>K2 v h'):uZ E f ds h K1 K2:=by
 unfold uZ;rw[oK,s7]at hk;exact .inr ⟨r,h1,ha ▸ hc,hk⟩
def wR(ro:Option Nat):Fence:={ Fence.wide with round:=ro }
theorem qx(a:Act)(d:Option Nat)(v:Value):(a.put d v).defers=a.defers:=by cases d<;>rfl
section
variable {P:Program} {ops:Array Oper} {Q:Exit->Act->World->Prop}
theorem va(hQ:∀ e a w,Q e a w->e=.normal/\a.defers=[]):∀ (l:List Nat) (a:Act) (w:World),wpOps P ops Q l a w->a.defers=[]
 |[],a,w,h=>(hQ _ _ _ h).2
 |i::l,a,w,h=>by
  simp only[wpOps]at h;split at h
  ·exact va hQ l a w h
  ·rename_i o ho;split at h
   ·rcases h with h|⟨_,a',w',h⟩
    ·unfold Oper.wp at h;generalize (execOp a.eval o).run P w=r at h;cases r with
     |ok n w' =>
      cases n with
      |value v=>have:=va hQ l _ _ h;rwa [qx]at this
      |skip=>have:=va hQ l _ _ h;rwa [qx]at this
      |defer d=>have:=va hQ l _ _ h;rw[qx]at this;cases this
      |enter f args =>
       obtain⟨e,Bu,fr,he,_⟩:=h [];cases e with
       |returned v=>have:=va hQ l _ _ he;rwa [qx]at this
       |panicked c=>have:=(hQ _ _ _ he).1;cases this
       |outgrown=>obtain⟨a',w',he⟩:=he;have:=(hQ _ _ _ he).1;cases this
      |row bG args =>
       obtain⟨v,Bu,he,_⟩:=h default [];have:=va hQ l _ _ he;rwa [qx]at this
      |_=>exact h.elim
     |halt x w'=>cases x with
      |panic v=>have:=(hQ _ _ _ h).1;cases this
      |_=>exact h.elim
    ·have:=(hQ _ _ _ h).1;cases this
   ·have:=va hQ l _ _ h;rwa [qx]at this
theorem Bv(ro:Option Nat)(df:List Deferred)(hQ:∀ e a w,Q e a w->e=.normal/\a.defers=[]):∀ (l:List Nat) (t:Array Value) (w:World),wpOps P ops Q l ⟨t,[]⟩ w ->
  wpOpsIn (wR ro) 0 P ops (fun e a w=>a.defers=df/\Q e ⟨a.tmps,[]⟩ w) l ⟨t,df⟩ w
 |[],t,w,h=>⟨rfl,h⟩
 |i::l,t,w,h=>by
  have next:∀ (d:Option Nat) (v:Value) (w:World),wpOps P ops Q l ((⟨t,[]⟩:Act).put d v) w->wpOpsIn (wR ro) 0 P ops (fun e a w=>a.defers=df/\Q e ⟨a.tmps,[]⟩ w) l ((⟨t,df⟩:Act).put d v) w:=fun d v w h=>by
   cases d with
   |none=>exact Bv ro df hQ l t w h
   |some d=>exact Bv ro df hQ l _ w h
  have V3:(⟨t,df⟩:Act).eval=(⟨t,[]⟩:Act).eval:=funext fun x=>by cases x<;>rfl
  simp only[wpOps]at h;simp only[wpOpsIn];cases ho:ops[i]? with
  |none=>rw[ho]at h;exact Bv ro df hQ l t w h
  |some o =>
   rw[ho]at h;simp only at h ⊢;by_cases hw:Region.wanted o (yielded ops t)=true
   ·rw[if_pos hw]at h ⊢;rcases h with h|⟨_,a',w',h⟩
    case inr=>have:=(hQ _ _ _ h).1;cases this
    refine⟨fun _ _=>trivial,?_⟩;rw[V3];unfold Oper.wp at h;cases hr:(execOp (⟨t,[]⟩:Act).eval o).run P w with
    |ok n w' =>
     rw[hr]at h;cases n with
     |value v=>rw[uy hr sP];exact next _ _ _ h
     |skip=>rw[uy hr sP];exact next _ _ _ h
     |defer d=>have:=va hQ l _ _ h;rw[qx]at this;cases this
     |enter f args =>
      rw[uy hr sP];refine⟨fun e=>by simp[wR,Fence.wide]at e,?_⟩;have h2:Calls P f args w' fun e Bu=>match e with
        | .returned v=>wpOpsIn (wR ro) 0 P ops (fun e a w=>a.defers=df/\Q e ⟨a.tmps,[]⟩ w) l ((⟨t,df⟩:Act).put o.dst v) Bu
        | .panicked chain=>df=df/\Q (.panic chain) ⟨t,[]⟩ Bu
        | .outgrown=>LetsOut (fun e a w=>a.defers=df/\Q e ⟨a.tmps,[]⟩ w):=Calls.mono h (fun e Bu he=>by
       cases e with
       |returned v=>exact next _ _ _ he
       |panicked c=>have:=(hQ _ _ _ he).1;cases this
       |outgrown=>obtain⟨a',w',he⟩:=he;have:=(hQ _ _ _ he).1;cases this)
      have h3:=callsIn_wide (n:=0).2 h2;refine⟨trivial,fun cs eE=>?_⟩;obtain⟨e,w2,fr,k1,k2,k3⟩:=h3.2 cs (room_wide _);refine⟨e,w2,fr,?_,k2,k3⟩;cases e<;>exact k1
     |row bG args =>
      rw[uy hr sP];refine⟨fun e=>by simp[wR,Fence.wide]at e,fun c cs _=>?_⟩;obtain⟨v,w2,k1,k2⟩:=h c cs;exact⟨v,w2,next _ _ _ k1,stepsIn_wide.2 k2⟩
     |_=>exact h.elim
    |halt x w' =>
     rw[hr]at h;cases x with
     |panic v=>have:=(hQ _ _ _ h).1;cases this
     |_=>exact h.elim
   ·rw[if_neg hw]at h ⊢;exact⟨fun _ _=>trivial,next _ _ _ h⟩
end
section
variable {E:Env} {ops:Array Oper} {aj:FuncId} {R:cT} {s:List AV} {h:List ae} {lits:List Nat}
theorem AW.V4{id:Nat}{k:List aY}(hm:E.P.follows .mixedOrders=true)
  (H:∀ (c:Cx) (t:Array Value) (Q:Exit->Act->World->Prop),(∀ (a:Act) (c':Cx) (s':List AV) (h':List ae),AW E R.fx.f0 ⟨⟨aj,R.fx.cI,R.fx.aS⟩,k,s'⟩ R.fx.cls h' R->aO E.G c'->c'.heap=h'->a.defers=[]->VS c' s' a.tmps->Step c c'->Q .normal a c'.w)->aO E.G c->c.heap=h->VS c s t->wpAny E.P .any ops Q ops.size (ai8 ops.size false) ⟨t,[]⟩ c.w) :
  AW E R.fx.f0 ⟨⟨aj,R.fx.cI,R.fx.aS⟩,.code (.region id ops true)::k,s⟩ R.fx.cls h R:=by
 unfold AW;intro c0 c t ts h0 h1 h2 h3 hr bz h4 h5 cs;have hx:Proofs.YtlhehdgciafakaaGreatDoor.Ext c.w { c.w with drawn:=c.w.drawn+1 }:=⟨rfl,rfl,rfl,ahL _,fun _ _=>rfl⟩;obtain⟨g1,g2⟩:=h3.grow hx
 let Q:Exit->Act->World->Prop:=fun e a w=>(e=.normal/\a.defers=[])/\∃ (c':Cx) (s':List AV) (h':List ae),AW E R.fx.f0 ⟨⟨aj,R.fx.cI,R.fx.aS⟩,k,s'⟩ R.fx.cls h' R/\aO E.G c'/\c'.heap=h'/\VS c' s' a.tmps/\Step c c'/\w=c'.w
 have H6:(Code.region id ops true).wpIn (wR R.fx.cI) 0 E.P (fun e a w=>a.defers=marks R.fx.aS/\Q e ⟨a.tmps,[]⟩ w) ⟨t,marks R.fx.aS⟩ c.w:=by
  refine wpIn_region_draw fun tt=>?_;simp only[Region.schedule,hm,ajZ,if_true];refine Bv R.fx.cI (marks R.fx.aS) (fun e a w he=>he.1) _ t _ (wpAny_sound ops.size tt _ _ _ ?_);exact H (c.fe { c.w with drawn:=c.w.drawn+1 }) t Q (fun a c' s' h' hK r1 r2 r3 r4 r5=>⟨⟨rfl,r3⟩,c',s',h',hK,r1,r2,r4,g2.trans r5,rfl⟩) g1 h2 (g2.vs h4)
 obtain⟨e,a',w',⟨hd,⟨⟨rfl,-⟩,c',s',h',hA,r1,r2,r4,r5,rfl⟩⟩,H7⟩:=H6 (bf ⟨aj,R.fx.cI,R.fx.aS⟩) (k.map aY.bO) (fG R.fx.cls ts++cs) rfl trivial (fun d hd=>by cases hd);unfold AW at hA;obtain⟨c2,fr,r,v,q1,q2,q3,wu,q4,q5,q6⟩:=hA c0 c' a'.tmps ts h0 (eV h1) r2 r1 (hr.step r5) (bz.step h3 r5) r4 (r5.cr h5) cs;refine⟨c2,fr,r,v,q1,q2,q3,wu,?_,q5,q6⟩;have A8:a'=⟨a'.tmps,marks R.fx.aS⟩:=by cases a';simp only at hd;subst hd;rfl
 have:Steps E.P (lone ((bf ⟨aj,R.fx.cI,R.fx.aS⟩).atR ⟨t,marks R.fx.aS⟩ (.code (.region id ops true)::k.map aY.bO)) (fG R.fx.cls ts++cs) c.w) (lone ((bf ⟨aj,R.fx.cI,R.fx.aS⟩).atR a' (k.map aY.bO)) (fG R.fx.cls ts++cs) c'.w):=StepsIn.steps H7;rw[A8]at this;exact this.trans q4
end
section
variable {E:Env} {ops:Array Oper} {ab:List Nat} {h:List ae} {c:Cx}
theorem VS.Bw{s:List AV}{t:Array Value}{H:List ae}(hv:VS c s t)(hh:c.heap=H)(hs:∀ j∈ab,H[j]?=h[j]?):VS (c.fz ab) (s.map (ic ab h)) t:=by
 subst hh;refine⟨by rw[aiO];exact hv.1,fun i x v hx hu=>?_⟩;rw[ahy]at hx;cases hy:s[i]? with
 |none=>rw[hy]at hx;cases hx
 |some y =>
  rw[hy]at hx;cases hx;rw[<- MP hs];exact MC (hv.2 i y v hy hu)
structure Seen(ab:List Nat)(h h1 H:List ae):Prop where
 nodup:ab.Nodup
 lt:∀ j∈ab,j<h.length
 len:h.length+(h1.length-ab.length)<=H.length
 same:∀ j∈ab,H[j]?=h[j]?
 new:∀ j∈eG ab h h1,H[j]?=some .hole
theorem eL.Bw{o:Oper}{s:List AV}{H h1:List ae}{v:AV}(hw:jm ops o (dz (ey ops o) 0 s) true)(ho:bE E o.op ((dz (ey ops o) 0 s).map (ic ab h)) (fk ab h) v h1)(hs:Seen ab h h1 H):eL E ops o s H (kl ab h v) (ig (ab++eG ab h h1) (fV ab h h1) H):=fun c a k1 h2 _ h4 j hj K Q hK=>by
 obtain⟨c1,u,d1,rfl,k3,r1,st⟩:=ho o (c.fz ab) a rfl (by rw[<- Hr hs.same,<- h2];rfl) (k1.fz hs.nodup) (h4.Bw h2 hs.same);subst h2;have hb:mV c c1 ab h:=⟨hs.nodup,hs.lt,hs.len,hs.same,hs.new,(Rel.refl _ Vs).step st,fun i b n hi=>(k3.bD i b n hi).2⟩;have:=hK (c.take c1 ab h) u (k1.take k3 hb) rfl (Dn k1 hb) (Ho k1 hb r1);unfold wpOp;simp only[hj,hw c a.tmps h4,if_true];left;unfold Oper.wp;rcases d1 with d1|⟨d1,rfl⟩
 ·rw[show c.w=(c.fz ab).w from rfl,d1];exact this
 ·rw[show c.w=(c.fz ab).w from rfl,d1];exact this
theorem eL.H8{o:Oper}{s:List AV}{H h1:List ae}{fx:Operand}{args:Array Operand}{ts:Array TypeId}{f:FuncId}{a1 a2 av:List AV}{r:AV}(hw:jm ops o (dz (ey ops o) 0 s) true)(ho:o.op=.call { callee := .value fx,args:=args,argTypes:=ts })
  (hf:bk E.G (dz (ey ops o) 0 s) fx (.fn (.func f) a1 a2)) (ha:kK E.G (dz (ey ops o) 0 s) args.toList av) (hc:au E f (fk ab h) ((a1++av++a2).map (ic ab h)) (fun a b=>a=r/\b=h1)) (hs:Seen ab h h1 H):eL E ops o s H (kl ab h r) (ig (ab++eG ab h h1) (fV ab h h1) H):=fun c a k1 h2 _ h4 j hj K Q hK=>by
 unfold wpOp;simp only[hj,hw c a.tmps h4,if_true];left;obtain⟨v1,v2,e1,e2,e3⟩:=mP (hf c a k1 h4);have e5:=(e2.append (ha c a k1 h4)).append e3;have hb:mc E.P f:=by unfold au at hc;exact hc.1
 subst h2;have iZ:=hc.Vv (c:=c) hs.nodup hs.lt hs.same (fun r' h' ⟨_,q⟩=>by subst q;exact⟨hs.len,hs.new⟩) k1 e5;have cL:=AA (P:=E.P) (w:=c.w) (a:=a) ho e1 hb;have kg:(v1.toArray++args.map a.eval++v2.toArray)=(v1++args.toList.map a.eval++v2).toArray:=by
  apply aiY;simp
 rw[kg]at cL;unfold Oper.wp;rw[cL,Oper.upon_enter];refine iZ.mono fun e w' he=>?_;obtain⟨c',r',sU,v,rfl,rfl,⟨rfl,rfl⟩,q1,q2,q3,q4⟩:=he;exact hK c' v q3 q1 q4 q2
def y6(x y:AV):Bool:=match y with
 | .any=>match x with
  | .any=>true
  |_=>false
 |_=>true
def Bx{β:Type}(f:β->Bool):List β->Bool
 |[]=>true
 |a::l=>match f a with
  |true=>Bx f l
  |false=>false
theorem H9{β:Type}{f:β->Bool}:∀ {l:List β},Bx f l=true->∀ x∈l,f x=true
 |[],_,_,h=>by simp at h
 |a::l,H,x,h=>by
  unfold Bx at H;split at H
  ·rename_i q;rcases ai3.1 h with rfl|h
   ·exact q
   ·exact H9 H x h
  ·cases H
def y7(ab:List Nat)(h:List ae):Bool:=Bx (fun j=>match eB h j with
 |some (.cells cs)=>Bx (fun x=>y6 x (iN ab h x)) cs
 |_=>true) ab
theorem V5{x:AV}(H:y6 x (iN ab h x)=true):mg ab h (iN ab h x)=x:=by
 have ri:∀ {j i:Nat},dI ab j=some i->ie ab h i=j/\pG ab h i=oH h j:=fun hi=>by simp only[ie,pG,ff,lA hi,and_self]
 cases x;all_goals (try (simp only[iN]at H ⊢))
 all_goals first
  |rfl
  |(simp only[y6]at H;cases H;done)
  |(split at H
    · rename_i hi;split at H
      · rename_i hb;first
          |(split at H
            · rename_i q;have := ahu q;simp only[mg, ri hi, oH, hb, this, ah3]
            · simp only[y6]at H;cases H)
          |simp only[mg, ri hi]
      · simp only[y6]at H;cases H
    · simp only[y6]at H;cases H)
theorem Nz(hc:y7 ab h=true):fV ab h (fk ab h)=h:=by
 refine aik fun j=>?_;rcases ahs j h.length with hl|hl
 ·cases hx:dI ab j with
  |none=>exact Hi hl hx
  |some i =>
   have hj:h[j]?=some h[j]:=aiX hl;rw[Mz hl hx (uH (lA hx) hj),hj];have hq:=H9 hc j (aiQ (lA hx));simp only[ff,hj]at hq;cases hb:h[j]with
   |cells cs =>
    rw[hb]at hq;have:(cs.map (iN ab h)).map (mg ab h)=cs:=by
     rw[ajR];exact(List.map_congr_left fun x hx=>V5 (H9 hq x hx)).trans (List.map_id _)
    simp only[qp,nK,this]
   |arr g ts l=>simp only[qp,nK,oH,ff,hj,hb,ah3]
   |map es=>rfl
   |gone=>rfl
   |hole=>rfl
 ·rw[aht hl,aht (by rw[uG];simp[fk];exact hl)]
end
def nL(h:List ae)(b:Nat):Option ae:=if b<h.length then h[b]? else some .hole
structure th(E:Env)(ops:Array Oper)(o:Oper)(s:List AV)(h:List ae)(v:AV)(h':List ae)(t w:List Nat):Prop where
 len:h.length<=h'.length
 old:∀ b,b<h.length->b ∉ w->h'[b]?=h[b]?
 new:∀ b,h.length<=b->b<h'.length->b∈w
 sub:∀ b∈w,b∈t
 lt:∀ b∈t,b<h'.length
 act:∀ H:List ae,h'.length<=H.length->(∀ b∈t,H[b]?=nL h b)->eL E ops o s H v (ig w h' H)
section
variable {E:Env} {ops:Array Oper} {o:Oper} {s:List AV} {h:List ae} {v:AV}
theorem th.same{t:List Nat}(hl:∀ b∈t,b<h.length)(H:∀ H:List ae,h.length<=H.length->(∀ b∈t,H[b]?=h[b]?)->eL E ops o s H v H):th E ops o s h v h t [] where
 len:=ahL _
 old:=fun _ _ _=>rfl
 new:=fun b h1 h2=>by omega
 sub:=fun b h=>by simp at h
 lt:=hl
 act:=fun X h1 h2=>by
  rw[show ig [] h X=X from aik fun j=>rv sP];exact H X h1 fun b hb=>by rw[h2 b hb,nL,if_pos (hl b hb)]
theorem NA{ab:List Nat}{h1 H:List ae}(hn:ab.Nodup)(ai:∀ j∈ab,j<h.length)(h2:(fV ab h h1).length<=H.length)(h3:∀ b∈ab++eG ab h h1,H[b]?=nL h b):Seen ab h h1 H :=
 ⟨hn,ai,by rwa [uG]at h2,fun j hj=>by rw[h3 j (ajL _ hj),nL,if_pos (ai j hj)],fun j hj=>by rw[h3 j (ajM _ hj),nL,if_neg (by have:=qs.1 hj;omega)]⟩
theorem th.of{ab:List Nat}{h1:List ae}(hn:ab.Nodup)(ai:∀ j∈ab,j<h.length)(H:∀ H,Seen ab h h1 H->eL E ops o s H v (ig (ab++eG ab h h1) (fV ab h h1) H)):th E ops o s h v (fV ab h h1) (ab++eG ab h h1) (ab++eG ab h h1) where
 len:=by rw[uG];omega
 old:=fun b hb hm=>Hi hb (by
  cases hx:dI ab b with
  |none=>rfl
  |some i=>exact absurd (ajL _ (aiQ (lA hx))) hm)
 new:=fun b h2 h3=>ajM _ (qs.2 ⟨h2,by rwa [uG]at h3⟩)
 sub:=fun _ h=>h
 lt:=fun b hb=>by
  rw[uG];rcases List.mem_append.1 hb with h|h
  ·have:=ai b h;omega
  ·exact(qs.1 h).2
 act:=fun X h2 h3=>H X (NA hn ai h2 h3)
theorem th.read{ab:List Nat}(hn:ab.Nodup)(ai:∀ j∈ab,j<h.length)(hc:y7 ab h=true)(H:∀ H,Seen ab h (fk ab h) H->eL E ops o s H v (ig (ab++eG ab h (fk ab h)) (fV ab h (fk ab h)) H)):th E ops o s h v h ab []:=by
 have e:eG ab h (fk ab h)=[]:=by simp[eG,fk]
 refine .same ai fun X h1 h2=>?_;have:=H X (NA hn ai (by rw[Nz hc];exact h1) (fun b hb=>by rw[e,aj0]at hb;rw[h2 b hb,nL,if_pos (ai b hb)]));rw[e,aj0,Nz hc]at this
 rwa [show ig ab h X=X from aik fun j=>by
  by_cases hj:j∈ab
  ·rw[A3 hj (by have:=ai j hj;omega) (aiX (ai j hj)),h2 j hj,aiX (ai j hj)]
  ·exact rv hj]at this
end
def qy:List Nat->List Nat->Bool
 |[],_=>false
 |a::l,m=>match wG a m with
  |true=>true
  |false=>qy l m
theorem DS:∀ {l m:List Nat},qy l m=true↔∃ b,b∈l/\b∈m
 |[],m=>by simp[qy]
 |a::l,m=>by
  simp only[qy];split
  ·rename_i q;simp[Dv.1 q]
  ·rename_i q;rw[DS];have:a ∉ m:=fun h=>by rw[Dv.2 h]at q;cases q
   simp[this]
abbrev ja:=List Nat × List Nat
def y8(a b:ja):Prop:=(∃ x,x∈a.2/\x∈b.1)\/∃ x,x∈b.2/\x∈a.1
def nM(j:Nat)(t w:List Nat):List (Nat × ja)->List (Nat × Nat)->List (Nat × Nat)
 |[],bo=>bo
 |(i,t',w')::r,bo=>match qy w' t with
  |true=>nM j t w r ((i,j)::bo)
  |false=>match qy w t' with
   |true=>nM j t w r ((i,j)::bo)
   |false=>nM j t w r bo
def fp(j:Nat)(t w:List Nat):List (Nat × ja)->List (Nat × Nat)->(List (Nat × Nat)->Prop)->Prop
 |[],bo,k=>k bo
 |(i,t',w')::r,bo,k=>match qy w' t with
  |true=>fp j t w r ((i,j)::bo) k
  |false=>match qy w t' with
   |true=>fp j t w r ((i,j)::bo) k
   |false=>fp j t w r bo k
theorem oP{j:Nat}{t w:List Nat}:∀ {acc:List (Nat × ja)} {bo:List (Nat × Nat)} {k:List (Nat × Nat)->Prop},fp j t w acc bo k=k (nM j t w acc bo)
 |[],_,_=>rfl
 |(i,t',w')::r,bo,k=>by
  simp only[fp,nM];split
  ·exact oP
  ·split<;>exact oP
theorem Ia{j:Nat}{t w:List Nat}{P:Nat->Nat->Prop}:∀ {acc:List (Nat × ja)} {bo:List (Nat × Nat)},(∀ p∈nM j t w acc bo,P p.1 p.2)->(∀ p∈bo,P p.1 p.2)/\∀ x∈acc,y8 x.2 (t,w)->P x.1 j
 |[],bo,H=>⟨H,fun x hx=>by simp at hx⟩
 |(i,t',w')::r,bo,H=>by
  simp only[nM]at H;have yes:(∀ p∈nM j t w r ((i,j)::bo),P p.1 p.2)->(∀ p∈bo,P p.1 p.2)/\∀ x∈(i,t',w')::r,y8 x.2 (t,w)->P x.1 j:=fun H=>by
   obtain⟨h1,h2⟩:=Ia H;exact⟨fun p hp=>h1 p (aip _ hp),fun x hx hc=>(ai3.1 hx).elim (fun e=>by subst e;exact h1 (i,j) (aio ..)) fun h=>h2 x h hc⟩
  split at H
  ·exact yes H
  ·rename_i q1;split at H
   ·exact yes H
   ·rename_i q2;obtain⟨h1,h2⟩:=Ia H;refine⟨h1,fun x hx hc=>(ai3.1 hx).elim (fun e=>?_) fun h=>h2 x h hc⟩;subst e;rcases hc with hc|hc
    ·rw[DS.2 hc]at q1;cases q1
    ·rw[DS.2 hc]at q2;cases q2
def eI(j:Nat)(t w:List Nat)(acc:List (Nat × ja)):List (Nat × ja):=match t with
 |[]=>acc
 |_::_=>(j,t,w)::acc
def jt(E:Env)(ops:Array Oper)(K:List AV->List ae->Prop):Nat->List Oper->List (Nat × ja)->List (Nat × Nat)->List AV->List ae->Prop
 |_,[],_,bo,s,h=>(∀ p∈bo,kS ops p.1 p.2)/\K s h
 |j,o::l,acc,bo,s,h=>∃ v h' t w,th E ops o s h v h' t w/\jt E ops K (j+1) l (eI j t w acc) (nM j t w acc bo) (cg s o.dst v) h'
section
variable {E:Env} {ops:Array Oper}
theorem jt.lay{K:List AV->List ae->Prop}:∀ {l:List Oper} {j:Nat} {acc:List (Nat × ja)} {bo:List (Nat × Nat)} {s:List AV} {h:List ae},jt E ops K j l acc bo s h ->
  ∃ (pl:List (Oper × AV)) (hp:Nat->List ae) (tw:Nat->ja),pl.map (·.1)=l/\hp 0=h/\K (cur pl (fun k=>decide (k<pl.length)) 0 s) (hp pl.length)/\(∀ p∈bo,kS ops p.1 p.2) /\
   (∀ k o v,pl[k]?=some (o,v)->th E ops o (cur pl (fun i=>decide (i<k)) 0 s) (hp k) v (hp (k+1)) (tw k).1 (tw k).2) /\
   (∀ x∈acc,∀ k,k<pl.length->y8 x.2 (tw k)->kS ops x.1 (j+k))/\(∀ i k,i<k->k<pl.length->y8 (tw i) (tw k)->kS ops (j+i) (j+k))/\h.length<=(hp pl.length).length
 |[],j,acc,bo,s,h,H=>⟨[],fun _=>h,fun _=>([],[]),rfl,rfl,H.2,H.1,fun k o v hk=>by simp at hk,fun x _ k hk=>by simp at hk,fun i k _ hk=>by simp at hk,ahL _⟩
 |o::l,j,acc,bo,s,h,H=>by
  obtain⟨v,h',t,w,hf,H⟩:=H;obtain⟨pl,hp,tw,k1,k2,k3,k4,k5,k6,k7,k9⟩:=jt.lay H;obtain⟨k4,k8⟩:=Ia (P:=kS ops) k4;have shift:∀ (pl:List (Oper × AV)) (n:Nat) (s:List AV),cur pl (fun k=>decide (k<n+1)) (0+1) s=cur pl (fun k=>decide (k<n)) 0 s:=fun pl n s=>by
   rw[DQ 1]
   congr 1
   funext k;simp
  have mono:∀ x∈acc,x∈eI j t w acc:=fun x hx=>by unfold eI;split;exact hx;exact aip _ hx
  refine⟨(o,v)::pl,fun n=>match n with|0=>h|n+1=>hp n,fun n=>match n with|0=>(t,w)|n+1=>tw n,by simp[k1],rfl,?_,k4,fun k o' v' hk=>?_,fun x hx k hk hc=>?_,fun i k gM hk hc=>?_,aic hf.len k9⟩
  ·rw[cur];simp only[List.length_cons,aj1,decide_true,if_true];rw[shift];exact k3
  ·cases k with
   |zero =>
    simp at hk;obtain⟨rfl,rfl⟩:=hk;rw[tf _ _ _ _ (fun k _=>decide_eq_false oM)];simp only[k2];exact hf
   |succ k =>
    have:=k5 k o' v' (zD hk);rw[cur];simp only[aj1,decide_true,if_true];rw[shift];exact this
  ·cases k with
   |zero=>exact k8 x hx hc
   |succ k=>have:=k6 x (mono x hx) k (zD hk) hc;rwa [show j+1+k=j+(k+1) by omega]at this
  ·cases k with
   |zero=>omega
   |succ k =>
    have lx:k<pl.length:=zD hk
    cases i with
    |zero =>
     refine(?_:kS ops j (j+(k+1)));have hm:(j,t,w)∈eI j t w acc:=by
      unfold eI;split
      ·rcases hc with⟨x,hx,-⟩|⟨x,-,hx⟩
       ·exact absurd (hf.sub x hx) sP
       ·exact absurd hx sP
      ·exact aio ..
     have:=k6 _ hm k lx hc
     rwa [show j+1+k=j+(k+1) by omega]at this
    |succ i=>have:=k7 i k oM lx hc;rwa [show j+1+i=j+(i+1) by omega,show j+1+k=j+(k+1) by omega]at this
def km(w:Nat->List Nat)(hp:Nat->List ae)(L:Nat->Bool)(H:List ae):Nat->List ae
 |0=>H
 |n+1=>if L n then ig (w n) (hp (n+1)) (km w hp L H n)else km w hp L H n
variable {w:Nat->List Nat} {hp:Nat->List ae} {L L':Nat->Bool} {H:List ae}
theorem By:∀ n,(km w hp L H n).length=H.length
 |0=>rfl
 |n+1=>by
  rw[km];split
  ·rw[MA,By n]
  ·exact By n
theorem Ib{b:Nat}:∀ n,(∀ i,i<n->b∈w i->L i=L' i)->(km w hp L H n)[b]?=(km w hp L' H n)[b]?
 |0,_=>rfl
 |n+1,h=>by
  have ih:=Ib n (fun i hi=>h i oM);rw[km,km];by_cases hb:b∈w n
  ·rw[h n oM hb];split
   ·rw[s4,s4,ih]
   ·exact ih
  ·have e:∀ (q:Bool) (X:List ae),(if q then ig (w n) (hp (n+1)) X else X)[b]?=X[b]? := fun q X=>by
    cases q
    ·rfl
    ·exact rv hb
   rw[e,e];exact ih
theorem Ic{j:Nat}(h:∀ i,j<=i->L i=false):∀ n,j<=n->km w hp L H n=km w hp L H j
 |0,hn=>by rw[show j=0 by omega]
 |n+1,hn=>by
  rcases ahs n j with hl|hl
  ·rw[show j=n+1 by omega]
  ·rw[km,h n hl];exact Ic h n hl
theorem V6{a b:List Nat}{x y z:List ae}(h:∀ i∈a,i ∉ b):ig a x (ig b y z)=ig b y (ig a x z):=by
 refine aik fun j=>?_;by_cases ha:j∈a
 ·rw[s4,rv (h j ha),rv (h j ha),s4]
 ·rw[rv ha,s4,s4,rv ha]
theorem NB{j:Nat}(hj:L j=false)(fh:L' j=true)(ho:∀ i,i≠j->L' i=L i)(hc:∀ i,j<i->L i=true->∀ b∈w j,b ∉ w i):∀ n,j<n->ig (w j) (hp (j+1)) (km w hp L H n)=km w hp L' H n
 |0,h=>by omega
 |n+1,h=>by
  rw[km,km];rcases ahs j n with hl|hl
  ·rw[ho n oM,<- NB hj fh ho hc n hl];split
   ·rename_i q;exact V6 (hc n hl q)
   ·rfl
  ·obtain rfl:j=n:=by omega
   rw[hj,fh];simp only[ah0,if_false,if_true]
   congr 1
   exact aik fun b=>Ib j fun i hi _=>(ho i oM).symm
theorem Ie{t:Nat->List Nat}{m:Nat}(h0:∀ b,b<H.length->H[b]?=nL (hp 0) b)(hlen:∀ k,k<m->(hp k).length<=(hp (k+1)).length/\(∀ b,b<(hp k).length->b ∉ w k->(hp (k+1))[b]?=(hp k)[b]?)/\(∀ b,(hp k).length<=b->b<(hp (k+1)).length->b∈w k)/\(∀ b∈w k,b∈t k)/\∀ b∈t k,b<(hp (k+1)).length)(hL:∀ i,i<m->L i=true) :
  ∀ n,n<=m->∀ b,b<H.length->(km w hp L H n)[b]?=nL (hp n) b
 |0,_,b,hb=>h0 b hb
 |n+1,hn,b,hb=>by
  have ih:=Ie h0 hlen hL n oM b hb;obtain⟨h1,h2,h3,h4,h5⟩:=hlen n oM;rw[km,hL n oM,if_pos rfl];by_cases hm:b∈w n
  ·have hl:=h5 b (h4 b hm);rw[A3 hm (by rw[By];exact hb) (aiX hl),nL,if_pos hl,aiX hl]
  ·rw[rv hm,ih];unfold nL;by_cases hl:b<(hp n).length
   ·rw[if_pos hl,if_pos oM,h2 b hl hm]
   ·rw[if_neg hl,if_neg (fun h=>hm (h3 b oM h))]
theorem V7(hc:DN ops){s0:List AV}{pl:List (Oper × AV)}{hp:Nat->List ae}{tw:Nat->ja}(fF:pl.map (·.1)=ops.toList)
  (hx:∀ k o v,pl[k]?=some (o,v)->th E ops o (cur pl (fun i=>decide (i<k)) 0 s0) (hp k) v (hp (k+1)) (tw k).1 (tw k).2) (dR:∀ i k,i<k->k<pl.length->y8 (tw i) (tw k)->kS ops i k)
  {H:List ae} (hH:H.length=(hp pl.length).length) (h0:∀ b,b<H.length->H[b]?=nL (hp 0) b)
  {Q:Exit->Act->World->Prop} {Kf:List AV->List ae->Prop} {c0:Cx} (iE:Kf (cur pl (fun k=>decide (k<pl.length)) 0 s0) (hp pl.length))
  (hQ:∀ (a:Act) (c:Cx) (s:List AV) (h:List ae),Kf s h->aO E.G c->c.heap=h->a.defers=[]->VS c s a.tmps->Step c0 c->Q .normal a c.w) :
  ∀ (f:Nat) (listed:Array Bool) (a:Act) (c:Cx),aO E.G c->c.heap=km (fun k=>(tw k).2) hp (bY listed) H ops.size->a.defers=[]->VS c (cur pl (bY listed) 0 s0) a.tmps->Step c0 c->DC ops listed ->
   (∀ i,ops.size<=i->bY listed i=false)->kT (bY listed) ops.size<=f->wpAny E.P .any ops Q f listed a c.w:=by
 obtain⟨hlen,cZ⟩:=Nv fF;have Bz:∀ k,k<ops.size->∃ o v,pl[k]?=some (o,v):=fun k hk=>⟨(pl[k]' oM).1,(pl[k]' oM).2,by rw[aiX]⟩;have pJ:∀ k,k<ops.size->(hp k).length<=(hp (k+1)).length/\(∀ b,b<(hp k).length->b ∉ (tw k).2->(hp (k+1))[b]?=(hp k)[b]?)/\(∀ b,(hp k).length<=b->b<(hp (k+1)).length->b∈(tw k).2)/\(∀ b∈(tw k).2,b∈(tw k).1)/\∀ b∈(tw k).1,b<(hp (k+1)).length:=fun k hk=>by
  obtain⟨o,v,h⟩:=Bz k hk;have:=hx k o v h;exact⟨this.len,this.old,this.new,this.sub,this.lt⟩
 have V8:∀ n,n<=ops.size->∀ d,d<=n->(hp (n-d)).length<=(hp n).length:=by
  intro n hn d
  induction d with
  |zero=>intro _;exact ahL _
  |succ d ih =>
   intro hd;have h1:=(pJ (n-(d+1)) oM).1;rw[show n-(d+1)+1=n-d by omega]at h1;exact aic h1 (ih oM)
 have hle:∀ k,k<=ops.size->(hp k).length<=H.length:=fun k hk=>by
  have:=V8 ops.size (ahL _) (ops.size-k) oM;rw[show ops.size-(ops.size-k)=k by omega]at this;rw[hH,hlen];exact this
 have done:∀ (listed:Array Bool) (a:Act) (c:Cx),aO E.G c->c.heap=km (fun k=>(tw k).2) hp (bY listed) H ops.size->a.defers=[]->VS c (cur pl (bY listed) 0 s0) a.tmps->Step c0 c->(∀ i,ops.size<=i->bY listed i=false)->(∀ i,i<ops.size->bY listed i=true)->Q .normal a c.w:=by
  intro listed a c h1 h2 h3 h4 h5 ho aM;have e:cur pl (bY listed) 0 s0=cur pl (fun k=>decide (k<pl.length)) 0 s0:=by
   congr 1
   funext i;rcases ahs i ops.size with h|h
   ·rw[aM i h];simp[hlen,h]
   ·rw[ho i h];simp[hlen];omega
  rw[e]at h4;refine hQ a c _ _ iE h1 (h2.trans ?_) h3 h4 h5;refine aik fun b=>?_;rcases ahs b H.length with hb|hb
  ·rw[Ie h0 pJ aM ops.size (ahL _) b hb,hlen,nL,if_pos (by rw[<- hlen,<- hH];exact hb)]
  ·rw[aht (by rw[By];exact hb),aht oM]
 intro f
 induction f with
 |zero =>
  intro listed a c h1 h2 h3 h4 h5 hd ho oQ;have aM:∀ i,i<ops.size->bY listed i=true:=fun i hi=>H5 oQ hi;refine⟨?_,done listed a c h1 h2 h3 h4 h5 ho aM⟩;apply List.eq_nil_iff_forall_not_mem.2;intro i hi;obtain⟨k1,k2⟩:=wQ hd hi;rw[aM i k2]at k1;cases k1
 |succ f ih =>
  intro listed a c h1 h2 h3 h4 h5 hd ho oQ;refine⟨fun hr=>?_,fun i hi=>?_⟩
  ·refine done listed a c h1 h2 h3 h4 h5 ho (fun i hi=>?_);cases hl:bY listed i with
   |true=>rfl
   |false =>
    obtain⟨k,-,hk⟩:=HX hc hd hi hl;rw[hr]at hk;cases hk
  obtain⟨mX,fX⟩:=wQ hd hi;obtain⟨o,v,kU⟩:=Bz i fX;have nG:=cZ i o v kU;obtain⟨y9,zb⟩:=H3 hc.pair cZ hd hi kU h4;have eH:=fun q=>HW (i:=q) (show i<listed.size by rw[hd.1];exact fX);have zc:kT (bY (listed.setIfInBounds i true)) ops.size<=f:=by
   have:=(HY (L:=bY listed) (L':=bY (listed.setIfInBounds i true)) (j:=i) (fun q hq=>by rw[eH];simp[hq]) mX (by rw[eH];simp) ops.size).1 fX;omega
  have hF:=hx i o v kU;have later:∀ k,i<k->bY listed k=true->¬ y8 (tw i) (tw k):=fun k hk hl oO=>by
   have Dl:k<ops.size:=Nat.lt_of_not_le fun h=>by rw[ho k h]at hl;cases hl
   rw[hd.dep (dR i k hk oM oO) hl]at mX;cases mX
  have agree:∀ b∈(tw i).1,(c.heap)[b]?=nL (hp i) b:=fun b hb=>by
   have fE:b<H.length:=Nat.lt_of_lt_of_le (hF.lt b hb) (hle (i+1) fX);rw[h2,<- Ie (L:=fun k=>decide (k<i)) h0 (fun k hk=>pJ k oM) (fun k hk=>by simp[hk]) i (ahL i) b fE,<- Ic (L:=fun k=>decide (k<i)) (fun k hk=>by simp;omega) ops.size (Nat.le_of_lt fX)];refine Ib _ fun k hk hw=>?_;rcases ajV k i with ai|rfl|wy
   ·rw[hd.ready hi (dR k i ai oM (.inl ⟨b,hw,hb⟩))];simp[ai]
   ·rw[mX];simp
   ·have:bY listed k=false:=by
     cases hl:bY listed k with
     |false=>rfl
     |true=>exact absurd (.inr ⟨b,hw,hb⟩) (later k wy hl)
    rw[this];simp;omega
  refine hF.act c.heap (by rw[h2,By];exact hle (i+1) fX) agree c a h1 rfl h3 zb i nG _ _ (fun c' u k1 k2 k3 k4=>?_);refine ih _ _ c' k1 ?_ (by rw[qx];exact h3) (y9 c' u (fun _ _=>k3.vr) k4) (h5.trans k3) (hd.set hi) (fun q hq=>by rw[eH,ho q hq];simp;omega) zc;rw[k2,h2];exact NB (w:=fun k=>(tw k).2) mX (by rw[eH];simp) (fun q hq=>by rw[eH];simp[hq]) (fun k hk hl b hb cB=>later k hk hl (.inr ⟨b,cB,hF.sub b hb⟩)) ops.size fX
end
@[irreducible] def bU (E : Env) (aj : FuncId) (R : cT) (ops : Array Oper) (k : List aY) (VC : List Nat) (j : Nat) (gN : List Oper) (acc : List (Nat × ja)) (bo : List (Nat × Nat)) (s : List AV) (h : List ae) : Prop :=
 jt E ops (fun s2 h2=>I E aj R [] k s2 h2) j gN acc bo s h
@[irreducible] def ze (E : Env) (f : FuncId) (h0 : List ae) (args : List AV) (K1 : AV -> List ae -> Prop) (K2 : AV -> Prop) : Prop :=
 (∃ r h1,au E f h0 args (fun a b=>a=r/\b=h1)/\K1 r h1)\/∃ r,au E f h0 args (fun a b=>a=r/\b=h0)/\K2 r
theorem wS{E:Env}{f:FuncId}{h0:List ae}{args:List AV}{K1:AV->List ae->Prop}{K2:AV->Prop}{r:AV}{h1:List ae}(H:au E f h0 args (fun a b=>a=r/\b=h1))(hk:K1 r h1):ze E f h0 args K1 K2:=by unfold ze;exact .inl ⟨r,h1,H,hk⟩
theorem lH{E:Env}{f:FuncId}{h0:List ae}{args:List AV}{K1:AV->List ae->Prop}{K2:AV->Prop}{r:AV}(H:au E f h0 args (fun a b=>a=r/\b=h0))(hk:K2 r):ze E f h0 args K1 K2:=by unfold ze;exact .inr ⟨r,H,hk⟩
def DT:Nat->Nat->(List Nat->Prop)->Prop
 |_,0,k=>k []
 |n,m+1,k=>DT (n+1) m fun l=>k (n::l)
theorem NC:∀ {m n:Nat} {k:List Nat->Prop},DT n m k=k (List.range' n m)
 |0,_,_=>rfl
 |m+1,n,k=>by rw[DT,NC];rfl
def lI(ab:List Nat)(h h':List ae)(k:List Nat->Prop):Prop:=qu h 0 fun n=>qu h' 0 fun m=>DT n (m-n) fun l=>uL ab l k
theorem wT{ab:List Nat}{h h1:List ae}{k:List Nat->Prop}:lI ab h (fV ab h h1) k=k (ab++eG ab h h1):=by
 simp only[lI,wE,ahB,NC,yN,eG,uG,Nat.add_sub_cancel_left]
def BA(E:Env)(f:FuncId)(jr:List AV)(h:List ae)(stop:Prop)(k1:List Nat->AV->List ae->Prop)(k2:List Nat->AV->Prop):Prop :=
 s8 h jr [] fun Be=>uP h 20 0 Be fun ab=>qu h 0 fun n=>match yQ n ab with
  |true=>Bc ab h fun h0=>kP (Bb ab h) jr fun HB=>ze E f h0 HB (fun r h1=>gK ab h r fun v=>kQ ab h h1 fun h'=>lI ab h h' fun ws=>k1 ws v h') fun r=>y7 ab h=true/\gK ab h r fun v=>k2 ab v
  |false=>stop
theorem V9{E:Env}{f:FuncId}{jr:List AV}{h:List ae}{stop:Prop}{k1:List Nat->AV->List ae->Prop}{k2:List Nat->AV->Prop}(H:BA E f jr h stop k1 k2):stop\/∃ (ab:List Nat),ab.Nodup/\(∀ j∈ab,j<h.length) /\
  ((∃ r h1,au E f (fk ab h) (jr.map (ic ab h)) (fun a b=>a=r/\b=h1)/\k1 (ab++eG ab h h1) (kl ab h r) (fV ab h h1))\/∃ r,au E f (fk ab h) (jr.map (ic ab h)) (fun a b=>a=r/\b=fk ab h)/\y7 ab h=true/\k2 ab (kl ab h r)):=by
 unfold BA at H;obtain⟨s0,H⟩:=wI H;obtain⟨ab,H⟩:=yT H;rw[wE,ahB]at H;split at H
 ·rename_i q;obtain⟨h1,h2⟩:=Dw q;rw[Hz,ry (Hv ab h)]at H;unfold ze at H;refine .inr ⟨ab,h1,h2,?_⟩;rcases H with⟨r,hp,h3,h4⟩|⟨r,h3,h4,h5⟩
  ·rw[oK,s7,wT]at h4;exact .inl ⟨r,hp,h3,h4⟩
  ·rw[oK]at h5;exact .inr ⟨r,h3,h4,h5⟩
 ·exact .inl H
def BB(s:List AV)(h:List ae):List Nat->List Nat->(List Nat->Prop)->Prop
 |[],ab,k=>k ab
 |d::l,ab,k=>bh s d (BB s h l ab k) fun x=>s8 h [x] ab fun oL=>BB s h l oL k
theorem Ig{s:List AV}{h:List ae}:∀ {l:List Nat} {ab:List Nat} {k:List Nat->Prop},BB s h l ab k->∃ l,k l
 |[],_,_,H=>⟨_,H⟩
 |_::_,_,_,H=>by
  simp only[BB]at H;rcases bu H with H|⟨x,-,H⟩
  ·exact Ig H
  ·obtain⟨_,H⟩:=wI (l:=[x]) H;exact Ig H
def BC(ab:List Nat)(h:List ae)(keep:List Nat):Nat->List AV->(List AV->Prop)->Prop
 |_,[],k=>k []
 |i,x::s,k=>match lD i keep with
  |true=>Bb ab h x fun y=>BC ab h keep (i+1) s fun s'=>k (y::s')
  |false=>BC ab h keep (i+1) s fun s'=>k (.any::s')
theorem Ih{ab:List Nat}{h:List ae}{keep:List Nat}:∀ {i:Nat} {s:List AV} {k:List AV->Prop},BC ab h keep i s k=k ((dz keep i s).map (ic ab h))
 |_,[],_=>rfl
 |i,x::s,k=>by
  simp only[BC,dz,ahx];split
  ·rw[Hv,Ih]
  ·rw[Ih];rfl
def BD(ops:Array Oper)(o:Oper)(s:List AV)(h:List ae)(stop:Prop)(k:List Nat->List AV->List ae->Prop):Prop :=
 BB s h (ey ops o) [] fun Be=>uP h 20 0 Be fun ab=>qu h 0 fun n=>match yQ n ab with
  |true=>BC ab h (ey ops o) 0 s fun sC=>Bc ab h fun hC=>k ab sC hC
  |false=>stop
theorem ND{ops:Array Oper}{o:Oper}{s:List AV}{h:List ae}{stop:Prop}{k:List Nat->List AV->List ae->Prop}(H:BD ops o s h stop k):stop\/∃ ab,ab.Nodup/\(∀ j∈ab,j<h.length)/\k ab ((dz (ey ops o) 0 s).map (ic ab h)) (fk ab h):=by
 unfold BD at H;obtain⟨s0,H⟩:=Ig H;obtain⟨ab,H⟩:=yT H;rw[wE,ahB]at H;split at H
 ·rename_i q;obtain⟨h1,h2⟩:=Dw q;rw[Ih,Hz]at H;exact .inr ⟨ab,h1,h2,H⟩
 ·exact .inl H
def NF:Op->Bool
 | .call { callee := .value _,.. }=>true
 |_=>false
section
variable (E:Env) (aj:FuncId) (R:cT) (ops:Array Oper) (k:List aY)
def lJ:Nat->List Nat->Nat->List Oper->List (Nat × ja)->List (Nat × Nat)->List AV->List ae->Prop
 |0,lits,j,gN,acc,bo,s,h=>bU E aj R ops k lits j gN acc bo s h
 |m+1,lits,j,gN,acc,bo,s,h =>
  match gN with
  |[]=>match bo with
   |[]=>I E aj R [] k s h
   |_::_=>DP ops bo=true/\I E aj R [] k s h
  |o::l =>
   let stop:Prop:=bU E aj R ops k lits j gN acc bo s h
   let skip:Prop:=cz s o.dst (.d .undef) fun s'=>lJ m lits (j+1) l acc bo s' h
   let go:Prop:=match NF o.op with
    |true=>y5 (ey ops o) 0 s fun so=>Bf E.G so o stop fun f jr=>sE jr
     (BA E f jr h stop (fun ws v h'=>fp j ws ws acc bo fun cP=>cz s o.dst v fun s'=>bU E aj R ops k lits (j+1) l (eI j ws ws acc) cP s' h') fun ab v=>fp j ab [] acc bo fun cP=>cz s o.dst v fun s'=>bU E aj R ops k lits (j+1) l (eI j ab [] acc) cP s' h)
     fun ds=>uZ E f ds h (fun v=>cz s o.dst (.d v) fun s'=>bU E aj R ops k lits (j+1) l acc bo s' h) fun v h'=>lI [] h h' fun ws=>fp j ws ws acc bo fun cP=>cz s o.dst v fun s'=>bU E aj R ops k lits (j+1) l (eI j ws ws acc) cP s' h'
    |false=>BD ops o s h stop fun ab sC hC=>match tg o.op&&y7 ab h with
     |true=>kJ E.T E.G o.op sC hC (AO E o.op sC (pF E o.op sC hC (AP E o.op sC hC stop fun x h1=>gK ab h x fun v=>kQ ab h h1 fun h'=>lI ab h h' fun ws=>fp j ws ws acc bo fun cP=>cz s o.dst v fun s'=>bU E aj R ops k lits (j+1) l (eI j ws ws acc) cP s' h') fun x _=>gK ab h x fun v=>fp j ab [] acc bo fun cP=>cz s o.dst v fun s'=>bU E aj R ops k lits (j+1) l (eI j ab [] acc) cP s' h)
       fun x=>gK ab h x fun v=>fp j ab [] acc bo fun cP=>cz s o.dst v fun s'=>lJ m lits (j+1) l (eI j ab [] acc) cP s' h)
       fun x _=>gK ab h x fun v=>fp j ab [] acc bo fun cP=>cz s o.dst v fun s'=>lJ m lits (j+1) l (eI j ab [] acc) cP s' h
     |false=>kJ E.T E.G o.op sC hC (AQ E o.op sC hC (pF E o.op sC hC stop fun x h1=>gK ab h x fun v=>kQ ab h h1 fun h'=>lI ab h h' fun ws=>fp j ws ws acc bo fun cP=>cz s o.dst v fun s'=>bU E aj R ops k lits (j+1) l (eI j ws ws acc) cP s' h')
      fun x h1=>gK ab h x fun v=>kQ ab h h1 fun h'=>lI ab h h' fun ws=>fp j ws ws acc bo fun cP=>cz s o.dst v fun s'=>lJ m lits (j+1) l (eI j ws ws acc) cP s' h')
      fun x h1=>gK ab h x fun v=>kQ ab h h1 fun h'=>lI ab h h' fun ws=>fp j ws ws acc bo fun cP=>cz s o.dst v fun s'=>lJ m lits (j+1) l (eI j ws ws acc) cP s' h'
   DA ops o.guard go stop fun d b=>bh s d stop fun
    | .d (.bool t)=>match lD d lits with
     |false=>mh t (iA s d (.d (.bool true)) fun s'=>bU E aj R ops k (d::lits) j gN acc bo s' h) (iA s d (.d (.bool false)) fun s'=>bU E aj R ops k (d::lits) j gN acc bo s' h)
     |true=>match MY t b with
      |true=>go
      |false=>skip
    | .d .undef=>skip
    |_=>stop
end
section
variable {E:Env} {aj:FuncId} {R:cT} {ops:Array Oper} {k:List aY} {lits:List Nat} {j:Nat} {gN:List Oper} {acc:List (Nat × ja)} {bo:List (Nat × Nat)} {s:List AV} {h:List ae}
theorem bU.is(H:bU E aj R ops k lits j gN acc bo s h):bU E aj R ops k lits j gN acc bo s h:=H
theorem bU.to(H:bU E aj R ops k lits j gN acc bo s h):jt E ops (fun s2 h2=>I E aj R [] k s2 h2) j gN acc bo s h:=by unfold bU at H;exact H
theorem NG:∀ {acc:List (Nat × ja)} {bo:List (Nat × Nat)},nM j [] [] acc bo=bo
 |[],_=>rfl
 |(i,t',w')::r,bo=>by
  have h1:qy w' []=false:=by
   cases q:qy w' []with
   |false=>rfl
   |true=>obtain⟨b,-,hb⟩:=DS.1 q;simp at hb
  simp only[nM,h1,qy];exact NG
theorem NH{keep:List Nat}:∀ {i d:Nat} {s:List AV},i+d∈keep->(dz keep i s)[d]?=s[d]?
 |_,_,[],_=>rfl
 |i,0,x::s,h=>by
  rw[ah3]at h;simp only[dz,Bs.2 h,ajW]
 |i,d+1,x::s,h=>by
  simp only[dz,ajO];exact NH (by rwa [show i+1+d=i+(d+1) by omega])
variable {o:Oper} {l:List Oper} {K:List AV->List ae->Prop}
theorem Ii{v:AV}(hf:∀ H,eL E ops o s H v H)(H:jt E ops K (j+1) l acc bo (cg s o.dst v) h):jt E ops K j (o::l) acc bo s h :=
 ⟨v,h,[],[],.same (fun b hb=>by simp at hb) fun X _ _=>hf X,by rw[NG];exact H⟩
theorem eL.any{v:AV}{H:List ae}(hw:jm ops o (dz (ey ops o) 0 s) true)(ho:bE E o.op (dz (ey ops o) 0 s) H v H):eL E ops o s H v H:=fun c a h1 h2 _ h4 j hj K Q hK=>by
 obtain⟨c',u,k1,k2,k3,k4,k5⟩:=ho o c a rfl h2 h1 h4;unfold wpOp;simp only[hj,hw c a.tmps h4,if_true];left;have:=hK c' u k3 k2 k5 k4;unfold Oper.wp;rcases k1 with k1|⟨k1,rfl⟩
 ·rw[k1];exact this
 ·rw[k1];exact this
theorem NI(hE:E.OK):∀ (m:Nat) (lits:List Nat) (j:Nat) (gN:List Oper) (acc:List (Nat × ja)) (bo:List (Nat × Nat)) (s:List AV) (h:List ae),
  lJ E aj R ops k m lits j gN acc bo s h->jt E ops (fun s2 h2=>I E aj R [] k s2 h2) j gN acc bo s h:=by
 intro m
 induction m with
 |zero=>intro lits j gN acc bo s h H;exact bU.to H
 |succ m ih =>
  intro lits j gN acc bo s h H;unfold lJ at H;split at H
  ·split at H
   ·exact⟨fun p hp=>by simp at hp,H⟩
   ·exact⟨Nr H.1,H.2⟩
  rename_i o l;dsimp only at H;have skip:jm ops o (dz (ey ops o) 0 s) false->(cz s o.dst (.d .undef) fun s'=>lJ E aj R ops k m lits (j+1) l acc bo s' h)->jt E ops (fun s2 h2=>I E aj R [] k s2 h2) j (o::l) acc bo s h:=fun hw H=>by
   rw[eW]at H;exact Ii (fun X=>eL.skip hw) (ih _ _ _ _ _ _ _ H)
  generalize pH:(match NF o.op with
    |true=>y5 (ey ops o) 0 s fun so=>Bf E.G so o (bU E aj R ops k lits j (o::l) acc bo s h) fun f jr=>sE jr
     (BA E f jr h (bU E aj R ops k lits j (o::l) acc bo s h) (fun ws v h'=>fp j ws ws acc bo fun cP=>cz s o.dst v fun s'=>bU E aj R ops k lits (j+1) l (eI j ws ws acc) cP s' h') fun ab v=>fp j ab [] acc bo fun cP=>cz s o.dst v fun s'=>bU E aj R ops k lits (j+1) l (eI j ab [] acc) cP s' h)
     fun ds=>uZ E f ds h (fun v=>cz s o.dst (.d v) fun s'=>bU E aj R ops k lits (j+1) l acc bo s' h) fun v h'=>lI [] h h' fun ws=>fp j ws ws acc bo fun cP=>cz s o.dst v fun s'=>bU E aj R ops k lits (j+1) l (eI j ws ws acc) cP s' h'
    |false=>BD ops o s h (bU E aj R ops k lits j (o::l) acc bo s h) fun ab sC hC=>match tg o.op&&y7 ab h with
     |true=>kJ E.T E.G o.op sC hC (AO E o.op sC (pF E o.op sC hC (AP E o.op sC hC (bU E aj R ops k lits j (o::l) acc bo s h) fun x h1=>gK ab h x fun v=>kQ ab h h1 fun h'=>lI ab h h' fun ws=>fp j ws ws acc bo fun cP=>cz s o.dst v fun s'=>bU E aj R ops k lits (j+1) l (eI j ws ws acc) cP s' h') fun x _=>gK ab h x fun v=>fp j ab [] acc bo fun cP=>cz s o.dst v fun s'=>bU E aj R ops k lits (j+1) l (eI j ab [] acc) cP s' h)
       fun x=>gK ab h x fun v=>fp j ab [] acc bo fun cP=>cz s o.dst v fun s'=>lJ E aj R ops k m lits (j+1) l (eI j ab [] acc) cP s' h)
       fun x _=>gK ab h x fun v=>fp j ab [] acc bo fun cP=>cz s o.dst v fun s'=>lJ E aj R ops k m lits (j+1) l (eI j ab [] acc) cP s' h
     |false=>kJ E.T E.G o.op sC hC (AQ E o.op sC hC (pF E o.op sC hC (bU E aj R ops k lits j (o::l) acc bo s h) fun x h1=>gK ab h x fun v=>kQ ab h h1 fun h'=>lI ab h h' fun ws=>fp j ws ws acc bo fun cP=>cz s o.dst v fun s'=>bU E aj R ops k lits (j+1) l (eI j ws ws acc) cP s' h')
      fun x h1=>gK ab h x fun v=>kQ ab h h1 fun h'=>lI ab h h' fun ws=>fp j ws ws acc bo fun cP=>cz s o.dst v fun s'=>lJ E aj R ops k m lits (j+1) l (eI j ws ws acc) cP s' h')
      fun x h1=>gK ab h x fun v=>kQ ab h h1 fun h'=>lI ab h h' fun ws=>fp j ws ws acc bo fun cP=>cz s o.dst v fun s'=>lJ E aj R ops k m lits (j+1) l (eI j ws ws acc) cP s' h')=V' at H
  have go:jm ops o (dz (ey ops o) 0 s) true->V'->jt E ops (fun s2 h2=>I E aj R [] k s2 h2) j (o::l) acc bo s h:=by
   subst pH;intro hw H;split at H
   ·rw[Nx]at H;rcases MX H with H|⟨fx,args,ts,f,a1,av,a2,cH,hv,pI,H⟩
    ·exact bU.to H
    rcases Aj (a1++av++a2) (BA E f (a1++av++a2) h (bU E aj R ops k lits j (o::l) acc bo s h) (fun ws v h'=>fp j ws ws acc bo fun cP=>cz s o.dst v fun s'=>bU E aj R ops k lits (j+1) l (eI j ws ws acc) cP s' h') fun ab v=>fp j ab [] acc bo fun cP=>cz s o.dst v fun s'=>bU E aj R ops k lits (j+1) l (eI j ab [] acc) cP s' h)
     (fun ds=>uZ E f ds h (fun v=>cz s o.dst (.d v) fun s'=>bU E aj R ops k lits (j+1) l acc bo s' h) fun v h'=>lI [] h h' fun ws=>fp j ws ws acc bo fun cP=>cz s o.dst v fun s'=>bU E aj R ops k lits (j+1) l (eI j ws ws acc) cP s' h')with⟨ds,e1,e2⟩|e2
    ·rw[e2]at H;unfold uZ at H;rcases H with⟨r,hc,hk⟩|⟨r,h1,hc,hk⟩
     ·rw[eW]at hk;exact Ii (fun X=>eL.call hw cH hv pI e1 hc) hk.to
     ·rw[wT,oP,eW]at hk;have e3:(a1++av++a2).map (ic [] h)=ds.map .d:=by rw[e1,ajR];rfl
      exact⟨_,_,_,_,.of List.nodup_nil (fun j hj=>by simp at hj) fun X hs => .H8 hw cH hv pI (by rw[e3];exact hc) hs,hk.to⟩
    ·rw[e2]at H;rcases V9 H with H|⟨ab,hn,ai,⟨r,h1,hc,hk⟩|⟨r,hc,dR,hk⟩⟩
     ·exact bU.to H
     ·rw[oP,eW]at hk;exact⟨_,_,_,_,.of hn ai fun X hs => .H8 hw cH hv pI hc hs,hk.to⟩
     ·rw[oP,eW]at hk;exact⟨_,_,_,_,.read hn ai dR fun X hs => .H8 hw cH hv pI hc hs,hk.to⟩
   ·rcases ND H with H|⟨ab,hn,ai,H⟩
    ·exact bU.to H
    have DU:∀ x h1,bE E o.op ((dz (ey ops o) 0 s).map (ic ab h)) (fk ab h) x h1->jt E ops (fun s2 h2=>I E aj R [] k s2 h2) (j+1) l (eI j (ab++eG ab h h1) (ab++eG ab h h1) acc) (nM j (ab++eG ab h h1) (ab++eG ab h h1) acc bo) (cg s o.dst (kl ab h x)) (fV ab h h1)->jt E ops (fun s2 h2=>I E aj R [] k s2 h2) j (o::l) acc bo s h :=
      fun x h1 ho H=>⟨_,_,_,_,.of hn ai fun X hs => .Bw hw ho hs,H⟩
    split at H
    ·rename_i gJ;obtain⟨bc,dR⟩:=Bool.and_eq_true_iff.1 gJ;have fin:∀ x,bE E o.op ((dz (ey ops o) 0 s).map (ic ab h)) (fk ab h) x (fk ab h)->jt E ops (fun s2 h2=>I E aj R [] k s2 h2) (j+1) l (eI j ab [] acc) (nM j ab [] acc bo) (cg s o.dst (kl ab h x)) h->jt E ops (fun s2 h2=>I E aj R [] k s2 h2) j (o::l) acc bo s h :=
      fun x ho H=>⟨_,_,_,_,.read hn ai dR fun X hs => .Bw hw ho hs,H⟩
     rcases Ax hE (VZ (K:=fun x=>gK ab h x fun v=>fp j ab [] acc bo fun cP=>cz s o.dst v fun s'=>lJ E aj R ops k m lits (j+1) l (eI j ab [] acc) cP s' h) bc H)with H|⟨x,h',⟨rfl,H⟩,ho⟩
     ·rcases Mo hE H with H|⟨x,H,ho⟩
      case inr =>
       rw[oK,oP,eW]at H;exact fin x (ho _) (ih _ _ _ _ _ _ _ H)
      rcases A2 hE (V2 (K:=fun x=>gK ab h x fun v=>fp j ab [] acc bo fun cP=>cz s o.dst v fun s'=>bU E aj R ops k lits (j+1) l (eI j ab [] acc) cP s' h) bc H)with H|⟨x,h',⟨rfl,H⟩,ho⟩
      ·rcases Mp hE H with H|⟨x,h1,H,ho⟩
       ·exact bU.to H
       ·rw[oK,s7,wT,oP,eW]at H;exact DU x h1 ho H.to
      ·rw[oK,oP,eW]at H;exact fin x ho H.to
     ·rw[oK,oP,eW]at H;exact fin x ho (ih _ _ _ _ _ _ _ H)
    ·rcases Ax hE H with H|⟨x,h1,H,ho⟩
     ·rcases Mq hE H with H|⟨x,h1,H,ho⟩
      case inr =>
       rw[oK,s7,wT,oP,eW]at H;exact DU x h1 ho (ih _ _ _ _ _ _ _ H)
      rcases A2 hE H with H|⟨x,h1,H,ho⟩
      ·exact bU.to H
      ·rw[oK,s7,wT,oP,eW]at H;exact DU x h1 ho H.to
     ·rw[oK,s7,wT,oP,eW]at H;exact DU x h1 ho (ih _ _ _ _ _ _ _ H)
  unfold DA at H;split at H
  ·rename_i hg;exact go (iF hg) H
  ·rename_i jj b hg;rcases bu H with H|⟨oj,yU,H⟩
   ·exact bU.to H
   split at H
   ·rename_i d hd;rcases bu H with H|⟨x,hx,H⟩
    ·exact bU.to H
    have hm:(dz (ey ops o) 0 s)[d]?=some x:=by
     rw[NH,hx];rw[ahB];refine ajM _ ?_;have:ops[jj]?=some oj:=zD yU
     simp[Np,hg,this,hd]
    split at H
    ·rename_i t;split at H
     ·refine HC H (fun e H2=>?_) (fun e H2=>?_)
      ·subst e;rw[jk,Bi hx]at H2;exact bU.to H2
      ·subst e;rw[jk,Bi hx]at H2;exact bU.to H2
     ·have hw:=yy hg yU hd hm;split at H
      ·rename_i q;have:(t==b)=true:=by cases t<;>cases b<;>first|rfl|cases q
       rw[this]at hw;exact go hw H
      ·rename_i q;have:(t==b)=false:=by cases t<;>cases b<;>first|rfl|cases q
       rw[this]at hw;exact skip hw H
    ·exact skip (LS hg yU hd hm) H
    ·exact bU.to H
   ·exact bU.to H
theorem bU.run(hE:E.OK)(m:Nat)(H:lJ E aj R ops k m lits j gN acc bo s h):bU E aj R ops k lits j gN acc bo s h:=by unfold bU;exact NI hE m lits j gN acc bo s h H
@[irreducible] def ml (E : Env) (aj : FuncId) (R : cT) (ops : Array Oper) (k : List aY) (lits : List Nat) (j : Nat) (o : Oper) (l : List Oper) (acc : List (Nat × ja)) (bo : List (Nat × Nat)) (s : List AV) (h : List ae) (ab : List Nat) (sC : List AV) (hC : List ae) : Prop :=
 ∃ x h1,bE E o.op sC hC x h1/\jt E ops (fun s2 h2=>I E aj R [] k s2 h2) (j+1) l (eI j (ab++eG ab h h1) (ab++eG ab h h1) acc) (nM j (ab++eG ab h h1) (ab++eG ab h h1) acc bo) (cg s o.dst (kl ab h x)) (fV ab h h1)
theorem bU.at(hg:o.guard=none)(H:BD ops o s h False fun ab sC hC=>ml E aj R ops k lits j o l acc bo s h ab sC hC):bU E aj R ops k lits j (o::l) acc bo s h:=by
 unfold bU;rcases ND H with H|⟨ab,hn,ai,H⟩
 ·exact H.elim
 unfold ml at H;obtain⟨x,h1,ho,H⟩:=H;exact⟨_,_,_,_,.of hn ai fun X hs => .Bw (iF hg) ho hs,H⟩
theorem ml.op{ab:List Nat}{sC:List AV}{hC h1:List ae}{x:AV}(ho:bE E o.op sC hC x h1)(H:gK ab h x fun v=>kQ ab h h1 fun h'=>lI ab h h' fun ws=>fp j ws ws acc bo fun cP=>cz s o.dst v fun s'=>bU E aj R ops k lits (j+1) l (eI j ws ws acc) cP s' h'):ml E aj R ops k lits j o l acc bo s h ab sC hC:=by
 unfold ml;rw[oK,s7,wT,oP,eW]at H;exact⟨x,h1,ho,H.to⟩
theorem bU.pure{v:AV}(hg:o.guard=none)(ho:∀ H,bE E o.op (dz (ey ops o) 0 s) H v H)(H:cz s o.dst v fun s'=>bU E aj R ops k lits (j+1) l acc bo s' h):bU E aj R ops k lits j (o::l) acc bo s h:=by
 rw[eW]at H;unfold bU;exact Ii (fun X => .any (iF hg) (ho X)) H.to
theorem jt.conv{K K':List AV->List ae->Prop}(hk:∀ s h,K s h->K' s h):∀ {l:List Oper} {j:Nat} {acc:List (Nat × ja)} {bo:List (Nat × Nat)} {s:List AV} {h:List ae},jt E ops K j l acc bo s h->jt E ops K' j l acc bo s h
 |[],_,_,_,_,_,H=>⟨H.1,hk _ _ H.2⟩
 |_::_,_,_,_,_,_,H=>by
  obtain⟨v,h',t,w,hf,H⟩:=H;exact⟨v,h',t,w,hf,H.conv hk⟩
theorem I.Wa(hE:E.OK)(hm:E.P.follows .mixedOrders=true)(m:Nat){id:Nat}(BE:DO ops=true)(H:lJ E aj R ops k m [] 0 ops.toList [] [] s h):I E aj R lits (.code (.region id ops true)::k) s h:=by
 obtain⟨pl,hp,tw,p1,p2,p3,-,p5,-,p7,p8⟩:=jt.lay (jt.conv (fun s2 h2=>I.to) (NI hE m _ _ _ _ _ _ _ H));refine .of (AW.V4 hm fun c t Q hQ h1 h2 h4=>?_);subst h2;have hn:(c.pad ((hp pl.length).length-c.heap.length)).heap.length=(hp pl.length).length:=by
  show(c.heap++_).length=_;rw[ah5,aiR];omega
 refine V7 (Nq BE) p1 p5 (fun i k h1 h2 h3=>zD (p7 i k h1 h2 h3)) hn (fun b hb=>?_) p3 hQ ops.size _ ⟨t,[]⟩ (c.pad ((hp pl.length).length-c.heap.length)) (h1.pad _) (Ic (j:=0) (fun i _=>uY _ i) ops.size (Nat.zero_le _)).symm rfl ?_ (Dq h1 _) ⟨by simp,fun j o e _ hl=>by rw[uY]at hl;cases hl⟩ (fun i _=>uY _ i) (Nw _ _)
 ·rw[p2];unfold nL;split
  ·rename_i hl;rw[Dp (aiX hl),aiX hl]
  ·exact Hs oM (by rw[hn]at hb;omega)
 ·rw[tf _ 0 s _ (fun i _=>uY _ _)];exact(Dq h1 _).vs h4
end
end Go.az
end
section
namespace Go.az
open Go Go.RowKit
section
variable {E:Env} {s:List AV} {h:List ae} {c:Cx} {G:List (Nat × DV)}
theorem NJ(hE:E.OK){t e len:Nat}{i ei:bA}(hi:E.T[t]?=some i)(b9:E.T[e]?=some ei)(hk:i.k=.slice e){parts:Array (Nat × Operand)}{ps:List (Nat × AV)}(gu:Ar E.G s parts.toList ps)
  (hz:ei.zero.length=ei.size) (db:0<ei.size) (hlen:0<len) (wa:len*ei.size<=16777216) {z:DV} (wb:z.cells=ei.zero) (kL:∀ y∈ei.zero,y.gd=true) {stop:Prop} {k:List DV->Prop} (H:qi ei.size ps (ahC len z) stop k) :
  stop\/∃ l,k l/\bE E (.buildSlice t len parts) s h (.own h.length 0) (h++[.arr 0 (e,ei.size) l]):=by
 have eU:jN ei.size (ahC len z):=fun j e' h'=>by
  rw[ah9]at h';split at h'
  ·cases h';rw[wb,hz]
  ·cases h'
 have gJ:rh (ahC len z):=fun j e' h'=>by
  rw[ah9]at h';split at h'
  ·cases h';rw[wb];exact kL
  ·cases h'
 rcases GA eU gJ H with h'|⟨l,h1,h2,iC,h3,h4⟩
 ·exact .inl h'
 refine .inr ⟨l,h1,fun o c ac e1 e2 e3 e4=>?_⟩;subst e2;obtain⟨ti,zv,g1,g2,g3,g4⟩:=zeroOf (hE.types e ei b9) hz db;obtain⟨zs,Av,kc⟩:=g4 c;obtain⟨p1,p2⟩:=gu c ac e3 e4;have ny:zs.length=ei.size:=by rw[<- kc.1];simpa using hz
 have Aw:VL c ((flat (ahC len z)).map .d) ((ah' (len*ti.size)).map (zv.cells[· % zv.cells.size]!)).toList:=by
  refine .v7 (by rw[pw eU];simp[g3]) (fun j x v hx hv=>?_);have hj:j<len*ei.size:=by
   have:=pw eU;rw[aiR]at this;rw[<- this];rcases ahs j (flat (ahC len z)).length with h|h
   ·exact h
   ·rw[aht h]at hx;cases hx
  have hd:j / ei.size<len:=Nat.div_lt_of_lt_mul (by rw[aia];exact hj);have hm:j % ei.size<ei.size:=Nat.mod_lt _ db;have h5:=flat_get eU (i:=j / ei.size) (j:=j % ei.size) (e:=z) (by simp[hd]) hm;rw[aia,Nat.div_add_mod,hx,wb]at h5;have fu:v=zs[j % ei.size]' oM:=by
   have fh:j<len*ti.size:=by rw[<- g3];exact hj
   simp[fh,Av,ny]at hv;rw[<- hv];simp[ny,hm]
  rw[fu];exact kc.qY (j % ei.size) x _ h5.symm (by simp[ny,hm])
 obtain⟨vs',f1,f2⟩:=h4 c _ _ Aw p2;obtain⟨yu,d,q1,q2,q3,-⟩:=cK (hE.types t i hi);obtain rfl:=mM (hk.symm.trans q3);have eq:(parts.map fun(i,x)=>(i,ac.eval x)).toList=(ps.map (·.1)).zip (parts.toList.map fun p=>ac.eval p.2):=by
  rw[p1,Array.toList_map];generalize parts.toList=q
  induction q with
  |nil=>rfl
  |cons a q ih=>simp only[ahx,List.zip_cons_cons,ih]
 have we:Instr.fill (fun i=>some (i*ti.size,ti.size)) ((ah' (len*ti.size)).map (zv.cells[· % zv.cells.size]!)) (parts.map fun(i,x)=>(i,ac.eval x)).toList=some vs'.toArray:=by
  rw[eq,<- f1,g3]
 have cL:=run_buildSlice (P:=E.P) c.w t e len (parts.map fun(i,x)=>(i,ac.eval x)) vs'.toArray ti zv q2 g1 g2 (by rw[<- g3];omega) (by rw[<- g3];have:=Nat.mul_pos hlen db;omega) we;have l9:l.length=len:=by rw[h3];simp
 obtain⟨k1,k2⟩:=e3.add (.arr 0 (e,ei.size) l) len (.cells vs'.toArray e);have bN:(c.add (.arr 0 (e,ei.size) l) len (.cells vs'.toArray e)).own c.heap.length=some (c.w.heap.size,len):=by simp[Cx.add]
 have oE:(c.add (.arr 0 (e,ei.size) l) len (.cells vs'.toArray e)).heap[c.heap.length]?=some (.arr 0 (e,ei.size) l):=by simp[Cx.add]
 have bP:vs'.length=len*ei.size:=by
  have:=f2.1;simp only[aiO]at this;rw[<- this,pw h2,l9]
 have dF:lp (c.add (.arr 0 (e,ei.size) l) len (.cells vs'.toArray e)) c.heap.length (.arr 0 (e,ei.size) l):=by
  refine⟨db,h2,.inr ⟨c.w.heap.size,len,vs'.toArray,bN,heap_alloc_new _ _,zD bP,by omega,by unfold maxLen;have:=Nat.le_mul_of_pos_right len db;omega,fun i j e' x he hx=>?_⟩⟩;have hj:j<ei.size:=by
   have:=aW hx;rw[h2 i e' he]at this;exact this
  have hf:=flat_get h2 he hj;rw[hx]at hf;have ai:i*ei.size+j<vs'.length:=by
   have:=f2.1;simp only[aiO]at this;rw[<- this];exact aW hf
  refine⟨vs'[i*ei.size+j],by simp[ai],An (f2.qY _ x _ hf (by simp[ai])) (iC i e' he x (aiQ hx)),k1.vd (f2.qY _ x _ hf (by simp[ai]))⟩
 refine⟨_,.slice (some ⟨c.w.heap.size,0,none⟩) len len,.inl (by simp only[execOp,e1,Sem.run_bind,cL,Result.andThen_ok,Sem.run_pure];rfl),rfl,k2 dF,?_,k1⟩;have:=VR.own (c:=c.add (.arr 0 (e,ei.size) l) len (.cells vs'.toArray e)) c.heap.length 0 (e,ei.size) l c.w.heap.size len oE bN;rw[l9]at this;exact this
def DW(E:Env)(o:Op)(s:List AV)(h:List ae)(stop:Prop)(k:AV->List ae->Prop):Prop :=
 match o with
 | .buildSlice t len parts=>bh E.T t stop fun i=>match i.k with
  | .slice e=>bh E.T e stop fun ei=>match Nat.beq ei.zero.length ei.size,Nat.blt 0 ei.size,Nat.blt 0 len,ahO (len*ei.size) 16777216,ei.zero.all DV.gd with
   |true,true,true,true,true=>vY E.G s parts.toList stop fun ps =>
    match ei.zero with
    |[z]=>vX len z fun zs=>qi ei.size ps zs stop fun l=>pq h (.arr 0 (e,ei.size) l) 0 fun h' n=>k (.own n 0) h'
    |zl=>vX len (.agg zl) fun zs=>qi ei.size ps zs stop fun l=>pq h (.arr 0 (e,ei.size) l) 0 fun h' n=>k (.own n 0) h'
   |_,_,_,_,_=>stop
  |_=>stop
 |_=>stop
theorem NK(hE:E.OK){o:Op}{stop:Prop}{k:AV->List ae->Prop}(H:DW E o s h stop k):stop\/∃ v h',k v h'/\bE E o s h v h':=by
 unfold DW at H;split at H
 ·rcases bu H with h|⟨i,hi,H⟩
  ·exact .inl h
  split at H
  ·rename_i e hk;rcases bu H with h|⟨ei,b9,H⟩
   ·exact .inl h
   split at H
   ·rename_i q1 q2 q3 q4 q5;rcases Au H with h|⟨ps,gu,H⟩
    ·exact .inl h
    simp only[uo,ahB]at H;split at H
    ·rename_i z iB;rw[C9]at H;have kL:z.gd=true:=by rw[iB]at q5;simpa using q5
     rcases NJ hE hi b9 hk gu (ahu q1) (jO q2) (jO q3) (ahA q4) (z:=z) (by rw[iB];cases z<;>first|rfl|cases kL) (fun y hy=>ahH.1 q5 y hy) H with h|⟨l,H,hl⟩
     ·exact .inl h
     exact .inr ⟨_,_,H,hl⟩
    ·rw[C9]at H;rcases NJ hE hi b9 hk gu (ahu q1) (jO q2) (jO q3) (ahA q4) (z := .agg ei.zero) rfl (fun y hy=>ahH.1 q5 y hy) H with h|⟨l,H,hl⟩
     ·exact .inl h
     exact .inr ⟨_,_,H,hl⟩
   ·exact .inl H
  ·exact .inl H
 ·exact .inl H
theorem I.rF(hE:E.OK){aj:FuncId}{R:cT}{lits:List Nat}{ops:Array Oper}{o:Oper}{l:List Oper}{r:List aY}(hg:o.guard=none)
  (H:DW E o.op s h False fun v h'=>cz s o.dst v fun s'=>I E aj R lits (.bF ops l::r) s' h'):I E aj R lits (.bF ops (o::l)::r) s h:=by
 rcases NK hE H with h|⟨v,h',H,ho⟩
 ·exact h.elim
 ·rw[eW]at H;exact .of (.op (iF hg) ho H.to)
end
mutual
def norm:DV->DV
 | .aF => .sl []
 | .agg c => .agg (vb c)
 | .aG c => .aG (vb c)
 |x=>x
def vb:List DV->List DV
 |[]=>[]
 |x::l=>norm x::vb l
end
theorem Ij:∀ (l:List DV),vb l=l.map norm
 |[]=>rfl
 |x::l=>by rw[vb,Ij l];rfl
theorem NL{bad:Nat->Prop}{w:World}{x:DV}{v:Value}(h:VD bad w x v):VD bad w (norm x) v:=by
 induction h with
 |aF=>exact .slnil
 |agg c vs hlen bJ ih =>
  rw[norm,Ij];refine .agg _ _ (zD hlen) fun j y v hy hv=>?_;rw[ahy]at hy;cases hc:c[j]? with
  |none=>rw[hc]at hy;cases hy
  |some z=>rw[hc]at hy;cases hy;exact ih j z v hc hv
 |aG c vs hlen bJ ih =>
  rw[norm,Ij];refine .aG _ _ (zD hlen) fun j y v hy hv=>?_;rw[ahy]at hy;cases hc:c[j]? with
  |none=>rw[hc]at hy;cases hy
  |some z=>rw[hc]at hy;cases hy;exact ih j z v hc hv
 |undef=>exact .undef
 |bool b=>exact .bool b
 |int k n=>exact .int k n
 |str l=>exact .str l
 |slnil=>exact .slnil
 |l6 a=>exact .l6 a
 |sl l blk off cap sz f hb bP kI hlen dQ bJ bW ih=>exact .sl l blk off cap sz f hb bP kI hlen dQ bJ bW
 |eS=>exact .eS
 |aB=>exact .aB
 |kH=>exact .kH
 |fD=>exact .fD
 |fn f=>exact .fn f
 |raw v h=>exact .raw v h
theorem aq.norm{E:Env}{f:FuncId}{args:List DV}{y:DV}(H:aq E f args (fun r=>az.norm r=y)):aq E f args (· = y):=by
 unfold aq at H ⊢;exact⟨H.1,fun aD w vs h1 h2 h3=>(H.2 aD w vs h1 h2 h3).mono fun e w' ⟨v,r,k1,k2,k3,k4⟩=>⟨v,y,k1,rfl,k2 ▸ NL k3,k4⟩⟩
end Go.az
end
section
namespace Go.az
open Go Go.RowKit
def eA(n:Nat)(B:List Nat)(i:Nat):Bool:=match ahO n i with
 |true=>true
 |false=>lD i B
def mn(n:Nat)(B:List Nat):Nat->List ae->List ae
 |_,[]=>[]
 |i,b::r=>match ahO n i with
  |true=>[]
  |false=>(match lD i B with|true => .gone|false=>b)::mn n B (i+1) r
theorem zf{n:Nat}{B:List Nat}:∀ (i k:Nat) (h:List ae),eA n B (i+k)=false->(mn n B i h)[k]?=h[k]?
 |_,_,[],_=>rfl
 |i,0,b::r,hh=>by
  simp only[eA,ah3]at hh;split at hh
  ·cases hh
  ·rename_i q;simp only[mn,q,hh];rfl
 |i,k+1,b::r,hh=>by
  have hn:ahO n i=false:=by
   cases q:ahO n i with
   |false=>rfl
   |true =>
    have h1:=ahA q;have h2:ahO n (i+(k+1))=true:=Nat.ble_eq_true_of_le oM;simp only[eA,h2]at hh;cases hh
  simp only[mn,hn,ajO];exact zf (i+1) k r (by rwa [show i+1+k=i+(k+1) by omega])
theorem NM{n:Nat}{B:List Nat}:∀ (i k:Nat) (h:List ae) (b:ae),eA n B (i+k)=true->(mn n B i h)[k]?=some b->b=.gone
 |_,_,[],_,_,h=>by simp[mn]at h
 |i,k,b'::r,b,hh,h=>by
  simp only[mn]at h;split at h
  ·simp at h
  ·rename_i q;cases k with
   |zero =>
    simp only[eA,ah3,q]at hh;simp only[hh,ajW,Option.some.injEq]at h;exact h.symm
   |succ k=>exact NM (i+1) k r b (by rwa [show i+1+k=i+(k+1) by omega]) (zD h)
def il(n:Nat)(B:List Nat):AV->Bool
 | .any=>true
 | .d _=>true
 | .bT _ _=>true
 | .own b _=>match eA n B b with|true=>false|false=>true
 | .ptr b _=>match eA n B b with|true=>false|false=>true
 | .dv b _ _ _=>match eA n B b with|true=>false|false=>true
 | .cut b _ _ _=>match eA n B b with|true=>false|false=>true
 | .map b=>match eA n B b with|true=>false|false=>true
 |_=>false
def rG{β:Type}(f:β->Bool):List β->Bool
 |[]=>true
 |a::l=>match f a with
  |true=>rG f l
  |false=>false
theorem DX{β:Type}{f:β->Bool}:∀ {l:List β},rG f l=true->∀ (j:Nat) (x:β),l[j]?=some x->f x=true
 |[],_,_,_,h=>by simp at h
 |a::l,H,j,x,h=>by
  unfold rG at H;split at H
  ·rename_i q;cases j with
   |zero=>simp at h;subst h;exact q
   |succ j=>exact DX H j x (zD h)
  ·cases H
def ju(n:Nat)(B:List Nat):AV->Bool
 | .agg l=>rG (il n B) l
 | .aG l=>rG (il n B) l
 | .fn _ a b=>match rG (il n B) a with
  |true=>rG (il n B) b
  |false=>false
 |x=>il n B x
def NN(n:Nat)(B:List Nat):ae->Bool
 | .cells cs=>rG (ju n B) cs
 |_=>true
section
variable {G:List (Nat × DV)} {c c':Cx} {n:Nat} {B:List Nat}
theorem NO(hk:∀ b,b<c.w.heap.size->¬ c.bad b->¬ c'.bad b/\c'.w.heap[b]?=c.w.heap[b]?)(hb:∀ i bx,eA n B i=false->c.heap[i]?=some bx->c'.heap[i]?=some bx/\c'.own i=c.own i)
  {x:AV} {v:Value} (hf:il n B x=true) (hv:VR c x v):VR c' x v:=by
 cases hv with
 |any v=>exact .any v
 |d x v hx=>exact .d x v (hx.mono hk)
 |own b g sz l blk cap h1 h2 =>
  have hh:eA n B b=false:=by simp only[il]at hf;split at hf<;>first|assumption|cases hf
  obtain⟨k1,k2⟩:=hb _ _ hh h1;exact .own b g sz l blk cap k1 (k2.trans h2)
 |jJ b g sz h1 h2 =>
  have hh:eA n B b=false:=by simp only[il]at hf;split at hf<;>first|assumption|cases hf
  obtain⟨k1,k2⟩:=hb _ _ hh h1;exact .jJ b g sz k1 (k2.trans h2)
 |l7 b g g1 sz l v h1 h2 h3 =>
  have hh:eA n B b=false:=by simp only[il]at hf;split at hf<;>first|assumption|cases hf
  obtain⟨k1,k2⟩:=hb _ _ hh h1;exact .l7 b g g1 sz l _ k1 h2 h3
 |ln b g v h1 h2 =>
  have hh:eA n B b=false:=by simp only[il]at hf;split at hf<;>first|assumption|cases hf
  exact .ln b g _ (hb _ _ hh h1).1 h2
 |ow b g cs blk cap m h1 h2 h3 =>
  have hh:eA n B b=false:=by simp only[il]at hf;split at hf<;>first|assumption|cases hf
  obtain⟨k1,k2⟩:=hb _ _ hh h1;exact .ow b g cs blk cap m k1 (k2.trans h2) h3
 |cut b g k q sz l blk cap o h1 h2 h3 h4 h5 =>
  have hh:eA n B b=false:=by simp only[il]at hf;split at hf<;>first|assumption|cases hf
  obtain⟨k1,k2⟩:=hb _ _ hh h1;exact .cut b g k q sz l blk cap o k1 (k2.trans h2) h3 h4 h5
 |pj b g g1 k q sz l v h1 h2 h3 =>
  have hh:eA n B b=false:=by simp only[il]at hf;split at hf<;>first|assumption|cases hf
  exact .pj b g g1 k q sz l _ (hb _ _ hh h1).1 h2 h3
 |pk b g k q v h1 h2 =>
  have hh:eA n B b=false:=by simp only[il]at hf;split at hf<;>first|assumption|cases hf
  exact .pk b g k q _ (hb _ _ hh h1).1 h2
 |ptr b off cs blk cap h1 h2 =>
  have hh:eA n B b=false:=by simp only[il]at hf;split at hf<;>first|assumption|cases hf
  obtain⟨k1,k2⟩:=hb _ _ hh h1;exact .ptr b off cs blk cap k1 (k2.trans h2)
 |jK b off v h1 h2 =>
  have hh:eA n B b=false:=by simp only[il]at hf;split at hf<;>first|assumption|cases hf
  exact .jK b off _ (hb _ _ hh h1).1 h2
 |dv b g i off sz l blk cap h1 h2 h3 =>
  have hh:eA n B b=false:=by simp only[il]at hf;split at hf<;>first|assumption|cases hf
  obtain⟨k1,k2⟩:=hb _ _ hh h1;exact .dv b g i off sz l blk cap k1 (k2.trans h2) h3
 |nv b g g1 i off sz l v h1 h2 h3 =>
  have hh:eA n B b=false:=by simp only[il]at hf;split at hf<;>first|assumption|cases hf
  exact .nv b g g1 i off sz l _ (hb _ _ hh h1).1 h2 h3
 |nw b g i off v h1 h2 =>
  have hh:eA n B b=false:=by simp only[il]at hf;split at hf<;>first|assumption|cases hf
  exact .nw b g i off _ (hb _ _ hh h1).1 h2
 |bT e off blk o f h1 h2 h3 h4 =>
  have ai:blk<c.w.heap.size:=by
   obtain⟨x,r,hx⟩:=List.exists_cons_of_ne_nil h2;exact World.block_lt_of_cell? _ _ (h3 0 x (by rw[hx];rfl))
  have hk:=hk;have sS:=hk blk ai h1;exact .bT e off blk o f sS.1 h2 (fun j x hx=>by rw[World.cell?_of_block sS.2];exact h3 j x hx) (fun j x hx=>(h4 j x hx).mono hk)
 |map b es blk cap h1 h2 =>
  have hh:eA n B b=false:=by simp only[il]at hf;split at hf<;>first|assumption|cases hf
  obtain⟨k1,k2⟩:=hb _ _ hh h1;exact .map b es blk cap k1 (k2.trans h2)
 |pn b v h1 h2 =>
  have hh:eA n B b=false:=by simp only[il]at hf;split at hf<;>first|assumption|cases hf
  exact .pn b _ (hb _ _ hh h1).1 h2
 |agg a vs h1 h2=>simp[il]at hf
 |aG a vs h1 h2=>simp[il]at hf
 |fn f a1 a2 v1 v2 h1 h2 h3 h4=>simp[il]at hf
theorem Wb(hk:∀ b,b<c.w.heap.size->¬ c.bad b->¬ c'.bad b/\c'.w.heap[b]?=c.w.heap[b]?)(hb:∀ i bx,eA n B i=false->c.heap[i]?=some bx->c'.heap[i]?=some bx/\c'.own i=c.own i)
  {x:AV} {v:Value} (hf:ju n B x=true) (hv:VR c x v):VR c' x v:=by
 have one:∀ {l:List AV},rG (il n B) l=true->∀ (vs:List Value),VL c l vs->VL c' l vs:=fun hl vs h=>⟨h.1,fun j x v hx hv=>NO hk hb (DX hl j x hx) (h.2 j x v hx hv)⟩;unfold ju at hf;split at hf
 ·obtain⟨vs,rfl,h1⟩:=qZ hv;exact yj (one hf _ h1)
 ·obtain⟨vs,rfl,h1⟩:=A6 hv;exact A7 (one hf _ h1)
 ·split at hf
  ·rename_i q;obtain⟨v1,v2,rfl,h1,h2⟩:=mP hv;exact Hk (one q _ h1) (one hf _ h2)
  ·cases hf
 ·exact NO hk hb hf hv
def Cx.im(c:Cx)(n:Nat)(B:List Nat):Cx:=⟨fun i=>match eA n B i with|true=>none|false=>c.own i,mn n B 0 c.heap,fun b=>c.aD b\/∃ j m,eA n B j=true/\c.own j=some (b,m),c.w⟩
theorem wU{i b m:Nat}(h:(c.im n B).own i=some (b,m)):eA n B i=false/\c.own i=some (b,m):=by
 simp only[Cx.im]at h;split at h
 ·cases h
 ·rename_i q;exact⟨q,h⟩
theorem BF{i:Nat}(h:eA n B i=false):(c.im n B).own i=c.own i:=by simp only[Cx.im,h]
theorem Wc(b:Nat):(c.im n B).bad b↔c.bad b:=by
 constructor
 ·rintro((hb|⟨j,m,-,hj⟩)|⟨i,m,hi⟩)
  ·exact .inl hb
  ·exact .inr ⟨j,m,hj⟩
  ·exact .inr ⟨i,m,(wU hi).2⟩
 ·rintro(hb|⟨j,m,hj⟩)
  ·exact .inl (.inl hb)
  ·cases hh:eA n B j
   ·exact .inr ⟨j,m,(BF hh).trans hj⟩
   ·exact .inl (.inr ⟨j,m,hh,hj⟩)
theorem NP(b:Nat)(_:b<c.w.heap.size)(hn:¬ c.bad b):¬ (c.im n B).bad b/\(c.im n B).w.heap[b]?=c.w.heap[b]? := ⟨fun h=>hn ((Wc b).1 h),rfl⟩
theorem Wd{i:Nat}{bx:ae}(hh:eA n B i=false)(hi:c.heap[i]?=some bx):(c.im n B).heap[i]?=some bx/\(c.im n B).own i=c.own i :=
 ⟨by show(mn n B 0 c.heap)[i]?=_;rw[zf 0 i c.heap (by rwa [ahB])];exact hi,BF hh⟩
theorem DY{x:AV}{v:Value}(hf:ju n B x=true)(hv:VR c x v):VR (c.im n B) x v:=Wb NP (fun _ _=>Wd) hf hv
theorem We{x:DV}{v:Value}(hv:VD c.bad c.w x v):VD (c.im n B).bad (c.im n B).w x v:=hv.mono NP
theorem lp.free{i:Nat}{bx:ae}(Wf:NN n B bx=true)(iX:∀ x v,ju n B x=true->VR c x v->VR c' x v)(fH:∀ x v,VD c.bad c.w x v->VD c'.bad c'.w x v)(hb:lp c i bx)(ho:c'.own i=c.own i)(hw:∀ b n,c.own i=some (b,n)->c'.w.heap[b]?=c.w.heap[b]?):lp c' i bx:=by
 cases bx with
 |cells cs =>
  obtain⟨blk,cap,vs,ty,h1,h2,h3,h4⟩:=hb;exact⟨blk,cap,vs,ty,ho.trans h1,(hw blk cap h1).trans h2,h3,fun j x v hx hv=>iX x v (DX Wf j x hx) (h4 j x v hx hv)⟩
 |arr g ts l =>
  obtain⟨h0,h1,h2⟩:=hb;refine⟨h0,h1,?_⟩;rcases h2 with⟨h2,h3⟩|⟨blk,cap,vs,h2,h3,h4,h5,h6,h7⟩
  ·exact .inl ⟨ho.trans h2,h3⟩
  ·refine .inr ⟨blk,cap,vs,ho.trans h2,(hw blk cap h2).trans h3,h4,h5,h6,fun i j e x he hx=>?_⟩;obtain⟨v,h8,Al,h9⟩:=h7 i j e x he hx;exact⟨v,h8,Al,fH x v h9⟩
 |map es =>
  obtain⟨blk,cap,en,ck,h1,h2,h3,h4⟩:=hb;exact⟨blk,cap,en,ck,ho.trans h1,(hw blk cap h1).trans h2,h3,fun j k x m hx hm=>⟨fH _ _ (h4 j k x m hx hm).1,fH _ _ (h4 j k x m hx hm).2⟩⟩
 |gone=>exact ho.trans hb
 |hole=>exact ho.trans hb
def Ik(n:Nat)(B:List Nat)(X:List ae):Bool:=rG (NN n B) X
theorem aO.im(ho:aO G c)(dR:Ik n B (mn n B 0 c.heap)=true):aO G (c.im n B) where
 bV:=fun b hb=>hb.elim (ho.bV b) fun⟨j,m,_,hj⟩=>(ho.bD j b m hj).1
 bD:=fun i b m hi=>by
  obtain⟨h1,h2⟩:=wU hi;obtain⟨h3,h4⟩:=ho.bD i b m h2;refine⟨h3,?_⟩;have:(c.im n B).heap[i]?=c.heap[i]? := zf 0 i c.heap (by rwa [ahB]);have h5:(c.im n B).heap[i]?=some c.heap[i]:=by rw[this];simp
  exact aW h5
 inj:=fun i j b m k hi hj=>ho.inj i j b m k (wU hi).2 (wU hj).2
 sep:=fun i b m hi hb=>by
  obtain⟨h1,h2⟩:=wU hi;rcases hb with hb|⟨j,k,hj,hk⟩
  ·exact ho.sep i b m h2 hb
  ·have:=ho.inj i j b m k h2 hk;subst this;rw[h1]at hj;cases hj
 box:=fun i bx hi=>by
  cases hh:eA n B i
  ·have e:(c.im n B).heap[i]?=c.heap[i]? := zf 0 i c.heap (by rwa [ahB]);have hf:=DX dR i bx hi;rw[e]at hi;exact(ho.box i bx hi).free hf (fun _ _=>DY) (fun _ _=>We) (BF hh) (fun _ _ _=>rfl)
  ·obtain rfl:=NM 0 i c.heap bx (by rwa [ahB]) hi;show(c.im n B).own i=none;simp only[Cx.im,hh]
 gI:=fun g e hg=>DY rfl (ho.gI g e hg)
end
theorem aO.NQ{G:List (Nat × DV)}{c:Cx}{aD:Nat->Prop}(ho:aO G c)(hb:∀ b,aD b->c.aD b):aO G ⟨c.own,c.heap,aD,c.w⟩/\(∀ x v,VR c x v->VR ⟨c.own,c.heap,aD,c.w⟩ x v):=by
 have qf:∀ b,b<c.w.heap.size->¬ c.bad b->¬ (⟨c.own,c.heap,aD,c.w⟩:Cx).bad b/\(⟨c.own,c.heap,aD,c.w⟩:Cx).w.heap[b]?=c.w.heap[b]? := fun b _ hn=>⟨fun h=>hn (h.elim (fun h => .inl (hb b h)) .inr),rfl⟩;have iX:∀ x v,VR c x v->VR ⟨c.own,c.heap,aD,c.w⟩ x v:=fun x v=>um qf (fun _ _ hi=>nB hi rfl rfl);exact⟨⟨fun b h=>ho.bV b (hb b h),ho.bD,ho.inj,fun i b n hi h=>ho.sep i b n hi (hb b h),fun i bx hx=>(ho.box i bx hx).gen iX (fun _ _ h=>h.mono qf) rfl (fun _ _ _=>rfl),fun g e hg=>iX _ _ (ho.gI g e hg)⟩,iX⟩
end Go.az
end
