/- Lemmas of mine. Conditions: as stated. -/
import Derived.Test.YtfmdaiojokniiaaGreatDoorS2
import Derived.Orders
import Derived.OrdersIn
set_option linter.unusedVariables false
set_option linter.unusedSimpArgs false
open Array renaming replicate->afz,getElem?_eq_some_iff->agk,ext'->afp,range->aeD
open Bool renaming false_eq_true->aet,or_eq_true->agp,true_or->agr
open List renaming getElem?_eq_getElem->afo,getElem?_eq_none->adW,all_eq_true->ad',ext_getElem?->aeM,replicate->ad6,mem_cons_self->aeQ,mem_append_left->agc,mem_append_right->agd,getElem?_map->ad1,mem_cons_of_mem->aeR,getD->aem,getElem?_cons_zero->ago,getElem?_cons_succ->agf,length_map->aff,mem_cons->afu,mem_of_getElem?->afh,length_append->aey,mem_range->agq,getElem?_set_ne->aej,map_map->agj,append_nil->ags,map_cons->ad0,length_replicate->afi,getElem?_replicate->aeC
open Nat renaming zero_add->ad5,le_refl->aed,add_zero->aew,lt_or_ge->adV,ble->aeg,lt_trichotomy->agn,eq_of_beq_eq_true->adX,le_of_ble_eq_true->ad3,le_trans->aen,zero_lt_succ->agt,mul_comm->aeE
section
namespace Go.aA
open Go Go.RowKit
inductive jL (ops:Array Oper):Nat->Nat->Prop
 |one {j:Nat} {o:Oper} {e:Edge} (hj:ops[j]?=some o) (he:e∈o.after) (hb:Region.binds .any e=true):jL ops e.on j
 |step {i j:Nat} {o:Oper} {e:Edge} (h:jL ops i e.on) (hj:ops[j]?=some o) (he:e∈o.after) (hb:Region.binds .any e=true):jL ops i j
def FQ(acc:List Nat)(o:Oper):Nat:=o.after.toList.foldl (fun m e=>if Region.binds .any e then m ||| 2 ^ e.on ||| acc.getD e.on 0 else m) 0
def bits:List Oper->List Nat->List Nat
 |[],acc=>acc
 |o::l,acc=>bits l (acc++[FQ acc o])
theorem SR{acc:List Nat}{o:Oper}{i:Nat}(h:(FQ acc o).testBit i=true):∃ e∈o.after,Region.binds .any e=true/\(i=e.on\/(acc.getD e.on 0).testBit i=true):=by
 have gen:∀ (l:List Edge) (m:Nat),(l.foldl (fun m e=>if Region.binds .any e then m ||| 2 ^ e.on ||| acc.getD e.on 0 else m) m).testBit i=true->m.testBit i=true\/∃ e∈l,Region.binds .any e=true/\(i=e.on\/(acc.getD e.on 0).testBit i=true):=by
  intro l
  induction l with
  |nil=>intro m h;exact .inl h
  |cons e l ih =>
   intro m h;rw[List.foldl_cons]at h;rcases ih _ h with h|⟨e',kY,hb⟩
   ·split at h
    ·rename_i hb;simp only[Nat.testBit_or,agp,Nat.testBit_two_pow,decide_eq_true_eq]at h;rcases h with(h|h)|h
     ·exact .inl h
     ·exact .inr ⟨e,aeQ ..,hb,.inl h.symm⟩
     ·exact .inr ⟨e,aeQ ..,hb,.inr h⟩
    ·exact .inl h
   ·exact .inr ⟨e',aeR _ kY,hb⟩
 rcases gen _ _ h with h|⟨e,he,hb⟩
 ·simp at h
 ·exact⟨e,by simpa using he,hb⟩
theorem FR(ops:Array Oper):∀ (l:List Oper) (acc:List Nat),ops.toList.drop acc.length=l->(∀ j i,(acc.getD j 0).testBit i=true->jL ops i j)->∀ j i,((bits l acc).getD j 0).testBit i=true->jL ops i j
 |[],acc,_,ha=>ha
 |o::l,acc,hl,ha=>by
  have ho:ops[acc.length]?=some o:=by
   have:=congrArg (·[0]?) hl
   simpa using this
  refine FR ops l (acc++[FQ acc o]) (by rw[aey,List.length_singleton,<- List.drop_drop,hl];rfl) (fun j i h=>?_);rcases agn j acc.length with hj|hj|hj
  ·rw[aem,List.getElem?_append_left hj]at h;exact ha j i h
  ·subst hj;rw[aem,List.getElem?_append_right (aed _),Nat.sub_self]at h;obtain⟨e,he,hb,h|h⟩:=SR (by simpa using h)
   ·subst h;exact .one ho he hb
   ·exact .step (ha _ _ h) ho he hb
  ·rw[aem,adW (by simp;omega)]at h;simp at h
def tmpsOf(o:Op):List Nat:=o.operands.toList.filterMap fun | .tmp t=>some t|_=>none
def K4(ops:Array Oper):Option (Nat × Bool)->List Nat
 |none=>[]
 |some (j,_)=>match (ops[j]?).bind (·.dst)with
  |some d=>[d]
  |none=>[]
def dK(ops:Array Oper)(o:Oper):List Nat:=tmpsOf o.op++K4 ops o.guard
def pV(ops:Array Oper)(a b:Oper):Bool:=(match a.dst with|some d=>km d (b.dst.toList++dK ops b)|none=>false)||(match b.dst with|some d=>km d (dK ops a)|none=>false)
theorem zK{d:Nat}:∀ {l:List Nat},km d l=true↔d∈l
 |[]=>by simp[km]
 |a::l=>by
  simp only[km];split
  ·rename_i q;simp[adX q]
  ·rename_i q;have aJ:d≠a:=fun e=>by rw[e,Nat.beq_refl]at q;cases q
   rw[zK (l:=l)];simp[aJ]
structure Ch(ops:Array Oper):Prop where
 low:∀ j o e,ops[j]?=some o->e∈o.after->Region.binds .any e=true->e.on<j
 pair:∀ i j oi oj,i<j->ops[i]?=some oi->ops[j]?=some oj->pV ops oi oj=true->jL ops i j
def Ci(ops:Array Oper):Bool :=
 let bs:=bits ops.toList []
 (List.range ops.size).all fun j=>match ops[j]? with
  |none=>true
  |some oj=>(oj.after.toList.all fun e => !Region.binds .any e||decide (e.on<j))&&(List.range j).all fun i=>match ops[i]? with
   |none=>true
   |some oi=>(bs.getD j 0).testBit i || !pV ops oi oj
theorem K5{ops:Array Oper}(h:Ci ops=true):Ch ops:=by
 have hb:=FR ops ops.toList [] rfl (fun j i h=>by simp at h);have aL:∀ j oj,ops[j]?=some oj->(oj.after.toList.all fun e => !Region.binds .any e||decide (e.on<j))=true/\∀ i oi,i<j->ops[i]?=some oi->((bits ops.toList []).getD j 0).testBit i=true\/pV ops oi oj=false:=fun j oj hj=>by
  have ah:j<ops.size:=(agk.1 hj).1;have h1:=ad'.1 h j (agq.2 ah);simp only[hj,Bool.and_eq_true]at h1;refine⟨h1.1,fun i oi hi mv=>?_⟩;have h2:=ad'.1 h1.2 i (agq.2 hi);simp only[mv,agp,Bool.not_eq_true']at h2;exact h2
 refine⟨fun j o e hj he fo=>?_,fun i j oi oj dY hi hj hc=>?_⟩
 ·have:=ad'.1 (aL j o hj).1 e (by simpa using he)
  simpa [fo]using this
 ·rcases(aL j oj hj).2 i oi dY hi with h|h
  ·exact hb j i h
  ·rw[hc]at h;cases h
def Cj(ops:Array Oper)(l:List (Nat × Nat)):Bool :=
 let bs:=bits ops.toList []
 l.all fun p=>(bs.getD p.2 0).testBit p.1
theorem K6{ops:Array Oper}{l:List (Nat × Nat)}(h:Cj ops l=true):∀ p∈l,jL ops p.1 p.2:=fun p hp =>
 FR ops ops.toList [] rfl (fun j i h=>by simp at h) p.2 p.1 (ad'.1 h p hp)
def cur:List (Oper × AV)->(Nat->Bool)->Nat->List AV->List AV
 |[],_,_,s=>s
 |(o,v)::l,L,i,s=>cur l L (i+1) (if L i then b8 s o.dst v else s)
theorem s9:∀ (pl:List (Oper × AV)) (L:Nat->Bool) (i:Nat) (s:List AV),(cur pl L i s).length=s.length
 |[],_,_,_=>rfl
 |(o,v)::l,L,i,s=>by
  rw[cur,s9 l];split
  ·cases o.dst<;>simp[b8]
  ·rfl
theorem SS{s:List AV}{d:Option Nat}{v:AV}{t:Nat}(h:d≠some t):(b8 s d v)[t]?=s[t]? := by
 cases d with
 |none=>rfl
 |some d=>exact aej (fun e=>h (by rw[e]))
theorem SU{s s':List AV}{d:Option Nat}{v:AV}{t:Nat}(hl:s.length=s'.length)(h:s[t]?=s'[t]?):(b8 s d v)[t]?=(b8 s' d v)[t]? := by
 cases d with
 |none=>exact h
 |some d =>
  by_cases hd:d=t
  ·subst hd;simp only[b8,List.getElem?_set,hl,if_true]
  ·simp only[b8,aej hd,h]
theorem zL{t:Nat}:∀ (pl:List (Oper × AV)) (L L':Nat->Bool) (i:Nat) (s s':List AV),s.length=s'.length->s[t]?=s'[t]? -> (∀ k o v,pl[k]?=some (o,v)->o.dst=some t->L (i+k)=L' (i+k))->(cur pl L i s)[t]?=(cur pl L' i s')[t]?
 |[],_,_,_,_,_,_,hs,_=>hs
 |(o,v)::l,L,L',i,s,s',hl,hs,hw=>by
  rw[cur,cur];have hlen:∀ (b:Bool) (q:List AV),(if b then b8 q o.dst v else q).length=q.length:=fun b q=>by cases b<;>cases o.dst<;>simp[b8]
  refine zL l L L' (i+1) _ _ (by rw[hlen,hlen,hl]) ?_ (fun k o' v' hk hd=>by have:=hw (k+1) o' v' (by simpa using hk) hd;rwa [show i+(k+1)=i+1+k by omega]at this);by_cases hd:o.dst=some t
  ·have:=hw 0 o v rfl hd;rw[aew]at this;rw[this];split
   ·exact SU hl hs
   ·exact hs
  ·split<;>split<;>simp only[SS hd,hs]
theorem qX:∀ (pl:List (Oper × AV)) (i:Nat) (s:List AV) (L:Nat->Bool),(∀ k,k<pl.length->L (i+k)=false)->cur pl L i s=s
 |[],_,_,_,_=>rfl
 |(o,v)::l,i,s,L,h=>by
  have h0:=h 0 (by simp);rw[aew]at h0;rw[cur,h0];exact qX l (i+1) s L (fun k hk=>by have:=h (k+1) (by simpa using hk);rwa [show i+(k+1)=i+1+k by omega]at this)
theorem K7:∀ (pl:List (Oper × AV)) (i j:Nat) (s:List AV) (o:Oper) (v:AV),pl[j]?=some (o,v)->cur pl (fun k=>decide (k<i+j+1)) i s=b8 (cur pl (fun k=>decide (k<i+j)) i s) o.dst v
 |[],_,_,_,_,_,h=>by simp at h
 |(o',v')::l,i,0,s,o,v,h=>by
  simp at h;obtain⟨rfl,rfl⟩:=h;rw[cur,cur];simp only[aew,Nat.lt_irrefl,decide_false,aet,if_false,Nat.lt_succ_self,decide_true,if_true];rw[qX l (i+1) _ _ (fun k _=>decide_eq_false (by omega)),qX l (i+1) s _ (fun k _=>decide_eq_false (by omega))]
 |(o',v')::l,i,j+1,s,o,v,h=>by
  rw[cur,cur];have e1:(decide (i<i+(j+1)+1))=true:=decide_eq_true (by omega);have e2:(decide (i<i+(j+1)))=true:=by simp
  simp only[e1,e2,if_true];have:=K7 l (i+1) j (b8 s o'.dst v') o v (by simpa using h);rw[show i+(j+1)+1=i+1+j+1 by omega,show i+(j+1)=i+1+j by omega];exact this
theorem Ck(d:Nat):∀ (a:List (Oper × AV)) (L:Nat->Bool) (i:Nat) (s:List AV),cur a L (i+d) s=cur a (fun k=>L (k+d)) i s
 |[],_,_,_=>rfl
 |(o,v)::a,L,i,s=>by
  rw[cur,cur,show i+d+1=i+1+d by omega,Ck d a L (i+1)]
def dh(keep:List Nat):Nat->List AV->List AV
 |_,[]=>[]
 |i,x::s=>(match km i keep with|true=>x|false => .any)::dh keep (i+1) s
theorem FT(keep:List Nat):∀ (i:Nat) (s:List AV),(dh keep i s).length=s.length
 |_,[]=>rfl
 |i,_::s=>by simp[dh,FT keep (i+1) s]
theorem FU(keep:List Nat):∀ (i t:Nat) (s:List AV) (x:AV),(dh keep i s)[t]?=some x->x=.any\/(i+t∈keep/\s[t]?=some x)
 |_,_,[],_,h=>by simp[dh]at h
 |i,0,y::s,x,h=>by
  simp only[dh,ago,Option.some.injEq]at h;split at h
  ·rename_i q;subst h;exact .inr ⟨by simpa using zK.1 q,rfl⟩
  ·exact .inl h.symm
 |i,t+1,y::s,x,h=>by
  simp only[dh,agf]at h;rcases FU keep (i+1) t s x h with h|⟨h1,h2⟩
  ·exact .inl h
  ·exact .inr ⟨by rwa [show i+(t+1)=i+1+t by omega],by simpa using h2⟩
theorem VS.mask{c:Cx}{s:List AV}{t:Array Value}(h:VS c s t){keep:List Nat}:VS c (dh keep 0 s) t:=by
 refine⟨by rw[FT];exact h.1,fun i x v hx hv=>?_⟩;rcases FU _ 0 i _ x hx with rfl|⟨-,hx⟩
 ·exact .any v
 ·exact h.2 i x v hx hv
def ep(E:Env)(ops:Array Oper)(o:Oper)(s:List AV)(h:List af)(v:AV)(h':List af):Prop :=
 ∀ (c:Cx) (a:Act),aM E.G c->c.heap=h->a.defers=[]->VS c (dh (dK ops o) 0 s) a.tmps->∀ (j:Nat),ops[j]?=some o->∀ (K:Act->World->Prop) (Q:Exit->Act->World->Prop),
  (∀ (c':Cx) (u:Value),aM E.G c'->c'.heap=h'->Step c c'->VR c' v u->K (a.put o.dst u) c'.w)->wpOp E.P ops Q j K a c.w
section
variable {E:Env} {ops:Array Oper}
def bU(listed:Array Bool)(i:Nat):Bool:=listed.getD i false
def DC(ops:Array Oper)(listed:Array Bool):Prop:=listed.size=ops.size/\∀ j o e,ops[j]?=some o->bU listed j=true->e∈o.after->Region.binds .any e=true->bU listed e.on=true
theorem DC.dep{listed:Array Bool}(hd:DC ops listed){i j:Nat}(h:jL ops i j)(hj:bU listed j=true):bU listed i=true:=by
 induction h with
 |one ho he hb=>exact hd.2 _ _ _ ho hj he hb
 |step h ho he hb ih=>exact ih (hd.2 _ _ _ ho hj he hb)
theorem DC.ready{listed:Array Bool}(hd:DC ops listed){i j:Nat}(hj:j∈Region.ready .any ops listed)(h:jL ops i j):bU listed i=true:=by
 obtain⟨-,o,ho,aL⟩:=mem_ready.1 hj;cases h with
 |one cW he hb=>rw[ho]at cW;cases cW;exact aL _ he hb
 |step h cW he hb=>rw[ho]at cW;cases cW;exact hd.dep h (aL _ he hb)
theorem DC.set{listed:Array Bool}(hd:DC ops listed){j:Nat}(hj:j∈Region.ready .any ops listed):DC ops (listed.setIfInBounds j true):=by
 refine⟨by simpa using hd.1,fun i o e hi hl he hb=>?_⟩;by_cases dY:j=i
 ·subst dY;obtain⟨-,o',cW,aL⟩:=mem_ready.1 hj;rw[hi]at cW;cases cW;exact getD_set_true (aL e he hb)
 ·have:bU listed i=true:=by unfold bU at hl ⊢;rwa [getD_set_ne false dY]at hl
  exact getD_set_true (hd.2 i o e hi this he hb)
theorem FV{listed:Array Bool}{j i:Nat}(hj:j<listed.size):bU (listed.setIfInBounds j true) i=(bU listed i||decide (i=j)):=by
 unfold bU;by_cases h:j=i
 ·subst h;simp[hj]
 ·rw[getD_set_ne false h];simp[Ne.symm h]
theorem uT{listed:Array Bool}(hd:DC ops listed){j:Nat}(hj:j∈Region.ready .any ops listed):bU listed j=false/\j<ops.size:=by
 obtain⟨h1,o,ho,-⟩:=mem_ready.1 hj;have ah:j<ops.size:=(agk.1 ho).1;refine⟨?_,ah⟩;have:j<listed.size:=by rw[hd.1];exact ah
 unfold bU;simp[this]at h1 ⊢;exact h1
theorem FW(hc:Ch ops){listed:Array Bool}(hd:DC ops listed){j:Nat}(hj:j<ops.size)(hn:bU listed j=false):∃ i,i<=j/\i∈Region.ready .any ops listed:=by
 induction j using Nat.strongRecOn with
 |ind j ih =>
  by_cases aL:∀ i,i<j->bU listed i=true
  ·refine⟨j,aed _,mem_ready.2 ⟨?_,ops[j],by simp[hj],fun e he hb=>aL _ (hc.low j _ e (by simp[hj]) he hb)⟩⟩;have:j<listed.size:=by rw[hd.1];exact hj
   unfold bU at hn;simp[this]at hn ⊢;exact hn
  ·have:∃ i,i<j/\bU listed i=false:=by
    apply Classical.byContradiction;intro aJ;exact aL fun i hi=>by
     cases hl:bU listed i with
     |true=>rfl
     |false=>exact absurd ⟨i,hi,hl⟩ aJ
   obtain⟨i,hi,hl⟩:=this;obtain⟨k,hk,hr⟩:=ih i hi (by omega) hl;exact⟨k,by omega,hr⟩
def jM(L:Nat->Bool):Nat->Nat
 |0=>0
 |n+1=>jM L n+if L n then 0 else 1
theorem FY{L L':Nat->Bool}{j:Nat}(h:∀ i,i≠j->L' i=L i)(hj:L j=false)(eU:L' j=true):∀ n,(j<n->jM L' n+1=jM L n)/\(n<=j->jM L' n=jM L n)
 |0=>⟨fun h=>by omega,fun _=>rfl⟩
 |n+1=>by
  obtain⟨h1,h2⟩:=FY h hj eU n;simp only[jM];by_cases hn:n=j
  ·subst hn;refine⟨fun _=>?_,fun h=>by omega⟩;rw[h2 (aed _),hj,eU];simp
  ·rw[h n hn];exact⟨fun hl=>by have:=h1 (by omega);omega,fun hl=>by rw[h2 (by omega)]⟩
theorem K8{L:Nat->Bool}{j:Nat}(hj:L j=false):∀ n,j<n->0<jM L n
 |0,h=>by omega
 |n+1,h=>by
  simp only[jM];by_cases hn:n=j
  ·subst hn;rw[hj];simp
  ·have:=K8 hj n (by omega);omega
theorem FZ{a b:Oper}{d:Nat}(ha:a.dst=some d)(hb:d∈b.dst.toList++dK ops b):pV ops a b=true:=by
 simp only[pV,ha,zK.2 hb,agr]
theorem SV{a b:Oper}{d:Nat}(hb:b.dst=some d)(ha:d∈dK ops a):pV ops a b=true:=by
 simp only[pV,hb,zK.2 ha,Bool.or_true]
theorem F0(K9:∀ i j oi oj,i<j->ops[i]?=some oi->ops[j]?=some oj->pV ops oi oj=true->jL ops i j){q:List (Oper × AV)}(dG:∀ (k:Nat) (o:Oper) (v:AV),q[k]?=some (o,v)->ops[k]?=some o){listed:Array Bool}(hd:DC ops listed){i:Nat}(hi:i∈Region.ready .any ops listed)
  {o:Oper} {v:AV} (jN:q[i]?=some (o,v)) {s0:List AV} {c:Cx} {a:Act} (h4:VS c (cur q (bU listed) 0 s0) a.tmps) :
  (∀ (c':Cx) (u:Value),(∀ x v,VR c x v->VR c' x v)->VR c' v u->VS c' (cur q (bU (listed.setIfInBounds i true)) 0 s0) (a.put o.dst u).tmps)/\VS c (dh (dK ops o) 0 (cur q (fun k=>decide (k<i)) 0 s0)) a.tmps:=by
 obtain⟨lS,fU⟩:=uT hd hi;have mv:=dG i o v jN;have wr:∀ k o' v',q[k]?=some (o',v')->(k<i->pV ops o' o=true->bU listed k=true)/\(i<k->pV ops o o'=true->bU listed k=false):=fun k o' v' hk=>by
  have aP:=dG k o' v' hk;refine⟨fun ah nx=>hd.ready hi (K9 k i o' o ah aP mv nx),fun ah nx=>?_⟩;cases hl:bU listed k with
  |false=>rfl
  |true=>have:=hd.dep (K9 i k o o' ah mv aP nx) hl;rw[lS]at this;cases this
 have bR:i<listed.size:=by rw[hd.1];exact fU
 have dR:=fun q=>FV (i:=q) bR;refine⟨fun c' u k3 k4=>?_,?_⟩
 ·refine⟨by rw[s9];have:=h4.1;rw[s9]at this;cases Cl:o.dst<;>simp[Act.put,this],fun t x u' hx yS=>?_⟩;by_cases ik:o.dst=some t
  ·have e1:(cur q (bU (listed.setIfInBounds i true)) 0 s0)[t]?=(cur q (fun k=>decide (k<0+i+1)) 0 s0)[t]? := by
    refine zL _ _ _ 0 s0 s0 rfl rfl (fun k o' v' kh fy=>?_);rw[ad5,ad5,dR];rcases agn k i with ah|rfl|uz
    ·rw[(wr k o' v' kh).1 ah (FZ fy (agc _ (by simp[ik])))];simp;omega
    ·simp
    ·rw[(wr k o' v' kh).2 uz (FZ ik (agc _ (by simp[fy])))];simp;omega
   rw[e1,K7 _ 0 i s0 o v jN,ik]at hx;have F1:t<(cur q (fun k=>decide (k<0+i)) 0 s0).length:=by
    have:=aX hx
    simpa [b8]using this
   rw[b8,List.getElem?_set_self F1]at hx;cases hx;have SX:t<a.tmps.size:=by rw[<- h4.1,s9];rwa [s9]at F1
   have xx:(a.tmps.setIfInBounds t u)[t]?=some u':=by simpa [Act.put,ik]using yS
   rw[Array.getElem?_setIfInBounds_self_of_lt SX]at xx;cases xx;exact k4
  ·have e1:(cur q (bU (listed.setIfInBounds i true)) 0 s0)[t]?=(cur q (bU listed) 0 s0)[t]? := by
    refine zL _ _ _ 0 s0 s0 rfl rfl (fun k o' v' kh fy=>?_);rw[ad5,dR];have:k≠i:=fun e=>by
     subst e;rw[jN]at kh;cases kh;exact ik fy
    simp[this]
   rw[e1]at hx;refine k3 _ _ (h4.2 t x u' hx ?_);cases Cl:o.dst with
   |none=>simpa [Act.put,Cl]using yS
   |some d =>
    rw[Cl]at ik;have aJ:d≠t:=fun e=>ik (by rw[e])
    simpa [Act.put,Cl,Array.getElem?_setIfInBounds_ne aJ]using yS
 ·refine⟨by rw[FT,s9];have:=h4.1;rwa [s9]at this,fun t x u hx hu=>?_⟩;rcases FU _ 0 t _ x hx with rfl|⟨hk,hx⟩
  ·exact .any u
  ·rw[ad5]at hk;refine h4.2 t x u ?_ hu;rw[<- hx];refine zL _ _ _ 0 s0 s0 rfl rfl (fun k o' v' kh fy=>?_);rw[ad5];rcases agn k i with ah|rfl|uz
   ·rw[(wr k o' v' kh).1 ah (FZ fy (agd _ hk))];simp[ah]
   ·rw[lS];simp
   ·rw[(wr k o' v' kh).2 uz (SV fy hk)];simp;omega
theorem La{pl:List (Oper × AV)}(kc:pl.map (·.1)=ops.toList):pl.length=ops.size/\∀ (k:Nat) (o:Oper) (v:AV),pl[k]?=some (o,v)->ops[k]?=some o:=by
 refine⟨by have:=congrArg List.length kc;simpa using this,fun k o v hk=>?_⟩;have:=congrArg (·[k]?) kc;simp only[ad1,hk,Option.map_some]at this
 simpa using this.symm
theorem F2{L:Nat->Bool}{n i:Nat}(h:jM L n<=0)(hi:i<n):L i=true:=by
 cases hl:L i with
 |true=>rfl
 |false=>have:=K8 hl n hi;omega
theorem ta(n i:Nat):bU (afz n false) i=false:=by
 unfold bU;simp[Array.getElem?_replicate];split<;>rfl
theorem Lb(n:Nat):∀ k,jM (bU (afz n false)) k<=k:=by
 intro k
 induction k with
 |zero=>exact aed _
 |succ k ih=>simp only[jM];split<;>omega
end
section
variable {E:Env} {aj:FuncId} {R:cF} {ops:Array Oper} {s:List AV} {h:List af}
theorem ep.skip{o:Oper}(hw:ig ops o (dh (dK ops o) 0 s) false):ep E ops o s h (.d .undef) h:=fun c a h1 h2 _ h4 j hj K Q hK=>by
 unfold wpOp;simp only[hj,hw c a.tmps h4,aet,if_false];exact hK c Go.undef h1 h2 (Step.refl c h1.bS) (.d _ _ .undef)
theorem SY{s:List AV}{o:Oper}{fx:Operand}{args:Array Operand}{ts:Array TypeId}{f:FuncId}{a1 a2 av:List AV}{ds:List DV}{r:DV}(ho:o.op=.call { callee := .value fx,args:=args,argTypes:=ts })
  (hf:bh E.G s fx (.fn (.func f) a1 a2)) (ha:jC E.G s args.toList av) (hd:a1++av++a2=ds.map .d) (hc:ar E f ds (· = r)) {c:Cx} {a:Act} (h1:aM E.G c) (h4:VS c s a.tmps) {K:Act->World->Prop} {Q:Exit->Act->World->Prop}
  (hK:∀ (c':Cx) (u:Value),aM E.G c'->c'.heap=c.heap->Step c c'->VR c' (.d r) u->K (a.put o.dst u) c'.w):o.wp E.P a c.w K Q:=by
 unfold ar at hc;obtain⟨v1,v2,e1,e2,e3⟩:=mr (hf c a h1 h4);have e4:=ha c a h1 h4;have e5:=(e2.append e4).append e3;rw[hd]at e5;have yP:∀ b,c.bad b->b<c.w.heap.size:=fun b hb=>hb.elim (h1.bS b) fun⟨j,n,hj⟩=>(h1.bB j b n hj).1;have EH:uq E.G c.bad c.w:=fun g e hg=>by
  have hp:∀ p,VR c (.bQ e 0) p->VR ⟨fun _=>none,[],c.bad,c.w⟩ (.bQ e 0) p:=fun p hp=>by
   cases hp with
   |bQ _ _ blk o' fv k1 k2 k3 k4=>exact .bQ _ _ blk o' fv (fun hb=>k1 (wS.1 hb)) k2 k3 (fun j x hx=>wT (k4 j x hx))
  exact hp _ (h1.fS g e hg)
 have je:=hc.2 c.bad c.w _ yP EH ⟨by simpa using e5.1,e5.pF⟩;have cK:=yO (P:=E.P) (w:=c.w) (a:=a) ho e1 hc.1;have kf:(v1.toArray++args.map a.eval++v2.toArray)=(v1++args.toList.map a.eval++v2).toArray:=by
  apply afp;simp
 rw[kf]at cK;unfold Oper.wp;rw[cK,Oper.upon_enter];refine je.mono fun e w' he=>?_;obtain⟨v,r',rfl,rfl,hv,hx⟩:=he;obtain⟨k1,k2⟩:=h1.grow hx;exact hK (c.eB w') v k1 rfl k2 (.d _ _ hv)
theorem ep.call{o:Oper}{fx:Operand}{args:Array Operand}{ts:Array TypeId}{f:FuncId}{a1 a2 av:List AV}{ds:List DV}{r:DV}(hw:ig ops o (dh (dK ops o) 0 s) true)(ho:o.op=.call { callee := .value fx,args:=args,argTypes:=ts })
  (hf:bh E.G (dh (dK ops o) 0 s) fx (.fn (.func f) a1 a2)) (ha:jC E.G (dh (dK ops o) 0 s) args.toList av) (hd:a1++av++a2=ds.map .d) (hc:ar E f ds (· = r)):ep E ops o s h (.d r) h:=fun c a h1 h2 _ h4 j hj K Q hK=>by
 unfold wpOp;simp only[hj,hw c a.tmps h4,if_true];left;exact SY ho hf ha hd hc h1 h4 fun c' u k1 k2 k3 k4=>hK c' u k1 (k2.trans h2) k3 k4
end
def qY:Op->Bool
 | .box .. => false
 | .alloc .. => false
 | .store .. => false
 | .makeSlice .. => false
 | .makeMap .. => false
 | .mapUpdate .. => false
 | .call { callee := .builtin .append,.. }=>false
 |_=>true
def xy{α:Sort _}(keep:List Nat):Nat->List AV->(List AV->α)->α
 |_,[],k=>k []
 |i,x::s,k=>match km i keep with
  |true=>xy keep (i+1) s fun s'=>k (x::s')
  |false=>xy keep (i+1) s fun s'=>k (.any::s')
theorem Lc{α:Sort _}(keep:List Nat):∀ (i:Nat) (s:List AV) (k:List AV->α),xy keep i s k=k (dh keep i s)
 |_,[],_=>rfl
 |i,x::s,k=>by
  simp only[xy,dh];split<;>rename_i q<;>rw[Lc keep (i+1)]<;>simp only[q]
theorem SZ{T:List bu}{G:List (Nat × DV)}{o:Op}{s:List AV}{h:List af}{stop:Prop}{K:AV->Prop}(ho:qY o=true)(H:jZ T G o s h stop (fun v _=>K v)):jZ T G o s h stop (fun v h'=>h'=h/\K v):=by
 cases o
 case box=>cases ho
 case alloc=>cases ho
 case store=>cases ho
 case unOp op t x=>cases op<;>simpa only[jZ,true_and]using H
 case call c =>
  obtain⟨callee,args,ts⟩:=c;cases callee with
  |builtin b=>cases b<;>simpa only[jZ,true_and]using H
  |_=>simpa only[jZ]using H
 all_goals simpa only[jZ,true_and]using H
theorem S0{T:List bu}{G:List (Nat × DV)}{o:Op}{s:List AV}{h:List af}{stop:Prop}{K:AV->Prop}(ho:qY o=true)(H:qK T G o s h stop (fun v _=>K v)):qK T G o s h stop (fun v h'=>h'=h/\K v):=by
 cases o
 case store=>cases ho
 case makeSlice=>cases ho
 case slice t x lo hi mx=>cases mx<;>simpa only[qK,sD,true_and]using H
 case call c =>
  obtain⟨callee,args,ts⟩:=c;cases callee with
  |builtin b=>cases b<;>first|(simpa only[qK,sD]using H)|(simp[qY]at ho)
  |_=>simpa only[qK,sD]using H
 all_goals simpa only[qK,sD,true_and]using H
theorem S1{E:Env}{o:Op}{s:List AV}{h:List af}{stop:Prop}{K:AV->Prop}(ho:qY o=true):xa E o s h stop (fun v h'=>h'=h/\K v)=xa E o s h stop (fun v _=>K v):=by
 unfold xa;split
 ·simp[qY]at ho
 ·simp only[true_and]
 ·simp only[true_and]
 ·simp[qY]at ho
 ·rfl
theorem S2{E:Env}{o:Op}{s:List AV}{h:List af}{stop:Prop}{K:AV->Prop}(ho:qY o=true)(H:ot E o s h stop (fun v _=>K v)):ot E o s h stop (fun v h'=>h'=h/\K v):=by
 unfold ot at H ⊢;rw[S1 ho];have:=S0 ho H;have e:(fun v=>h=h/\K v)=K:=by funext v;simp
 rw[e];exact this
@[irreducible] def tc (E : Env) (f : FuncId) (ds : List DV) (h : List af) (K1 : DV -> Prop) (K2 : AV -> List af -> Prop) : Prop :=
 (∃ r,ar E f ds (· = r)/\K1 r)\/∃ r h1,aw E f [] (ds.map .d) (fun a b=>a=r/\b=h1)/\K2 (jd [] h r) (fk [] h h1)
theorem ax{E:Env}{f:FuncId}{ds:List DV}{h:List af}{K1:DV->Prop}{K2:AV->List af->Prop}{r:DV}(H:ar E f ds (· = r))(hk:K1 r):tc E f ds h K1 K2:=by unfold tc;exact .inl ⟨r,H,hk⟩
theorem S3{E:Env}{f:FuncId}{ds:List DV}{h:List af}{K1:DV->Prop}{K2:AV->List af->Prop}{r:AV}{h1:List af}{args:List AV}(hc:aw E f [] args (fun a b=>a=r/\b=h1))(ha:args=ds.map .d)(hk:fI [] h r fun v=>jJ [] h h1 fun h'=>K2 v h'):tc E f ds h K1 K2:=by
 unfold tc;rw[nt,qT]at hk;exact .inr ⟨r,h1,ha ▸ hc,hk⟩
def uU(ro:Option Nat):Fence:={ Fence.wide with round:=ro }
theorem o6(a:Act)(d:Option Nat)(v:Value):(a.put d v).defers=a.defers:=by cases d<;>rfl
section
variable {P:Program} {ops:Array Oper} {Q:Exit->Act->World->Prop}
theorem te(hQ:∀ e a w,Q e a w->e=.normal/\a.defers=[]):∀ (l:List Nat) (a:Act) (w:World),wpOps P ops Q l a w->a.defers=[]
 |[],a,w,h=>(hQ _ _ _ h).2
 |i::l,a,w,h=>by
  simp only[wpOps]at h;split at h
  ·exact te hQ l a w h
  ·rename_i o ho;split at h
   ·rcases h with h|⟨_,a',w',h⟩
    ·unfold Oper.wp at h;generalize (execOp a.eval o).run P w=r at h;cases r with
     |ok n w' =>
      cases n with
      |value v=>have:=te hQ l _ _ h;rwa [o6]at this
      |skip=>have:=te hQ l _ _ h;rwa [o6]at this
      |defer d=>have:=te hQ l _ _ h;rw[o6]at this;cases this
      |enter f args =>
       obtain⟨e,zM,fr,he,_⟩:=h [];cases e with
       |returned v=>have:=te hQ l _ _ he;rwa [o6]at this
       |panicked c=>have:=(hQ _ _ _ he).1;cases this
       |outgrown=>obtain⟨a',w',he⟩:=he;have:=(hQ _ _ _ he).1;cases this
      |row bA args =>
       obtain⟨v,zM,he,_⟩:=h default [];have:=te hQ l _ _ he;rwa [o6]at this
      |_=>exact h.elim
     |halt x w'=>cases x with
      |panic v=>have:=(hQ _ _ _ h).1;cases this
      |_=>exact h.elim
    ·have:=(hQ _ _ _ h).1;cases this
   ·have:=te hQ l _ _ h;rwa [o6]at this
theorem zN(ro:Option Nat)(df:List Deferred)(hQ:∀ e a w,Q e a w->e=.normal/\a.defers=[]):∀ (l:List Nat) (t:Array Value) (w:World),wpOps P ops Q l ⟨t,[]⟩ w ->
  wpOpsIn (uU ro) 0 P ops (fun e a w=>a.defers=df/\Q e ⟨a.tmps,[]⟩ w) l ⟨t,df⟩ w
 |[],t,w,h=>⟨rfl,h⟩
 |i::l,t,w,h=>by
  have next:∀ (d:Option Nat) (v:Value) (w:World),wpOps P ops Q l ((⟨t,[]⟩:Act).put d v) w->wpOpsIn (uU ro) 0 P ops (fun e a w=>a.defers=df/\Q e ⟨a.tmps,[]⟩ w) l ((⟨t,df⟩:Act).put d v) w:=fun d v w h=>by
   cases d with
   |none=>exact zN ro df hQ l t w h
   |some d=>exact zN ro df hQ l _ w h
  have S4:(⟨t,df⟩:Act).eval=(⟨t,[]⟩:Act).eval:=funext fun x=>by cases x<;>rfl
  simp only[wpOps]at h;simp only[wpOpsIn];cases ho:ops[i]? with
  |none=>rw[ho]at h;exact zN ro df hQ l t w h
  |some o =>
   rw[ho]at h;simp only at h ⊢;by_cases hw:Region.wanted o (yielded ops t)=true
   ·rw[if_pos hw]at h ⊢;rcases h with h|⟨_,a',w',h⟩
    case inr=>have:=(hQ _ _ _ h).1;cases this
    refine⟨fun _ _=>trivial,?_⟩;rw[S4];unfold Oper.wp at h;cases hr:(execOp (⟨t,[]⟩:Act).eval o).run P w with
    |ok n w' =>
     rw[hr]at h;cases n with
     |value v=>rw[sB hr (by simp)];exact next _ _ _ h
     |skip=>rw[sB hr (by simp)];exact next _ _ _ h
     |defer d=>have:=te hQ l _ _ h;rw[o6]at this;cases this
     |enter f args =>
      rw[sB hr (by simp)];refine⟨fun e=>by simp[uU,Fence.wide]at e,?_⟩;have h2:Calls P f args w' fun e zM=>match e with
        | .returned v=>wpOpsIn (uU ro) 0 P ops (fun e a w=>a.defers=df/\Q e ⟨a.tmps,[]⟩ w) l ((⟨t,df⟩:Act).put o.dst v) zM
        | .panicked chain=>df=df/\Q (.panic chain) ⟨t,[]⟩ zM
        | .outgrown=>LetsOut (fun e a w=>a.defers=df/\Q e ⟨a.tmps,[]⟩ w):=Calls.mono h (fun e zM he=>by
       cases e with
       |returned v=>exact next _ _ _ he
       |panicked c=>have:=(hQ _ _ _ he).1;cases this
       |outgrown=>obtain⟨a',w',he⟩:=he;have:=(hQ _ _ _ he).1;cases this)
      have h3:=callsIn_wide (n:=0).2 h2;refine⟨trivial,fun cs dP=>?_⟩;obtain⟨e,w2,fr,k1,k2,k3⟩:=h3.2 cs (room_wide _);refine⟨e,w2,fr,?_,k2,k3⟩;cases e<;>exact k1
     |row bA args =>
      rw[sB hr (by simp)];refine⟨fun e=>by simp[uU,Fence.wide]at e,fun c cs _=>?_⟩;obtain⟨v,w2,k1,k2⟩:=h c cs;exact⟨v,w2,next _ _ _ k1,stepsIn_wide.2 k2⟩
     |_=>exact h.elim
    |halt x w' =>
     rw[hr]at h;cases x with
     |panic v=>have:=(hQ _ _ _ h).1;cases this
     |_=>exact h.elim
   ·rw[if_neg hw]at h ⊢;exact⟨fun _ _=>trivial,next _ _ _ h⟩
end
section
variable {E:Env} {ops:Array Oper} {aj:FuncId} {R:cF} {s:List AV} {h:List af} {lits:List Nat}
theorem AW.S5{id:Nat}{k:List aT}(hm:E.P.follows .mixedOrders=true)
  (H:∀ (c:Cx) (t:Array Value) (Q:Exit->Act->World->Prop),(∀ (a:Act) (c':Cx) (s':List AV) (h':List af),AW E R.fx.f0 ⟨⟨aj,R.fx.cA,R.fx.aN⟩,k,s'⟩ R.fx.cls h' R->aM E.G c'->c'.heap=h'->a.defers=[]->VS c' s' a.tmps->Step c c'->Q .normal a c'.w)->aM E.G c->c.heap=h->VS c s t->wpAny E.P .any ops Q ops.size (afz ops.size false) ⟨t,[]⟩ c.w) :
  AW E R.fx.f0 ⟨⟨aj,R.fx.cA,R.fx.aN⟩,.code (.region id ops true)::k,s⟩ R.fx.cls h R:=by
 unfold AW;intro c0 c t ts h0 h1 h2 h3 hr br h4 h5 cs;have hx:Proofs.YtfmdaiojokniiaaGreatDoor.Ext c.w { c.w with drawn:=c.w.drawn+1 }:=⟨rfl,rfl,rfl,aed _,fun _ _=>rfl⟩;obtain⟨g1,g2⟩:=h3.grow hx
 let Q:Exit->Act->World->Prop:=fun e a w=>(e=.normal/\a.defers=[])/\∃ (c':Cx) (s':List AV) (h':List af),AW E R.fx.f0 ⟨⟨aj,R.fx.cA,R.fx.aN⟩,k,s'⟩ R.fx.cls h' R/\aM E.G c'/\c'.heap=h'/\VS c' s' a.tmps/\Step c c'/\w=c'.w
 have F3:(Code.region id ops true).wpIn (uU R.fx.cA) 0 E.P (fun e a w=>a.defers=marks R.fx.aN/\Q e ⟨a.tmps,[]⟩ w) ⟨t,marks R.fx.aN⟩ c.w:=by
  refine wpIn_region_draw fun tt=>?_;simp only[Region.schedule,hm,agr,if_true];refine zN R.fx.cA (marks R.fx.aN) (fun e a w he=>he.1) _ t _ (wpAny_sound ops.size tt _ _ _ ?_);exact H (c.eB { c.w with drawn:=c.w.drawn+1 }) t Q (fun a c' s' h' hK r1 r2 r3 r4 r5=>⟨⟨rfl,r3⟩,c',s',h',hK,r1,r2,r4,g2.trans r5,rfl⟩) g1 h2 (g2.vs h4)
 obtain⟨e,a',w',⟨hd,⟨⟨rfl,-⟩,c',s',h',hA,r1,r2,r4,r5,rfl⟩⟩,F4⟩:=F3 (bf ⟨aj,R.fx.cA,R.fx.aN⟩) (k.map aT.bK) (eV R.fx.cls ts++cs) rfl trivial (fun d hd=>by cases hd);unfold AW at hA;obtain⟨c2,fr,r,v,q1,q2,q3,uv,q4,q5,q6⟩:=hA c0 c' a'.tmps ts h0 (ek h1) r2 r1 (hr.step r5) (br.step h3 r5) r4 (r5.cr h5) cs;refine⟨c2,fr,r,v,q1,q2,q3,uv,?_,q5,q6⟩;have zk:a'=⟨a'.tmps,marks R.fx.aN⟩:=by cases a';simp only at hd;subst hd;rfl
 have:Steps E.P (lone ((bf ⟨aj,R.fx.cA,R.fx.aN⟩).atR ⟨t,marks R.fx.aN⟩ (.code (.region id ops true)::k.map aT.bK)) (eV R.fx.cls ts++cs) c.w) (lone ((bf ⟨aj,R.fx.cA,R.fx.aN⟩).atR a' (k.map aT.bK)) (eV R.fx.cls ts++cs) c'.w):=StepsIn.steps F4;rw[zk]at this;exact this.trans q4
end
section
variable {E:Env} {ops:Array Oper} {ab:List Nat} {h:List af} {c:Cx}
theorem VS.zO{s:List AV}{t:Array Value}{H:List af}(hv:VS c s t)(hh:c.heap=H)(hs:∀ j∈ab,H[j]?=h[j]?):VS (c.eM ab) (s.map (gj ab h)) t:=by
 subst hh;refine⟨by rw[aff];exact hv.1,fun i x v hx hu=>?_⟩;rw[ad1]at hx;cases hy:s[i]? with
 |none=>rw[hy]at hx;cases hx
 |some y =>
  rw[hy]at hx;cases hx;rw[<- Kv hs];exact Kj (hv.2 i y v hy hu)
structure Seen(ab:List Nat)(h h1 H:List af):Prop where
 nodup:ab.Nodup
 lt:∀ j∈ab,j<h.length
 len:h.length+(h1.length-ab.length)<=H.length
 same:∀ j∈ab,H[j]?=h[j]?
 new:∀ j∈dQ ab h h1,H[j]?=some .hole
theorem ep.zO{o:Oper}{s:List AV}{H h1:List af}{v:AV}(hw:ig ops o (dh (dK ops o) 0 s) true)(ho:bz E o.op ((dh (dK ops o) 0 s).map (gj ab h)) (eF ab h) v h1)(hs:Seen ab h h1 H):ep E ops o s H (jd ab h v) (gp (ab++dQ ab h h1) (fk ab h h1) H):=fun c a k1 h2 _ h4 j hj K Q hK=>by
 obtain⟨c1,u,d1,rfl,k3,r1,st⟩:=ho o (c.eM ab) a rfl (by rw[<- Fs hs.same,<- h2];rfl) (k1.eM hs.nodup) (h4.zO h2 hs.same);subst h2;have hb:lN c c1 ab h:=⟨hs.nodup,hs.lt,hs.len,hs.same,hs.new,(Rel.refl _ Su).step st,fun i b n hi=>(k3.bB i b n hi).2⟩;have:=hK (c.take c1 ab h) u (k1.take k3 hb) rfl (BU k1 hb) (Fm k1 hb r1);unfold wpOp;simp only[hj,hw c a.tmps h4,if_true];left;unfold Oper.wp;rcases d1 with d1|⟨d1,rfl⟩
 ·rw[show c.w=(c.eM ab).w from rfl,d1];exact this
 ·rw[show c.w=(c.eM ab).w from rfl,d1];exact this
theorem ep.F5{o:Oper}{s:List AV}{H h1:List af}{fx:Operand}{args:Array Operand}{ts:Array TypeId}{f:FuncId}{a1 a2 av:List AV}{r:AV}(hw:ig ops o (dh (dK ops o) 0 s) true)(ho:o.op=.call { callee := .value fx,args:=args,argTypes:=ts })
  (hf:bh E.G (dh (dK ops o) 0 s) fx (.fn (.func f) a1 a2)) (ha:jC E.G (dh (dK ops o) 0 s) args.toList av) (hc:aw E f (eF ab h) ((a1++av++a2).map (gj ab h)) (fun a b=>a=r/\b=h1)) (hs:Seen ab h h1 H):ep E ops o s H (jd ab h r) (gp (ab++dQ ab h h1) (fk ab h h1) H):=fun c a k1 h2 _ h4 j hj K Q hK=>by
 unfold wpOp;simp only[hj,hw c a.tmps h4,if_true];left;obtain⟨v1,v2,e1,e2,e3⟩:=mr (hf c a k1 h4);have e5:=(e2.append (ha c a k1 h4)).append e3;have hb:lH E.P f:=by unfold aw at hc;exact hc.1
 subst h2;have je:=hc.Sx (c:=c) hs.nodup hs.lt hs.same (fun r' h' ⟨_,q⟩=>by subst q;exact⟨hs.len,hs.new⟩) k1 e5;have cK:=yO (P:=E.P) (w:=c.w) (a:=a) ho e1 hb;have kf:(v1.toArray++args.map a.eval++v2.toArray)=(v1++args.toList.map a.eval++v2).toArray:=by
  apply afp;simp
 rw[kf]at cK;unfold Oper.wp;rw[cK,Oper.upon_enter];refine je.mono fun e w' he=>?_;obtain⟨c',r',qM,v,rfl,rfl,⟨rfl,rfl⟩,q1,q2,q3,q4⟩:=he;exact hK c' v q3 q1 q4 q2
def xz(x y:AV):Bool:=match y with
 | .any=>match x with
  | .any=>true
  |_=>false
 |_=>true
def zP{β:Type}(f:β->Bool):List β->Bool
 |[]=>true
 |a::l=>match f a with
  |true=>zP f l
  |false=>false
theorem F6{β:Type}{f:β->Bool}:∀ {l:List β},zP f l=true->∀ x∈l,f x=true
 |[],_,_,h=>by simp at h
 |a::l,H,x,h=>by
  unfold zP at H;split at H
  ·rename_i q;rcases afu.1 h with rfl|h
   ·exact q
   ·exact F6 H x h
  ·cases H
def xA(ab:List Nat)(h:List af):Bool:=zP (fun j=>match dJ h j with
 |some (.cells cs)=>zP (fun x=>xz x (gR ab h x)) cs
 |_=>true) ab
theorem S6{x:AV}(H:xz x (gR ab h x)=true):la ab h (gR ab h x)=x:=by
 have ri:∀ {j i:Nat},dn ab j=some i->gm ab h i=j/\ou ab h i=nn h j:=fun hi=>by simp only[gm,ou,eC,kl hi,and_self]
 cases x;all_goals (try (simp only[gR]at H ⊢))
 all_goals first
  |rfl
  |(simp only[xz]at H;cases H;done)
  |(split at H
    · rename_i hi;split at H
      · rename_i hb;first
          |(split at H
            · rename_i q;have := adX q;simp only[la, ri hi, nn, hb, this, aew]
            · simp only[xz]at H;cases H)
          |simp only[la, ri hi]
      · simp only[xz]at H;cases H
    · simp only[xz]at H;cases H)
theorem Ld(hc:xA ab h=true):fk ab h (eF ab h)=h:=by
 refine aeM fun j=>?_;rcases adV j h.length with hl|hl
 ·cases hx:dn ab j with
  |none=>exact Fh hl hx
  |some i =>
   have hj:h[j]?=some h[j]:=afo hl;rw[Kg hl hx (sM (kl hx) hj),hj];have hq:=F6 hc j (afh (kl hx));simp only[eC,hj]at hq;cases hb:h[j]with
   |cells cs =>
    rw[hb]at hq;have:(cs.map (gR ab h)).map (la ab h)=cs:=by
     rw[agj];exact(List.map_congr_left fun x hx=>S6 (F6 hq x hx)).trans (List.map_id _)
    simp only[oZ,mA,this]
   |arr g ts l=>simp only[oZ,mA,nn,eC,hj,hb,aew]
   |map es=>rfl
   |gone=>rfl
   |hole=>rfl
 ·rw[adW hl,adW (by rw[sL];simp[eF];exact hl)]
end
def mD(h:List af)(b:Nat):Option af:=if b<h.length then h[b]? else some .hole
structure qZ(E:Env)(ops:Array Oper)(o:Oper)(s:List AV)(h:List af)(v:AV)(h':List af)(t w:List Nat):Prop where
 len:h.length<=h'.length
 old:∀ b,b<h.length->b ∉ w->h'[b]?=h[b]?
 new:∀ b,h.length<=b->b<h'.length->b∈w
 sub:∀ b∈w,b∈t
 lt:∀ b∈t,b<h'.length
 act:∀ H:List af,h'.length<=H.length->(∀ b∈t,H[b]?=mD h b)->ep E ops o s H v (gp w h' H)
section
variable {E:Env} {ops:Array Oper} {o:Oper} {s:List AV} {h:List af} {v:AV}
theorem qZ.same{t:List Nat}(hl:∀ b∈t,b<h.length)(H:∀ H:List af,h.length<=H.length->(∀ b∈t,H[b]?=h[b]?)->ep E ops o s H v H):qZ E ops o s h v h t [] where
 len:=aed _
 old:=fun _ _ _=>rfl
 new:=fun b h1 h2=>by omega
 sub:=fun b h=>by simp at h
 lt:=hl
 act:=fun X h1 h2=>by
  rw[show gp [] h X=X from aeM fun j=>pO (by simp)];exact H X h1 fun b hb=>by rw[h2 b hb,mD,if_pos (hl b hb)]
theorem Le{ab:List Nat}{h1 H:List af}(hn:ab.Nodup)(ah:∀ j∈ab,j<h.length)(h2:(fk ab h h1).length<=H.length)(h3:∀ b∈ab++dQ ab h h1,H[b]?=mD h b):Seen ab h h1 H :=
 ⟨hn,ah,by rwa [sL]at h2,fun j hj=>by rw[h3 j (agc _ hj),mD,if_pos (ah j hj)],fun j hj=>by rw[h3 j (agd _ hj),mD,if_neg (by have:=o0.1 hj;omega)]⟩
theorem qZ.of{ab:List Nat}{h1:List af}(hn:ab.Nodup)(ah:∀ j∈ab,j<h.length)(H:∀ H,Seen ab h h1 H->ep E ops o s H v (gp (ab++dQ ab h h1) (fk ab h h1) H)):qZ E ops o s h v (fk ab h h1) (ab++dQ ab h h1) (ab++dQ ab h h1) where
 len:=by rw[sL];omega
 old:=fun b hb hm=>Fh hb (by
  cases hx:dn ab b with
  |none=>rfl
  |some i=>exact absurd (agc _ (afh (kl hx))) hm)
 new:=fun b h2 h3=>agd _ (o0.2 ⟨h2,by rwa [sL]at h3⟩)
 sub:=fun _ h=>h
 lt:=fun b hb=>by
  rw[sL];rcases List.mem_append.1 hb with h|h
  ·have:=ah b h;omega
  ·exact(o0.1 h).2
 act:=fun X h2 h3=>H X (Le hn ah h2 h3)
theorem qZ.read{ab:List Nat}(hn:ab.Nodup)(ah:∀ j∈ab,j<h.length)(hc:xA ab h=true)(H:∀ H,Seen ab h (eF ab h) H->ep E ops o s H v (gp (ab++dQ ab h (eF ab h)) (fk ab h (eF ab h)) H)):qZ E ops o s h v h ab []:=by
 have e:dQ ab h (eF ab h)=[]:=by simp[dQ,eF]
 refine .same ah fun X h1 h2=>?_;have:=H X (Le hn ah (by rw[Ld hc];exact h1) (fun b hb=>by rw[e,ags]at hb;rw[h2 b hb,mD,if_pos (ah b hb)]));rw[e,ags,Ld hc]at this
 rwa [show gp ab h X=X from aeM fun j=>by
  by_cases hj:j∈ab
  ·rw[zf hj (by have:=ah j hj;omega) (afo (ah j hj)),h2 j hj,afo (ah j hj)]
  ·exact pO hj]at this
end
def o7:List Nat->List Nat->Bool
 |[],_=>false
 |a::l,m=>match uI a m with
  |true=>true
  |false=>o7 l m
theorem Cm:∀ {l m:List Nat},o7 l m=true↔∃ b,b∈l/\b∈m
 |[],m=>by simp[o7]
 |a::l,m=>by
  simp only[o7];split
  ·rename_i q;simp[B1.1 q]
  ·rename_i q;rw[Cm];have:a ∉ m:=fun h=>by rw[B1.2 h]at q;cases q
   simp[this]
abbrev hU:=List Nat × List Nat
def xB(a b:hU):Prop:=(∃ x,x∈a.2/\x∈b.1)\/∃ x,x∈b.2/\x∈a.1
def mE(j:Nat)(t w:List Nat):List (Nat × hU)->List (Nat × Nat)->List (Nat × Nat)
 |[],bj=>bj
 |(i,t',w')::r,bj=>match o7 w' t with
  |true=>mE j t w r ((i,j)::bj)
  |false=>match o7 w t' with
   |true=>mE j t w r ((i,j)::bj)
   |false=>mE j t w r bj
def eG(j:Nat)(t w:List Nat):List (Nat × hU)->List (Nat × Nat)->(List (Nat × Nat)->Prop)->Prop
 |[],bj,k=>k bj
 |(i,t',w')::r,bj,k=>match o7 w' t with
  |true=>eG j t w r ((i,j)::bj) k
  |false=>match o7 w t' with
   |true=>eG j t w r ((i,j)::bj) k
   |false=>eG j t w r bj k
theorem ny{j:Nat}{t w:List Nat}:∀ {acc:List (Nat × hU)} {bj:List (Nat × Nat)} {k:List (Nat × Nat)->Prop},eG j t w acc bj k=k (mE j t w acc bj)
 |[],_,_=>rfl
 |(i,t',w')::r,bj,k=>by
  simp only[eG,mE];split
  ·exact ny
  ·split<;>exact ny
theorem F8{j:Nat}{t w:List Nat}{P:Nat->Nat->Prop}:∀ {acc:List (Nat × hU)} {bj:List (Nat × Nat)},(∀ p∈mE j t w acc bj,P p.1 p.2)->(∀ p∈bj,P p.1 p.2)/\∀ x∈acc,xB x.2 (t,w)->P x.1 j
 |[],bj,H=>⟨H,fun x hx=>by simp at hx⟩
 |(i,t',w')::r,bj,H=>by
  simp only[mE]at H;have yes:(∀ p∈mE j t w r ((i,j)::bj),P p.1 p.2)->(∀ p∈bj,P p.1 p.2)/\∀ x∈(i,t',w')::r,xB x.2 (t,w)->P x.1 j:=fun H=>by
   obtain⟨h1,h2⟩:=F8 H;exact⟨fun p hp=>h1 p (aeR _ hp),fun x hx hc=>(afu.1 hx).elim (fun e=>by subst e;exact h1 (i,j) (aeQ ..)) fun h=>h2 x h hc⟩
  split at H
  ·exact yes H
  ·rename_i q1;split at H
   ·exact yes H
   ·rename_i q2;obtain⟨h1,h2⟩:=F8 H;refine⟨h1,fun x hx hc=>(afu.1 hx).elim (fun e=>?_) fun h=>h2 x h hc⟩;subst e;rcases hc with hc|hc
    ·rw[Cm.2 hc]at q1;cases q1
    ·rw[Cm.2 hc]at q2;cases q2
def dS(j:Nat)(t w:List Nat)(acc:List (Nat × hU)):List (Nat × hU):=match t with
 |[]=>acc
 |_::_=>(j,t,w)::acc
def iq(E:Env)(ops:Array Oper)(K:List AV->List af->Prop):Nat->List Oper->List (Nat × hU)->List (Nat × Nat)->List AV->List af->Prop
 |_,[],_,bj,s,h=>(∀ p∈bj,jL ops p.1 p.2)/\K s h
 |j,o::l,acc,bj,s,h=>∃ v h' t w,qZ E ops o s h v h' t w/\iq E ops K (j+1) l (dS j t w acc) (mE j t w acc bj) (b8 s o.dst v) h'
section
variable {E:Env} {ops:Array Oper}
theorem iq.lay{K:List AV->List af->Prop}:∀ {l:List Oper} {j:Nat} {acc:List (Nat × hU)} {bj:List (Nat × Nat)} {s:List AV} {h:List af},iq E ops K j l acc bj s h ->
  ∃ (pl:List (Oper × AV)) (hp:Nat->List af) (tw:Nat->hU),pl.map (·.1)=l/\hp 0=h/\K (cur pl (fun k=>decide (k<pl.length)) 0 s) (hp pl.length)/\(∀ p∈bj,jL ops p.1 p.2) /\
   (∀ k o v,pl[k]?=some (o,v)->qZ E ops o (cur pl (fun i=>decide (i<k)) 0 s) (hp k) v (hp (k+1)) (tw k).1 (tw k).2) /\
   (∀ x∈acc,∀ k,k<pl.length->xB x.2 (tw k)->jL ops x.1 (j+k))/\(∀ i k,i<k->k<pl.length->xB (tw i) (tw k)->jL ops (j+i) (j+k))/\h.length<=(hp pl.length).length
 |[],j,acc,bj,s,h,H=>⟨[],fun _=>h,fun _=>([],[]),rfl,rfl,H.2,H.1,fun k o v hk=>by simp at hk,fun x _ k hk=>by simp at hk,fun i k _ hk=>by simp at hk,aed _⟩
 |o::l,j,acc,bj,s,h,H=>by
  obtain⟨v,h',t,w,hf,H⟩:=H;obtain⟨pl,hp,tw,k1,k2,k3,k4,k5,k6,k7,k9⟩:=iq.lay H;obtain⟨k4,k8⟩:=F8 (P:=jL ops) k4;have shift:∀ (pl:List (Oper × AV)) (n:Nat) (s:List AV),cur pl (fun k=>decide (k<n+1)) (0+1) s=cur pl (fun k=>decide (k<n)) 0 s:=fun pl n s=>by
   rw[Ck 1]
   congr 1
   funext k;simp
  have mono:∀ x∈acc,x∈dS j t w acc:=fun x hx=>by unfold dS;split;exact hx;exact aeR _ hx
  refine⟨(o,v)::pl,fun n=>match n with|0=>h|n+1=>hp n,fun n=>match n with|0=>(t,w)|n+1=>tw n,by simp[k1],rfl,?_,k4,fun k o' v' hk=>?_,fun x hx k hk hc=>?_,fun i k fJ hk hc=>?_,aen hf.len k9⟩
  ·rw[cur];simp only[List.length_cons,agt,decide_true,if_true];rw[shift];exact k3
  ·cases k with
   |zero =>
    simp at hk;obtain⟨rfl,rfl⟩:=hk;rw[qX _ _ _ _ (fun k _=>decide_eq_false (by omega))];simp only[k2];exact hf
   |succ k =>
    have:=k5 k o' v' (by simpa using hk);rw[cur];simp only[agt,decide_true,if_true];rw[shift];exact this
  ·cases k with
   |zero=>exact k8 x hx hc
   |succ k=>have:=k6 x (mono x hx) k (by simpa using hk) hc;rwa [show j+1+k=j+(k+1) by omega]at this
  ·cases k with
   |zero=>omega
   |succ k =>
    have kh:k<pl.length:=by simpa using hk
    cases i with
    |zero =>
     refine(?_:jL ops j (j+(k+1)));have hm:(j,t,w)∈dS j t w acc:=by
      unfold dS;split
      ·rcases hc with⟨x,hx,-⟩|⟨x,-,hx⟩
       ·exact absurd (hf.sub x hx) (by simp)
       ·exact absurd hx (by simp)
      ·exact aeQ ..
     have:=k6 _ hm k kh hc
     rwa [show j+1+k=j+(k+1) by omega]at this
    |succ i=>have:=k7 i k (by omega) kh hc;rwa [show j+1+i=j+(i+1) by omega,show j+1+k=j+(k+1) by omega]at this
def jf(w:Nat->List Nat)(hp:Nat->List af)(L:Nat->Bool)(H:List af):Nat->List af
 |0=>H
 |n+1=>if L n then gp (w n) (hp (n+1)) (jf w hp L H n)else jf w hp L H n
variable {w:Nat->List Nat} {hp:Nat->List af} {L L':Nat->Bool} {H:List af}
theorem zQ:∀ n,(jf w hp L H n).length=H.length
 |0=>rfl
 |n+1=>by
  rw[jf];split
  ·rw[Kh,zQ n]
  ·exact zQ n
theorem F'{b:Nat}:∀ n,(∀ i,i<n->b∈w i->L i=L' i)->(jf w hp L H n)[b]?=(jf w hp L' H n)[b]?
 |0,_=>rfl
 |n+1,h=>by
  have ih:=F' n (fun i hi=>h i (by omega));rw[jf,jf];by_cases hb:b∈w n
  ·rw[h n (by omega) hb];split
   ·rw[qQ,qQ,ih]
   ·exact ih
  ·have e:∀ (q:Bool) (X:List af),(if q then gp (w n) (hp (n+1)) X else X)[b]?=X[b]? := fun q X=>by
    cases q
    ·rfl
    ·exact pO hb
   rw[e,e];exact ih
theorem Ga{j:Nat}(h:∀ i,j<=i->L i=false):∀ n,j<=n->jf w hp L H n=jf w hp L H j
 |0,hn=>by rw[show j=0 by omega]
 |n+1,hn=>by
  rcases adV n j with hl|hl
  ·rw[show j=n+1 by omega]
  ·rw[jf,h n hl];exact Ga h n hl
theorem S7{a b:List Nat}{x y z:List af}(h:∀ i∈a,i ∉ b):gp a x (gp b y z)=gp b y (gp a x z):=by
 refine aeM fun j=>?_;by_cases ha:j∈a
 ·rw[qQ,pO (h j ha),pO (h j ha),qQ]
 ·rw[pO ha,qQ,qQ,pO ha]
theorem Lf{j:Nat}(hj:L j=false)(eU:L' j=true)(ho:∀ i,i≠j->L' i=L i)(hc:∀ i,j<i->L i=true->∀ b∈w j,b ∉ w i):∀ n,j<n->gp (w j) (hp (j+1)) (jf w hp L H n)=jf w hp L' H n
 |0,h=>by omega
 |n+1,h=>by
  rw[jf,jf];rcases adV j n with hl|hl
  ·rw[ho n (by omega),<- Lf hj eU ho hc n hl];split
   ·rename_i q;exact S7 (hc n hl q)
   ·rfl
  ·obtain rfl:j=n:=by omega
   rw[hj,eU];simp only[aet,if_false,if_true]
   congr 1
   exact aeM fun b=>F' j fun i hi _=>(ho i (by omega)).symm
theorem Gb{t:Nat->List Nat}{m:Nat}(h0:∀ b,b<H.length->H[b]?=mD (hp 0) b)(hlen:∀ k,k<m->(hp k).length<=(hp (k+1)).length/\(∀ b,b<(hp k).length->b ∉ w k->(hp (k+1))[b]?=(hp k)[b]?)/\(∀ b,(hp k).length<=b->b<(hp (k+1)).length->b∈w k)/\(∀ b∈w k,b∈t k)/\∀ b∈t k,b<(hp (k+1)).length)(hL:∀ i,i<m->L i=true) :
  ∀ n,n<=m->∀ b,b<H.length->(jf w hp L H n)[b]?=mD (hp n) b
 |0,_,b,hb=>h0 b hb
 |n+1,hn,b,hb=>by
  have ih:=Gb h0 hlen hL n (by omega) b hb;obtain⟨h1,h2,h3,h4,h5⟩:=hlen n (by omega);rw[jf,hL n (by omega),if_pos rfl];by_cases hm:b∈w n
  ·have hl:=h5 b (h4 b hm);rw[zf hm (by rw[zQ];exact hb) (afo hl),mD,if_pos hl,afo hl]
  ·rw[pO hm,ih];unfold mD;by_cases hl:b<(hp n).length
   ·rw[if_pos hl,if_pos (by omega),h2 b hl hm]
   ·rw[if_neg hl,if_neg (fun h=>hm (h3 b (by omega) h))]
theorem S8(hc:Ch ops){s0:List AV}{pl:List (Oper × AV)}{hp:Nat->List af}{tw:Nat->hU}(kc:pl.map (·.1)=ops.toList)
  (hx:∀ k o v,pl[k]?=some (o,v)->qZ E ops o (cur pl (fun i=>decide (i<k)) 0 s0) (hp k) v (hp (k+1)) (tw k).1 (tw k).2) (dL:∀ i k,i<k->k<pl.length->xB (tw i) (tw k)->jL ops i k)
  {H:List af} (hH:H.length=(hp pl.length).length) (h0:∀ b,b<H.length->H[b]?=mD (hp 0) b)
  {Q:Exit->Act->World->Prop} {Kf:List AV->List af->Prop} {c0:Cx} (gI:Kf (cur pl (fun k=>decide (k<pl.length)) 0 s0) (hp pl.length))
  (hQ:∀ (a:Act) (c:Cx) (s:List AV) (h:List af),Kf s h->aM E.G c->c.heap=h->a.defers=[]->VS c s a.tmps->Step c0 c->Q .normal a c.w) :
  ∀ (f:Nat) (listed:Array Bool) (a:Act) (c:Cx),aM E.G c->c.heap=jf (fun k=>(tw k).2) hp (bU listed) H ops.size->a.defers=[]->VS c (cur pl (bU listed) 0 s0) a.tmps->Step c0 c->DC ops listed ->
   (∀ i,ops.size<=i->bU listed i=false)->jM (bU listed) ops.size<=f->wpAny E.P .any ops Q f listed a c.w:=by
 obtain⟨hlen,dG⟩:=La kc;have zR:∀ k,k<ops.size->∃ o v,pl[k]?=some (o,v):=fun k hk=>⟨(pl[k]'(by omega)).1,(pl[k]'(by omega)).2,by rw[afo]⟩;have ow:∀ k,k<ops.size->(hp k).length<=(hp (k+1)).length/\(∀ b,b<(hp k).length->b ∉ (tw k).2->(hp (k+1))[b]?=(hp k)[b]?)/\(∀ b,(hp k).length<=b->b<(hp (k+1)).length->b∈(tw k).2)/\(∀ b∈(tw k).2,b∈(tw k).1)/\∀ b∈(tw k).1,b<(hp (k+1)).length:=fun k hk=>by
  obtain⟨o,v,h⟩:=zR k hk;have:=hx k o v h;exact⟨this.len,this.old,this.new,this.sub,this.lt⟩
 have S9:∀ n,n<=ops.size->∀ d,d<=n->(hp (n-d)).length<=(hp n).length:=by
  intro n hn d
  induction d with
  |zero=>intro _;exact aed _
  |succ d ih =>
   intro hd;have h1:=(ow (n-(d+1)) (by omega)).1;rw[show n-(d+1)+1=n-d by omega]at h1;exact aen h1 (ih (by omega))
 have hle:∀ k,k<=ops.size->(hp k).length<=H.length:=fun k hk=>by
  have:=S9 ops.size (aed _) (ops.size-k) (by omega);rw[show ops.size-(ops.size-k)=k by omega]at this;rw[hH,hlen];exact this
 have done:∀ (listed:Array Bool) (a:Act) (c:Cx),aM E.G c->c.heap=jf (fun k=>(tw k).2) hp (bU listed) H ops.size->a.defers=[]->VS c (cur pl (bU listed) 0 s0) a.tmps->Step c0 c->(∀ i,ops.size<=i->bU listed i=false)->(∀ i,i<ops.size->bU listed i=true)->Q .normal a c.w:=by
  intro listed a c h1 h2 h3 h4 h5 ho aL;have e:cur pl (bU listed) 0 s0=cur pl (fun k=>decide (k<pl.length)) 0 s0:=by
   congr 1
   funext i;rcases adV i ops.size with h|h
   ·rw[aL i h];simp[hlen,h]
   ·rw[ho i h];simp[hlen];omega
  rw[e]at h4;refine hQ a c _ _ gI h1 (h2.trans ?_) h3 h4 h5;refine aeM fun b=>?_;rcases adV b H.length with hb|hb
  ·rw[Gb h0 ow aL ops.size (aed _) b hb,hlen,mD,if_pos (by rw[<- hlen,<- hH];exact hb)]
  ·rw[adW (by rw[zQ];exact hb),adW (by omega)]
 intro f
 induction f with
 |zero =>
  intro listed a c h1 h2 h3 h4 h5 hd ho nz;have aL:∀ i,i<ops.size->bU listed i=true:=fun i hi=>F2 nz hi;refine⟨?_,done listed a c h1 h2 h3 h4 h5 ho aL⟩;apply List.eq_nil_iff_forall_not_mem.2;intro i hi;obtain⟨k1,k2⟩:=uT hd hi;rw[aL i k2]at k1;cases k1
 |succ f ih =>
  intro listed a c h1 h2 h3 h4 h5 hd ho nz;refine⟨fun hr=>?_,fun i hi=>?_⟩
  ·refine done listed a c h1 h2 h3 h4 h5 ho (fun i hi=>?_);cases hl:bU listed i with
   |true=>rfl
   |false =>
    obtain⟨k,-,hk⟩:=FW hc hd hi hl;rw[hr]at hk;cases hk
  obtain⟨lS,fU⟩:=uT hd hi;obtain⟨o,v,jN⟩:=zR i fU;have mv:=dG i o v jN;obtain⟨xC,xD⟩:=F0 hc.pair dG hd hi jN h4;have dR:=fun q=>FV (i:=q) (show i<listed.size by rw[hd.1];exact fU);have xE:jM (bU (listed.setIfInBounds i true)) ops.size<=f:=by
   have:=(FY (L:=bU listed) (L':=bU (listed.setIfInBounds i true)) (j:=i) (fun q hq=>by rw[dR];simp[hq]) lS (by rw[dR];simp) ops.size).1 fU;omega
  have hF:=hx i o v jN;have later:∀ k,i<k->bU listed k=true->¬ xB (tw i) (tw k):=fun k hk hl nx=>by
   have BR:k<ops.size:=Nat.lt_of_not_le fun h=>by rw[ho k h]at hl;cases hl
   rw[hd.dep (dL i k hk (by omega) nx) hl]at lS;cases lS
  have agree:∀ b∈(tw i).1,(c.heap)[b]?=mD (hp i) b:=fun b hb=>by
   have eS:b<H.length:=Nat.lt_of_lt_of_le (hF.lt b hb) (hle (i+1) fU);rw[h2,<- Gb (L:=fun k=>decide (k<i)) h0 (fun k hk=>ow k (by omega)) (fun k hk=>by simp[hk]) i (aed i) b eS,<- Ga (L:=fun k=>decide (k<i)) (fun k hk=>by simp;omega) ops.size (Nat.le_of_lt fU)];refine F' _ fun k hk hw=>?_;rcases agn k i with ah|rfl|uz
   ·rw[hd.ready hi (dL k i ah (by omega) (.inl ⟨b,hw,hb⟩))];simp[ah]
   ·rw[lS];simp
   ·have:bU listed k=false:=by
     cases hl:bU listed k with
     |false=>rfl
     |true=>exact absurd (.inr ⟨b,hw,hb⟩) (later k uz hl)
    rw[this];simp;omega
  refine hF.act c.heap (by rw[h2,zQ];exact hle (i+1) fU) agree c a h1 rfl h3 xD i mv _ _ (fun c' u k1 k2 k3 k4=>?_);refine ih _ _ c' k1 ?_ (by rw[o6];exact h3) (xC c' u (fun _ _=>k3.vr) k4) (h5.trans k3) (hd.set hi) (fun q hq=>by rw[dR,ho q hq];simp;omega) xE;rw[k2,h2];exact Lf (w:=fun k=>(tw k).2) lS (by rw[dR];simp) (fun q hq=>by rw[dR];simp[hq]) (fun k hk hl b hb cw=>later k hk hl (.inr ⟨b,cw,hF.sub b hb⟩)) ops.size fU
end
@[irreducible] def bP (E : Env) (aj : FuncId) (R : cF) (ops : Array Oper) (k : List aT) (SE : List Nat) (j : Nat) (fK : List Oper) (acc : List (Nat × hU)) (bj : List (Nat × Nat)) (s : List AV) (h : List af) : Prop :=
 iq E ops (fun s2 h2=>J E aj R [] k s2 h2) j fK acc bj s h
@[irreducible] def xF (E : Env) (f : FuncId) (h0 : List af) (args : List AV) (K1 : AV -> List af -> Prop) (K2 : AV -> Prop) : Prop :=
 (∃ r h1,aw E f h0 args (fun a b=>a=r/\b=h1)/\K1 r h1)\/∃ r,aw E f h0 args (fun a b=>a=r/\b=h0)/\K2 r
theorem zS{E:Env}{f:FuncId}{h0:List af}{args:List AV}{K1:AV->List af->Prop}{K2:AV->Prop}{r:AV}{h1:List af}(H:aw E f h0 args (fun a b=>a=r/\b=h1))(hk:K1 r h1):xF E f h0 args K1 K2:=by unfold xF;exact .inl ⟨r,h1,H,hk⟩
theorem kp{E:Env}{f:FuncId}{h0:List af}{args:List AV}{K1:AV->List af->Prop}{K2:AV->Prop}{r:AV}(H:aw E f h0 args (fun a b=>a=r/\b=h0))(hk:K2 r):xF E f h0 args K1 K2:=by unfold xF;exact .inr ⟨r,H,hk⟩
def Cn:Nat->Nat->(List Nat->Prop)->Prop
 |_,0,k=>k []
 |n,m+1,k=>Cn (n+1) m fun l=>k (n::l)
theorem Lg:∀ {m n:Nat} {k:List Nat->Prop},Cn n m k=k (List.range' n m)
 |0,_,_=>rfl
 |m+1,n,k=>by rw[Cn,Lg];rfl
def kq(ab:List Nat)(h h':List af)(k:List Nat->Prop):Prop:=o3 h 0 fun n=>o3 h' 0 fun m=>Cn n (m-n) fun l=>sQ ab l k
theorem uV{ab:List Nat}{h h1:List af}{k:List Nat->Prop}:kq ab h (fk ab h h1) k=k (ab++dQ ab h h1):=by
 simp only[kq,uG,ad5,Lg,xf,dQ,sL,Nat.add_sub_cancel_left]
def zT(E:Env)(f:FuncId)(im:List AV)(h:List af)(stop:Prop)(k1:List Nat->AV->List af->Prop)(k2:List Nat->AV->Prop):Prop :=
 qU h im [] fun zu=>sV h 20 0 zu fun ab=>o3 h 0 fun n=>match xi n ab with
  |true=>zr ab h fun h0=>jI (zq ab h) im fun FB=>xF E f h0 FB (fun r h1=>fI ab h r fun v=>jJ ab h h1 fun h'=>kq ab h h' fun ws=>k1 ws v h') fun r=>xA ab h=true/\fI ab h r fun v=>k2 ab v
  |false=>stop
theorem S'{E:Env}{f:FuncId}{im:List AV}{h:List af}{stop:Prop}{k1:List Nat->AV->List af->Prop}{k2:List Nat->AV->Prop}(H:zT E f im h stop k1 k2):stop\/∃ (ab:List Nat),ab.Nodup/\(∀ j∈ab,j<h.length) /\
  ((∃ r h1,aw E f (eF ab h) (im.map (gj ab h)) (fun a b=>a=r/\b=h1)/\k1 (ab++dQ ab h h1) (jd ab h r) (fk ab h h1))\/∃ r,aw E f (eF ab h) (im.map (gj ab h)) (fun a b=>a=r/\b=eF ab h)/\xA ab h=true/\k2 ab (jd ab h r)):=by
 unfold zT at H;obtain⟨s0,H⟩:=uK H;obtain⟨ab,H⟩:=xl H;rw[uG,ad5]at H;split at H
 ·rename_i q;obtain⟨h1,h2⟩:=B2 q;rw[Fz,pP (Fw ab h)]at H;unfold xF at H;refine .inr ⟨ab,h1,h2,?_⟩;rcases H with⟨r,hp,h3,h4⟩|⟨r,h3,h4,h5⟩
  ·rw[nt,qT,uV]at h4;exact .inl ⟨r,hp,h3,h4⟩
  ·rw[nt]at h5;exact .inr ⟨r,h3,h4,h5⟩
 ·exact .inl H
def zU(s:List AV)(h:List af):List Nat->List Nat->(List Nat->Prop)->Prop
 |[],ab,k=>k ab
 |d::l,ab,k=>aZ s d (zU s h l ab k) fun x=>qU h [x] ab fun nu=>zU s h l nu k
theorem Gc{s:List AV}{h:List af}:∀ {l:List Nat} {ab:List Nat} {k:List Nat->Prop},zU s h l ab k->∃ l,k l
 |[],_,_,H=>⟨_,H⟩
 |_::_,_,_,H=>by
  simp only[zU]at H;rcases bp H with H|⟨x,-,H⟩
  ·exact Gc H
  ·obtain⟨_,H⟩:=uK (l:=[x]) H;exact Gc H
def zV(ab:List Nat)(h:List af)(keep:List Nat):Nat->List AV->(List AV->Prop)->Prop
 |_,[],k=>k []
 |i,x::s,k=>match km i keep with
  |true=>zq ab h x fun y=>zV ab h keep (i+1) s fun s'=>k (y::s')
  |false=>zV ab h keep (i+1) s fun s'=>k (.any::s')
theorem Gd{ab:List Nat}{h:List af}{keep:List Nat}:∀ {i:Nat} {s:List AV} {k:List AV->Prop},zV ab h keep i s k=k ((dh keep i s).map (gj ab h))
 |_,[],_=>rfl
 |i,x::s,k=>by
  simp only[zV,dh,ad0];split
  ·rw[Fw,Gd]
  ·rw[Gd];rfl
def zW(ops:Array Oper)(o:Oper)(s:List AV)(h:List af)(stop:Prop)(k:List Nat->List AV->List af->Prop):Prop :=
 zU s h (dK ops o) [] fun zu=>sV h 20 0 zu fun ab=>o3 h 0 fun n=>match xi n ab with
  |true=>zV ab h (dK ops o) 0 s fun sC=>zr ab h fun hC=>k ab sC hC
  |false=>stop
theorem Lh{ops:Array Oper}{o:Oper}{s:List AV}{h:List af}{stop:Prop}{k:List Nat->List AV->List af->Prop}(H:zW ops o s h stop k):stop\/∃ ab,ab.Nodup/\(∀ j∈ab,j<h.length)/\k ab ((dh (dK ops o) 0 s).map (gj ab h)) (eF ab h):=by
 unfold zW at H;obtain⟨s0,H⟩:=Gc H;obtain⟨ab,H⟩:=xl H;rw[uG,ad5]at H;split at H
 ·rename_i q;obtain⟨h1,h2⟩:=B2 q;rw[Gd,Fz]at H;exact .inr ⟨ab,h1,h2,H⟩
 ·exact .inl H
def Li:Op->Bool
 | .call { callee := .value _,.. }=>true
 |_=>false
section
variable (E:Env) (aj:FuncId) (R:cF) (ops:Array Oper) (k:List aT)
def kr:Nat->List Nat->Nat->List Oper->List (Nat × hU)->List (Nat × Nat)->List AV->List af->Prop
 |0,lits,j,fK,acc,bj,s,h=>bP E aj R ops k lits j fK acc bj s h
 |m+1,lits,j,fK,acc,bj,s,h =>
  match fK with
  |[]=>match bj with
   |[]=>J E aj R [] k s h
   |_::_=>Cj ops bj=true/\J E aj R [] k s h
  |o::l =>
   let stop:Prop:=bP E aj R ops k lits j fK acc bj s h
   let skip:Prop:=cg s o.dst (.d .undef) fun s'=>kr m lits (j+1) l acc bj s' h
   let go:Prop:=match Li o.op with
    |true=>xy (dK ops o) 0 s fun so=>zw E.G so o stop fun f im=>qz im
     (zT E f im h stop (fun ws v h'=>eG j ws ws acc bj fun cE=>cg s o.dst v fun s'=>bP E aj R ops k lits (j+1) l (dS j ws ws acc) cE s' h') fun ab v=>eG j ab [] acc bj fun cE=>cg s o.dst v fun s'=>bP E aj R ops k lits (j+1) l (dS j ab [] acc) cE s' h)
     fun ds=>tc E f ds h (fun v=>cg s o.dst (.d v) fun s'=>bP E aj R ops k lits (j+1) l acc bj s' h) fun v h'=>kq [] h h' fun ws=>eG j ws ws acc bj fun cE=>cg s o.dst v fun s'=>bP E aj R ops k lits (j+1) l (dS j ws ws acc) cE s' h'
    |false=>zW ops o s h stop fun ab sC hC=>match qY o.op&&xA ab h with
     |true=>jZ E.T E.G o.op sC hC (y3 E o.op sC (ot E o.op sC hC (y4 E o.op sC hC stop fun x h1=>fI ab h x fun v=>jJ ab h h1 fun h'=>kq ab h h' fun ws=>eG j ws ws acc bj fun cE=>cg s o.dst v fun s'=>bP E aj R ops k lits (j+1) l (dS j ws ws acc) cE s' h') fun x _=>fI ab h x fun v=>eG j ab [] acc bj fun cE=>cg s o.dst v fun s'=>bP E aj R ops k lits (j+1) l (dS j ab [] acc) cE s' h)
       fun x=>fI ab h x fun v=>eG j ab [] acc bj fun cE=>cg s o.dst v fun s'=>kr m lits (j+1) l (dS j ab [] acc) cE s' h)
       fun x _=>fI ab h x fun v=>eG j ab [] acc bj fun cE=>cg s o.dst v fun s'=>kr m lits (j+1) l (dS j ab [] acc) cE s' h
     |false=>jZ E.T E.G o.op sC hC (y5 E o.op sC hC (ot E o.op sC hC stop fun x h1=>fI ab h x fun v=>jJ ab h h1 fun h'=>kq ab h h' fun ws=>eG j ws ws acc bj fun cE=>cg s o.dst v fun s'=>bP E aj R ops k lits (j+1) l (dS j ws ws acc) cE s' h')
      fun x h1=>fI ab h x fun v=>jJ ab h h1 fun h'=>kq ab h h' fun ws=>eG j ws ws acc bj fun cE=>cg s o.dst v fun s'=>kr m lits (j+1) l (dS j ws ws acc) cE s' h')
      fun x h1=>fI ab h x fun v=>jJ ab h h1 fun h'=>kq ab h h' fun ws=>eG j ws ws acc bj fun cE=>cg s o.dst v fun s'=>kr m lits (j+1) l (dS j ws ws acc) cE s' h'
   B6 ops o.guard go stop fun d b=>aZ s d stop fun
    | .d (.bool t)=>match km d lits with
     |false=>nv t (fG s d (.d (.bool true)) fun s'=>bP E aj R ops k (d::lits) j fK acc bj s' h) (fG s d (.d (.bool false)) fun s'=>bP E aj R ops k (d::lits) j fK acc bj s' h)
     |true=>match KE t b with
      |true=>go
      |false=>skip
    | .d .undef=>skip
    |_=>stop
end
section
variable {E:Env} {aj:FuncId} {R:cF} {ops:Array Oper} {k:List aT} {lits:List Nat} {j:Nat} {fK:List Oper} {acc:List (Nat × hU)} {bj:List (Nat × Nat)} {s:List AV} {h:List af}
theorem bP.is(H:bP E aj R ops k lits j fK acc bj s h):bP E aj R ops k lits j fK acc bj s h:=H
theorem bP.to(H:bP E aj R ops k lits j fK acc bj s h):iq E ops (fun s2 h2=>J E aj R [] k s2 h2) j fK acc bj s h:=by unfold bP at H;exact H
theorem Lj:∀ {acc:List (Nat × hU)} {bj:List (Nat × Nat)},mE j [] [] acc bj=bj
 |[],_=>rfl
 |(i,t',w')::r,bj=>by
  have h1:o7 w' []=false:=by
   cases q:o7 w' []with
   |false=>rfl
   |true=>obtain⟨b,-,hb⟩:=Cm.1 q;simp at hb
  simp only[mE,h1,o7];exact Lj
theorem Lk{keep:List Nat}:∀ {i d:Nat} {s:List AV},i+d∈keep->(dh keep i s)[d]?=s[d]?
 |_,_,[],_=>rfl
 |i,0,x::s,h=>by
  rw[aew]at h;simp only[dh,zK.2 h,ago]
 |i,d+1,x::s,h=>by
  simp only[dh,agf];exact Lk (by rwa [show i+1+d=i+(d+1) by omega])
variable {o:Oper} {l:List Oper} {K:List AV->List af->Prop}
theorem Ge{v:AV}(hf:∀ H,ep E ops o s H v H)(H:iq E ops K (j+1) l acc bj (b8 s o.dst v) h):iq E ops K j (o::l) acc bj s h :=
 ⟨v,h,[],[],.same (fun b hb=>by simp at hb) fun X _ _=>hf X,by rw[Lj];exact H⟩
theorem ep.any{v:AV}{H:List af}(hw:ig ops o (dh (dK ops o) 0 s) true)(ho:bz E o.op (dh (dK ops o) 0 s) H v H):ep E ops o s H v H:=fun c a h1 h2 _ h4 j hj K Q hK=>by
 obtain⟨c',u,k1,k2,k3,k4,k5⟩:=ho o c a rfl h2 h1 h4;unfold wpOp;simp only[hj,hw c a.tmps h4,if_true];left;have:=hK c' u k3 k2 k5 k4;unfold Oper.wp;rcases k1 with k1|⟨k1,rfl⟩
 ·rw[k1];exact this
 ·rw[k1];exact this
theorem Ll(hE:E.OK):∀ (m:Nat) (lits:List Nat) (j:Nat) (fK:List Oper) (acc:List (Nat × hU)) (bj:List (Nat × Nat)) (s:List AV) (h:List af),
  kr E aj R ops k m lits j fK acc bj s h->iq E ops (fun s2 h2=>J E aj R [] k s2 h2) j fK acc bj s h:=by
 intro m
 induction m with
 |zero=>intro lits j fK acc bj s h H;exact bP.to H
 |succ m ih =>
  intro lits j fK acc bj s h H;unfold kr at H;split at H
  ·split at H
   ·exact⟨fun p hp=>by simp at hp,H⟩
   ·exact⟨K6 H.1,H.2⟩
  rename_i o l;dsimp only at H;have skip:ig ops o (dh (dK ops o) 0 s) false->(cg s o.dst (.d .undef) fun s'=>kr E aj R ops k m lits (j+1) l acc bj s' h)->iq E ops (fun s2 h2=>J E aj R [] k s2 h2) j (o::l) acc bj s h:=fun hw H=>by
   rw[dX]at H;exact Ge (fun X=>ep.skip hw) (ih _ _ _ _ _ _ _ H)
  generalize uF:(match Li o.op with
    |true=>xy (dK ops o) 0 s fun so=>zw E.G so o (bP E aj R ops k lits j (o::l) acc bj s h) fun f im=>qz im
     (zT E f im h (bP E aj R ops k lits j (o::l) acc bj s h) (fun ws v h'=>eG j ws ws acc bj fun cE=>cg s o.dst v fun s'=>bP E aj R ops k lits (j+1) l (dS j ws ws acc) cE s' h') fun ab v=>eG j ab [] acc bj fun cE=>cg s o.dst v fun s'=>bP E aj R ops k lits (j+1) l (dS j ab [] acc) cE s' h)
     fun ds=>tc E f ds h (fun v=>cg s o.dst (.d v) fun s'=>bP E aj R ops k lits (j+1) l acc bj s' h) fun v h'=>kq [] h h' fun ws=>eG j ws ws acc bj fun cE=>cg s o.dst v fun s'=>bP E aj R ops k lits (j+1) l (dS j ws ws acc) cE s' h'
    |false=>zW ops o s h (bP E aj R ops k lits j (o::l) acc bj s h) fun ab sC hC=>match qY o.op&&xA ab h with
     |true=>jZ E.T E.G o.op sC hC (y3 E o.op sC (ot E o.op sC hC (y4 E o.op sC hC (bP E aj R ops k lits j (o::l) acc bj s h) fun x h1=>fI ab h x fun v=>jJ ab h h1 fun h'=>kq ab h h' fun ws=>eG j ws ws acc bj fun cE=>cg s o.dst v fun s'=>bP E aj R ops k lits (j+1) l (dS j ws ws acc) cE s' h') fun x _=>fI ab h x fun v=>eG j ab [] acc bj fun cE=>cg s o.dst v fun s'=>bP E aj R ops k lits (j+1) l (dS j ab [] acc) cE s' h)
       fun x=>fI ab h x fun v=>eG j ab [] acc bj fun cE=>cg s o.dst v fun s'=>kr E aj R ops k m lits (j+1) l (dS j ab [] acc) cE s' h)
       fun x _=>fI ab h x fun v=>eG j ab [] acc bj fun cE=>cg s o.dst v fun s'=>kr E aj R ops k m lits (j+1) l (dS j ab [] acc) cE s' h
     |false=>jZ E.T E.G o.op sC hC (y5 E o.op sC hC (ot E o.op sC hC (bP E aj R ops k lits j (o::l) acc bj s h) fun x h1=>fI ab h x fun v=>jJ ab h h1 fun h'=>kq ab h h' fun ws=>eG j ws ws acc bj fun cE=>cg s o.dst v fun s'=>bP E aj R ops k lits (j+1) l (dS j ws ws acc) cE s' h')
      fun x h1=>fI ab h x fun v=>jJ ab h h1 fun h'=>kq ab h h' fun ws=>eG j ws ws acc bj fun cE=>cg s o.dst v fun s'=>kr E aj R ops k m lits (j+1) l (dS j ws ws acc) cE s' h')
      fun x h1=>fI ab h x fun v=>jJ ab h h1 fun h'=>kq ab h h' fun ws=>eG j ws ws acc bj fun cE=>cg s o.dst v fun s'=>kr E aj R ops k m lits (j+1) l (dS j ws ws acc) cE s' h')=Ta at H
  have go:ig ops o (dh (dK ops o) 0 s) true->Ta->iq E ops (fun s2 h2=>J E aj R [] k s2 h2) j (o::l) acc bj s h:=by
   subst uF;intro hw H;split at H
   ·rw[Lc]at H;rcases KD H with H|⟨fx,args,ts,f,a1,av,a2,cn,hv,ov,H⟩
    ·exact bP.to H
    rcases yB (a1++av++a2) (zT E f (a1++av++a2) h (bP E aj R ops k lits j (o::l) acc bj s h) (fun ws v h'=>eG j ws ws acc bj fun cE=>cg s o.dst v fun s'=>bP E aj R ops k lits (j+1) l (dS j ws ws acc) cE s' h') fun ab v=>eG j ab [] acc bj fun cE=>cg s o.dst v fun s'=>bP E aj R ops k lits (j+1) l (dS j ab [] acc) cE s' h)
     (fun ds=>tc E f ds h (fun v=>cg s o.dst (.d v) fun s'=>bP E aj R ops k lits (j+1) l acc bj s' h) fun v h'=>kq [] h h' fun ws=>eG j ws ws acc bj fun cE=>cg s o.dst v fun s'=>bP E aj R ops k lits (j+1) l (dS j ws ws acc) cE s' h')with⟨ds,e1,e2⟩|e2
    ·rw[e2]at H;unfold tc at H;rcases H with⟨r,hc,hk⟩|⟨r,h1,hc,hk⟩
     ·rw[dX]at hk;exact Ge (fun X=>ep.call hw cn hv ov e1 hc) hk.to
     ·rw[uV,ny,dX]at hk;have e3:(a1++av++a2).map (gj [] h)=ds.map .d:=by rw[e1,agj];rfl
      exact⟨_,_,_,_,.of List.nodup_nil (fun j hj=>by simp at hj) fun X hs => .F5 hw cn hv ov (by rw[e3];exact hc) hs,hk.to⟩
    ·rw[e2]at H;rcases S' H with H|⟨ab,hn,ah,⟨r,h1,hc,hk⟩|⟨r,hc,dL,hk⟩⟩
     ·exact bP.to H
     ·rw[ny,dX]at hk;exact⟨_,_,_,_,.of hn ah fun X hs => .F5 hw cn hv ov hc hs,hk.to⟩
     ·rw[ny,dX]at hk;exact⟨_,_,_,_,.read hn ah dL fun X hs => .F5 hw cn hv ov hc hs,hk.to⟩
   ·rcases Lh H with H|⟨ab,hn,ah,H⟩
    ·exact bP.to H
    have Co:∀ x h1,bz E o.op ((dh (dK ops o) 0 s).map (gj ab h)) (eF ab h) x h1->iq E ops (fun s2 h2=>J E aj R [] k s2 h2) (j+1) l (dS j (ab++dQ ab h h1) (ab++dQ ab h h1) acc) (mE j (ab++dQ ab h h1) (ab++dQ ab h h1) acc bj) (b8 s o.dst (jd ab h x)) (fk ab h h1)->iq E ops (fun s2 h2=>J E aj R [] k s2 h2) j (o::l) acc bj s h :=
      fun x h1 ho H=>⟨_,_,_,_,.of hn ah fun X hs => .zO hw ho hs,H⟩
    split at H
    ·rename_i fH;obtain⟨bg,dL⟩:=Bool.and_eq_true_iff.1 fH;have fin:∀ x,bz E o.op ((dh (dK ops o) 0 s).map (gj ab h)) (eF ab h) x (eF ab h)->iq E ops (fun s2 h2=>J E aj R [] k s2 h2) (j+1) l (dS j ab [] acc) (mE j ab [] acc bj) (b8 s o.dst (jd ab h x)) h->iq E ops (fun s2 h2=>J E aj R [] k s2 h2) j (o::l) acc bj s h :=
      fun x ho H=>⟨_,_,_,_,.read hn ah dL fun X hs => .zO hw ho hs,H⟩
     rcases BC hE (SZ (K:=fun x=>fI ab h x fun v=>eG j ab [] acc bj fun cE=>cg s o.dst v fun s'=>kr E aj R ops k m lits (j+1) l (dS j ab [] acc) cE s' h) bg H)with H|⟨x,h',⟨rfl,H⟩,ho⟩
     ·rcases J5 hE H with H|⟨x,H,ho⟩
      case inr =>
       rw[nt,ny,dX]at H;exact fin x (ho _) (ih _ _ _ _ _ _ _ H)
      rcases ze hE (S2 (K:=fun x=>fI ab h x fun v=>eG j ab [] acc bj fun cE=>cg s o.dst v fun s'=>bP E aj R ops k lits (j+1) l (dS j ab [] acc) cE s' h) bg H)with H|⟨x,h',⟨rfl,H⟩,ho⟩
      ·rcases J6 hE H with H|⟨x,h1,H,ho⟩
       ·exact bP.to H
       ·rw[nt,qT,uV,ny,dX]at H;exact Co x h1 ho H.to
      ·rw[nt,ny,dX]at H;exact fin x ho H.to
     ·rw[nt,ny,dX]at H;exact fin x ho (ih _ _ _ _ _ _ _ H)
    ·rcases BC hE H with H|⟨x,h1,H,ho⟩
     ·rcases J7 hE H with H|⟨x,h1,H,ho⟩
      case inr =>
       rw[nt,qT,uV,ny,dX]at H;exact Co x h1 ho (ih _ _ _ _ _ _ _ H)
      rcases ze hE H with H|⟨x,h1,H,ho⟩
      ·exact bP.to H
      ·rw[nt,qT,uV,ny,dX]at H;exact Co x h1 ho H.to
     ·rw[nt,qT,uV,ny,dX]at H;exact Co x h1 ho (ih _ _ _ _ _ _ _ H)
  unfold B6 at H;split at H
  ·rename_i hg;exact go (gb hg) H
  ·rename_i jj b hg;rcases bp H with H|⟨oj,xo,H⟩
   ·exact bP.to H
   split at H
   ·rename_i d hd;rcases bp H with H|⟨x,hx,H⟩
    ·exact bP.to H
    have hm:(dh (dK ops o) 0 s)[d]?=some x:=by
     rw[Lk,hx];rw[ad5];refine agd _ ?_;have:ops[jj]?=some oj:=by simpa using xo
     simp[K4,hg,this,hd]
    split at H
    ·rename_i t;split at H
     ·refine FC H (fun e H2=>?_) (fun e H2=>?_)
      ·subst e;rw[gF,zz hx]at H2;exact bP.to H2
      ·subst e;rw[gF,zz hx]at H2;exact bP.to H2
     ·have hw:=wR hg xo hd hm;split at H
      ·rename_i q;have:(t==b)=true:=by cases t<;>cases b<;>first|rfl|cases q
       rw[this]at hw;exact go hw H
      ·rename_i q;have:(t==b)=false:=by cases t<;>cases b<;>first|rfl|cases q
       rw[this]at hw;exact skip hw H
    ·exact skip (JB hg xo hd hm) H
    ·exact bP.to H
   ·exact bP.to H
theorem bP.run(hE:E.OK)(m:Nat)(H:kr E aj R ops k m lits j fK acc bj s h):bP E aj R ops k lits j fK acc bj s h:=by unfold bP;exact Ll hE m lits j fK acc bj s h H
@[irreducible] def lh (E : Env) (aj : FuncId) (R : cF) (ops : Array Oper) (k : List aT) (lits : List Nat) (j : Nat) (o : Oper) (l : List Oper) (acc : List (Nat × hU)) (bj : List (Nat × Nat)) (s : List AV) (h : List af) (ab : List Nat) (sC : List AV) (hC : List af) : Prop :=
 ∃ x h1,bz E o.op sC hC x h1/\iq E ops (fun s2 h2=>J E aj R [] k s2 h2) (j+1) l (dS j (ab++dQ ab h h1) (ab++dQ ab h h1) acc) (mE j (ab++dQ ab h h1) (ab++dQ ab h h1) acc bj) (b8 s o.dst (jd ab h x)) (fk ab h h1)
theorem bP.at(hg:o.guard=none)(H:zW ops o s h False fun ab sC hC=>lh E aj R ops k lits j o l acc bj s h ab sC hC):bP E aj R ops k lits j (o::l) acc bj s h:=by
 unfold bP;rcases Lh H with H|⟨ab,hn,ah,H⟩
 ·exact H.elim
 unfold lh at H;obtain⟨x,h1,ho,H⟩:=H;exact⟨_,_,_,_,.of hn ah fun X hs => .zO (gb hg) ho hs,H⟩
theorem lh.op{ab:List Nat}{sC:List AV}{hC h1:List af}{x:AV}(ho:bz E o.op sC hC x h1)(H:fI ab h x fun v=>jJ ab h h1 fun h'=>kq ab h h' fun ws=>eG j ws ws acc bj fun cE=>cg s o.dst v fun s'=>bP E aj R ops k lits (j+1) l (dS j ws ws acc) cE s' h'):lh E aj R ops k lits j o l acc bj s h ab sC hC:=by
 unfold lh;rw[nt,qT,uV,ny,dX]at H;exact⟨x,h1,ho,H.to⟩
theorem bP.pure{v:AV}(hg:o.guard=none)(ho:∀ H,bz E o.op (dh (dK ops o) 0 s) H v H)(H:cg s o.dst v fun s'=>bP E aj R ops k lits (j+1) l acc bj s' h):bP E aj R ops k lits j (o::l) acc bj s h:=by
 rw[dX]at H;unfold bP;exact Ge (fun X => .any (gb hg) (ho X)) H.to
theorem iq.conv{K K':List AV->List af->Prop}(hk:∀ s h,K s h->K' s h):∀ {l:List Oper} {j:Nat} {acc:List (Nat × hU)} {bj:List (Nat × Nat)} {s:List AV} {h:List af},iq E ops K j l acc bj s h->iq E ops K' j l acc bj s h
 |[],_,_,_,_,_,H=>⟨H.1,hk _ _ H.2⟩
 |_::_,_,_,_,_,_,H=>by
  obtain⟨v,h',t,w,hf,H⟩:=H;exact⟨v,h',t,w,hf,H.conv hk⟩
theorem J.Tb(hE:E.OK)(hm:E.P.follows .mixedOrders=true)(m:Nat){id:Nat}(zX:Ci ops=true)(H:kr E aj R ops k m [] 0 ops.toList [] [] s h):J E aj R lits (.code (.region id ops true)::k) s h:=by
 obtain⟨pl,hp,tw,p1,p2,p3,-,p5,-,p7,p8⟩:=iq.lay (iq.conv (fun s2 h2=>J.to) (Ll hE m _ _ _ _ _ _ _ H));refine .of (AW.S5 hm fun c t Q hQ h1 h2 h4=>?_);subst h2;have hn:(c.pad ((hp pl.length).length-c.heap.length)).heap.length=(hp pl.length).length:=by
  show(c.heap++_).length=_;rw[aey,afi];omega
 refine S8 (K5 zX) p1 p5 (fun i k h1 h2 h3=>by simpa using p7 i k h1 h2 h3) hn (fun b hb=>?_) p3 hQ ops.size _ ⟨t,[]⟩ (c.pad ((hp pl.length).length-c.heap.length)) (h1.pad _) (Ga (j:=0) (fun i _=>ta _ i) ops.size (Nat.zero_le _)).symm rfl ?_ (BW h1 _) ⟨by simp,fun j o e _ hl=>by rw[ta]at hl;cases hl⟩ (fun i _=>ta _ i) (Lb _ _)
 ·rw[p2];unfold mD;split
  ·rename_i hl;rw[BV (afo hl),afo hl]
  ·exact Ft (by omega) (by rw[hn]at hb;omega)
 ·rw[qX _ 0 s _ (fun i _=>ta _ _)];exact(BW h1 _).vs h4
end
end Go.aA
end
section
namespace Go.aA
open Go Go.RowKit
section
variable {E:Env} {s:List AV} {h:List af} {c:Cx} {G:List (Nat × DV)}
theorem Lm(hE:E.OK){t e len:Nat}{i ei:bu}(hi:E.T[t]?=some i)(bV:E.T[e]?=some ei)(hk:i.k=.slice e){parts:Array (Nat × Operand)}{ps:List (Nat × AV)}(hI:yI E.G s parts.toList ps)
  (hz:ei.zero.length=ei.size) (cS:0<ei.size) (hlen:0<len) (BB:len*ei.size<=16777216) {z:DV} (ui:z.cells=ei.zero) (jD:∀ y∈ei.zero,y.fm=true) {stop:Prop} {k:List DV->Prop} (H:oT ei.size ps (ad6 len z) stop k) :
  stop\/∃ l,k l/\bz E (.buildSlice t len parts) s h (.own h.length 0) (h++[.arr 0 (e,ei.size) l]):=by
 have dW:iM ei.size (ad6 len z):=fun j e' h'=>by
  rw[aeC]at h';split at h'
  ·cases h';rw[ui,hz]
  ·cases h'
 have fH:pH (ad6 len z):=fun j e' h'=>by
  rw[aeC]at h';split at h'
  ·cases h';rw[ui];exact jD
  ·cases h'
 rcases EA dW fH H with h'|⟨l,h1,h2,iN,h3,h4⟩
 ·exact .inl h'
 refine .inr ⟨l,h1,fun o c ac e1 e2 e3 e4=>?_⟩;subst e2;obtain⟨ti,zv,g1,g2,g3,g4⟩:=zeroOf (hE.types e ei bV) hz cS;obtain⟨zs,yK,kS⟩:=g4 c;obtain⟨p1,p2⟩:=hI c ac e3 e4;have mh:zs.length=ei.size:=by rw[<- kS.1];simpa using hz
 have yL:VL c ((flat (ad6 len z)).map .d) ((aeD (len*ti.size)).map (zv.cells[· % zv.cells.size]!)).toList:=by
  refine .ug (by rw[oc dW];simp[g3]) (fun j x v hx hv=>?_);have hj:j<len*ei.size:=by
   have:=oc dW;rw[afi]at this;rw[<- this];rcases adV j (flat (ad6 len z)).length with h|h
   ·exact h
   ·rw[adW h]at hx;cases hx
  have hd:j / ei.size<len:=Nat.div_lt_of_lt_mul (by rw[aeE];exact hj);have hm:j % ei.size<ei.size:=Nat.mod_lt _ cS;have h5:=flat_get dW (i:=j / ei.size) (j:=j % ei.size) (e:=z) (by simp[hd]) hm;rw[aeE,Nat.div_add_mod,hx,ui]at h5;have eK:v=zs[j % ei.size]'(by omega):=by
   have eU:j<len*ti.size:=by rw[<- g3];exact hj
   simp[eU,yK,mh]at hv;rw[<- hv];simp[mh,hm]
  rw[eK];exact kS.pF (j % ei.size) x _ h5.symm (by simp[mh,hm])
 obtain⟨vs',f1,f2⟩:=h4 c _ _ yL p2;obtain⟨wN,d,q1,q2,q3,-⟩:=cC (hE.types t i hi);obtain rfl:=lF (hk.symm.trans q3);have eq:(parts.map fun(i,x)=>(i,ac.eval x)).toList=(ps.map (·.1)).zip (parts.toList.map fun p=>ac.eval p.2):=by
  rw[p1,Array.toList_map];generalize parts.toList=q
  induction q with
  |nil=>rfl
  |cons a q ih=>simp only[ad0,List.zip_cons_cons,ih]
 have uj:Instr.fill (fun i=>some (i*ti.size,ti.size)) ((aeD (len*ti.size)).map (zv.cells[· % zv.cells.size]!)) (parts.map fun(i,x)=>(i,ac.eval x)).toList=some vs'.toArray:=by
  rw[eq,<- f1,g3]
 have cK:=run_buildSlice (P:=E.P) c.w t e len (parts.map fun(i,x)=>(i,ac.eval x)) vs'.toArray ti zv q2 g1 g2 (by rw[<- g3];omega) (by rw[<- g3];have:=Nat.mul_pos hlen cS;omega) uj;have mi:l.length=len:=by rw[h3];simp
 obtain⟨k1,k2⟩:=e3.add (.arr 0 (e,ei.size) l) len (.cells vs'.toArray e);have bH:(c.add (.arr 0 (e,ei.size) l) len (.cells vs'.toArray e)).own c.heap.length=some (c.w.heap.size,len):=by simp[Cx.add]
 have nj:(c.add (.arr 0 (e,ei.size) l) len (.cells vs'.toArray e)).heap[c.heap.length]?=some (.arr 0 (e,ei.size) l):=by simp[Cx.add]
 have bR:vs'.length=len*ei.size:=by
  have:=f2.1;simp only[aff]at this;rw[<- this,oc h2,mi]
 have dx:ka (c.add (.arr 0 (e,ei.size) l) len (.cells vs'.toArray e)) c.heap.length (.arr 0 (e,ei.size) l):=by
  refine⟨cS,h2,.inr ⟨c.w.heap.size,len,vs'.toArray,bH,heap_alloc_new _ _,by simpa using bR,by omega,by unfold maxLen;have:=Nat.le_mul_of_pos_right len cS;omega,fun i j e' x he hx=>?_⟩⟩;have hj:j<ei.size:=by
   have:=aX hx;rw[h2 i e' he]at this;exact this
  have hf:=flat_get h2 he hj;rw[hx]at hf;have ah:i*ei.size+j<vs'.length:=by
   have:=f2.1;simp only[aff]at this;rw[<- this];exact aX hf
  refine⟨vs'[i*ei.size+j],by simp[ah],yE (f2.pF _ x _ hf (by simp[ah])) (iN i e' he x (afh hx)),k1.vd (f2.pF _ x _ hf (by simp[ah]))⟩
 refine⟨_,.slice (some ⟨c.w.heap.size,0,none⟩) len len,.inl (by simp only[execOp,e1,Sem.run_bind,cK,Result.andThen_ok,Sem.run_pure];rfl),rfl,k2 dx,?_,k1⟩;have:=VR.own (c:=c.add (.arr 0 (e,ei.size) l) len (.cells vs'.toArray e)) c.heap.length 0 (e,ei.size) l c.w.heap.size len nj bH;rw[mi]at this;exact this
def Cp(E:Env)(o:Op)(s:List AV)(h:List af)(stop:Prop)(k:AV->List af->Prop):Prop :=
 match o with
 | .buildSlice t len parts=>aZ E.T t stop fun i=>match i.k with
  | .slice e=>aZ E.T e stop fun ei=>match Nat.beq ei.zero.length ei.size,Nat.blt 0 ei.size,Nat.blt 0 len,aeg (len*ei.size) 16777216,ei.zero.all DV.fm with
   |true,true,true,true,true=>ue E.G s parts.toList stop fun ps =>
    match ei.zero with
    |[z]=>ud len z fun zs=>oT ei.size ps zs stop fun l=>n4 h (.arr 0 (e,ei.size) l) 0 fun h' n=>k (.own n 0) h'
    |zl=>ud len (.agg zl) fun zs=>oT ei.size ps zs stop fun l=>n4 h (.arr 0 (e,ei.size) l) 0 fun h' n=>k (.own n 0) h'
   |_,_,_,_,_=>stop
  |_=>stop
 |_=>stop
theorem Ln(hE:E.OK){o:Op}{stop:Prop}{k:AV->List af->Prop}(H:Cp E o s h stop k):stop\/∃ v h',k v h'/\bz E o s h v h':=by
 unfold Cp at H;split at H
 ·rcases bp H with h|⟨i,hi,H⟩
  ·exact .inl h
  split at H
  ·rename_i e hk;rcases bp H with h|⟨ei,bV,H⟩
   ·exact .inl h
   split at H
   ·rename_i q1 q2 q3 q4 q5;rcases yJ H with h|⟨ps,hI,H⟩
    ·exact .inl h
    simp only[sk,ad5]at H;split at H
    ·rename_i z gG;rw[BA]at H;have jD:z.fm=true:=by rw[gG]at q5;simpa using q5
     rcases Lm hE hi bV hk hI (adX q1) (iO q2) (iO q3) (ad3 q4) (z:=z) (by rw[gG];cases z<;>first|rfl|cases jD) (fun y hy=>ad'.1 q5 y hy) H with h|⟨l,H,hl⟩
     ·exact .inl h
     exact .inr ⟨_,_,H,hl⟩
    ·rw[BA]at H;rcases Lm hE hi bV hk hI (adX q1) (iO q2) (iO q3) (ad3 q4) (z := .agg ei.zero) rfl (fun y hy=>ad'.1 q5 y hy) H with h|⟨l,H,hl⟩
     ·exact .inl h
     exact .inr ⟨_,_,H,hl⟩
   ·exact .inl H
  ·exact .inl H
 ·exact .inl H
theorem J.ra(hE:E.OK){aj:FuncId}{R:cF}{lits:List Nat}{ops:Array Oper}{o:Oper}{l:List Oper}{r:List aT}(hg:o.guard=none)
  (H:Cp E o.op s h False fun v h'=>cg s o.dst v fun s'=>J E aj R lits (.bw ops l::r) s' h'):J E aj R lits (.bw ops (o::l)::r) s h:=by
 rcases Ln hE H with h|⟨v,h',H,ho⟩
 ·exact h.elim
 ·rw[dX]at H;exact .of (.op (gb hg) ho H.to)
end
mutual
def norm:DV->DV
 | .aI => .sl []
 | .agg c => .agg (uW c)
 | .aF c => .aF (uW c)
 |x=>x
def uW:List DV->List DV
 |[]=>[]
 |x::l=>norm x::uW l
end
theorem Gf:∀ (l:List DV),uW l=l.map norm
 |[]=>rfl
 |x::l=>by rw[uW,Gf l];rfl
theorem Lo{bad:Nat->Prop}{w:World}{x:DV}{v:Value}(h:VD bad w x v):VD bad w (norm x) v:=by
 induction h with
 |aI=>exact .slnil
 |agg c vs hlen bG ih =>
  rw[norm,Gf];refine .agg _ _ (by simpa using hlen) fun j y v hy hv=>?_;rw[ad1]at hy;cases hc:c[j]? with
  |none=>rw[hc]at hy;cases hy
  |some z=>rw[hc]at hy;cases hy;exact ih j z v hc hv
 |aF c vs hlen bG ih =>
  rw[norm,Gf];refine .aF _ _ (by simpa using hlen) fun j y v hy hv=>?_;rw[ad1]at hy;cases hc:c[j]? with
  |none=>rw[hc]at hy;cases hy
  |some z=>rw[hc]at hy;cases hy;exact ih j z v hc hv
 |undef=>exact .undef
 |bool b=>exact .bool b
 |int k n=>exact .int k n
 |str l=>exact .str l
 |slnil=>exact .slnil
 |jX a=>exact .jX a
 |sl l blk off cap sz f hb bR jB hlen dO bG bZ ih=>exact .sl l blk off cap sz f hb bR jB hlen dO bG bZ
 |ec=>exact .ec
 |az=>exact .az
 |jA=>exact .jA
 |eR=>exact .eR
 |fn f=>exact .fn f
 |raw v h=>exact .raw v h
theorem ar.norm{E:Env}{f:FuncId}{args:List DV}{y:DV}(H:ar E f args (fun r=>aA.norm r=y)):ar E f args (· = y):=by
 unfold ar at H ⊢;exact⟨H.1,fun aE w vs h1 h2 h3=>(H.2 aE w vs h1 h2 h3).mono fun e w' ⟨v,r,k1,k2,k3,k4⟩=>⟨v,y,k1,rfl,k2 ▸ Lo k3,k4⟩⟩
end Go.aA
end
section
namespace Go.aA
open Go Go.RowKit
def dH(n:Nat)(B:List Nat)(i:Nat):Bool:=match aeg n i with
 |true=>true
 |false=>km i B
def lj(n:Nat)(B:List Nat):Nat->List af->List af
 |_,[]=>[]
 |i,b::r=>match aeg n i with
  |true=>[]
  |false=>(match km i B with|true => .gone|false=>b)::lj n B (i+1) r
theorem xG{n:Nat}{B:List Nat}:∀ (i k:Nat) (h:List af),dH n B (i+k)=false->(lj n B i h)[k]?=h[k]?
 |_,_,[],_=>rfl
 |i,0,b::r,hh=>by
  simp only[dH,aew]at hh;split at hh
  ·cases hh
  ·rename_i q;simp only[lj,q,hh];rfl
 |i,k+1,b::r,hh=>by
  have hn:aeg n i=false:=by
   cases q:aeg n i with
   |false=>rfl
   |true =>
    have h1:=ad3 q;have h2:aeg n (i+(k+1))=true:=Nat.ble_eq_true_of_le (by omega);simp only[dH,h2]at hh;cases hh
  simp only[lj,hn,agf];exact xG (i+1) k r (by rwa [show i+1+k=i+(k+1) by omega])
theorem Lp{n:Nat}{B:List Nat}:∀ (i k:Nat) (h:List af) (b:af),dH n B (i+k)=true->(lj n B i h)[k]?=some b->b=.gone
 |_,_,[],_,_,h=>by simp[lj]at h
 |i,k,b'::r,b,hh,h=>by
  simp only[lj]at h;split at h
  ·simp at h
  ·rename_i q;cases k with
   |zero =>
    simp only[dH,aew,q]at hh;simp only[hh,ago,Option.some.injEq]at h;exact h.symm
   |succ k=>exact Lp (i+1) k r b (by rwa [show i+1+k=i+(k+1) by omega]) (by simpa using h)
def gr(n:Nat)(B:List Nat):AV->Bool
 | .any=>true
 | .d _=>true
 | .bQ _ _=>true
 | .own b _=>match dH n B b with|true=>false|false=>true
 | .ptr b _=>match dH n B b with|true=>false|false=>true
 | .cX b _ _ _=>match dH n B b with|true=>false|false=>true
 | .cut b _ _ _=>match dH n B b with|true=>false|false=>true
 | .map b=>match dH n B b with|true=>false|false=>true
 |_=>false
def pW{β:Type}(f:β->Bool):List β->Bool
 |[]=>true
 |a::l=>match f a with
  |true=>pW f l
  |false=>false
theorem Cq{β:Type}{f:β->Bool}:∀ {l:List β},pW f l=true->∀ (j:Nat) (x:β),l[j]?=some x->f x=true
 |[],_,_,_,h=>by simp at h
 |a::l,H,j,x,h=>by
  unfold pW at H;split at H
  ·rename_i q;cases j with
   |zero=>simp at h;subst h;exact q
   |succ j=>exact Cq H j x (by simpa using h)
  ·cases H
def ir(n:Nat)(B:List Nat):AV->Bool
 | .agg l=>pW (gr n B) l
 | .aF l=>pW (gr n B) l
 | .fn _ a b=>match pW (gr n B) a with
  |true=>pW (gr n B) b
  |false=>false
 |x=>gr n B x
def Lq(n:Nat)(B:List Nat):af->Bool
 | .cells cs=>pW (ir n B) cs
 |_=>true
section
variable {G:List (Nat × DV)} {c c':Cx} {n:Nat} {B:List Nat}
theorem Lr(hk:∀ b,b<c.w.heap.size->¬ c.bad b->¬ c'.bad b/\c'.w.heap[b]?=c.w.heap[b]?)(hb:∀ i bx,dH n B i=false->c.heap[i]?=some bx->c'.heap[i]?=some bx/\c'.own i=c.own i)
  {x:AV} {v:Value} (hf:gr n B x=true) (hv:VR c x v):VR c' x v:=by
 cases hv with
 |any v=>exact .any v
 |d x v hx=>exact .d x v (hx.mono hk)
 |own b g sz l blk cap h1 h2 =>
  have hh:dH n B b=false:=by simp only[gr]at hf;split at hf<;>first|assumption|cases hf
  obtain⟨k1,k2⟩:=hb _ _ hh h1;exact .own b g sz l blk cap k1 (k2.trans h2)
 |iH b g sz h1 h2 =>
  have hh:dH n B b=false:=by simp only[gr]at hf;split at hf<;>first|assumption|cases hf
  obtain⟨k1,k2⟩:=hb _ _ hh h1;exact .iH b g sz k1 (k2.trans h2)
 |kQ b g g1 sz l v h1 h2 h3 =>
  have hh:dH n B b=false:=by simp only[gr]at hf;split at hf<;>first|assumption|cases hf
  obtain⟨k1,k2⟩:=hb _ _ hh h1;exact .kQ b g g1 sz l _ k1 h2 h3
 |jY b g v h1 h2 =>
  have hh:dH n B b=false:=by simp only[gr]at hf;split at hf<;>first|assumption|cases hf
  exact .jY b g _ (hb _ _ hh h1).1 h2
 |mZ b g cs blk cap m h1 h2 h3 =>
  have hh:dH n B b=false:=by simp only[gr]at hf;split at hf<;>first|assumption|cases hf
  obtain⟨k1,k2⟩:=hb _ _ hh h1;exact .mZ b g cs blk cap m k1 (k2.trans h2) h3
 |cut b g k q sz l blk cap o h1 h2 h3 h4 h5 =>
  have hh:dH n B b=false:=by simp only[gr]at hf;split at hf<;>first|assumption|cases hf
  obtain⟨k1,k2⟩:=hb _ _ hh h1;exact .cut b g k q sz l blk cap o k1 (k2.trans h2) h3 h4 h5
 |nY b g g1 k q sz l v h1 h2 h3 =>
  have hh:dH n B b=false:=by simp only[gr]at hf;split at hf<;>first|assumption|cases hf
  exact .nY b g g1 k q sz l _ (hb _ _ hh h1).1 h2 h3
 |nZ b g k q v h1 h2 =>
  have hh:dH n B b=false:=by simp only[gr]at hf;split at hf<;>first|assumption|cases hf
  exact .nZ b g k q _ (hb _ _ hh h1).1 h2
 |ptr b off cs blk cap h1 h2 =>
  have hh:dH n B b=false:=by simp only[gr]at hf;split at hf<;>first|assumption|cases hf
  obtain⟨k1,k2⟩:=hb _ _ hh h1;exact .ptr b off cs blk cap k1 (k2.trans h2)
 |iI b off v h1 h2 =>
  have hh:dH n B b=false:=by simp only[gr]at hf;split at hf<;>first|assumption|cases hf
  exact .iI b off _ (hb _ _ hh h1).1 h2
 |cX b g i off sz l blk cap h1 h2 h3 =>
  have hh:dH n B b=false:=by simp only[gr]at hf;split at hf<;>first|assumption|cases hf
  obtain⟨k1,k2⟩:=hb _ _ hh h1;exact .cX b g i off sz l blk cap k1 (k2.trans h2) h3
 |mc b g g1 i off sz l v h1 h2 h3 =>
  have hh:dH n B b=false:=by simp only[gr]at hf;split at hf<;>first|assumption|cases hf
  exact .mc b g g1 i off sz l _ (hb _ _ hh h1).1 h2 h3
 |me b g i off v h1 h2 =>
  have hh:dH n B b=false:=by simp only[gr]at hf;split at hf<;>first|assumption|cases hf
  exact .me b g i off _ (hb _ _ hh h1).1 h2
 |bQ e off blk o f h1 h2 h3 h4 =>
  have ah:blk<c.w.heap.size:=by
   obtain⟨x,r,hx⟩:=List.exists_cons_of_ne_nil h2;exact World.block_lt_of_cell? _ _ (h3 0 x (by rw[hx];rfl))
  have hk:=hk;have qL:=hk blk ah h1;exact .bQ e off blk o f qL.1 h2 (fun j x hx=>by rw[World.cell?_of_block qL.2];exact h3 j x hx) (fun j x hx=>(h4 j x hx).mono hk)
 |map b es blk cap h1 h2 =>
  have hh:dH n B b=false:=by simp only[gr]at hf;split at hf<;>first|assumption|cases hf
  obtain⟨k1,k2⟩:=hb _ _ hh h1;exact .map b es blk cap k1 (k2.trans h2)
 |n0 b v h1 h2 =>
  have hh:dH n B b=false:=by simp only[gr]at hf;split at hf<;>first|assumption|cases hf
  exact .n0 b _ (hb _ _ hh h1).1 h2
 |agg a vs h1 h2=>simp[gr]at hf
 |aF a vs h1 h2=>simp[gr]at hf
 |fn f a1 a2 v1 v2 h1 h2 h3 h4=>simp[gr]at hf
theorem Tc(hk:∀ b,b<c.w.heap.size->¬ c.bad b->¬ c'.bad b/\c'.w.heap[b]?=c.w.heap[b]?)(hb:∀ i bx,dH n B i=false->c.heap[i]?=some bx->c'.heap[i]?=some bx/\c'.own i=c.own i)
  {x:AV} {v:Value} (hf:ir n B x=true) (hv:VR c x v):VR c' x v:=by
 have one:∀ {l:List AV},pW (gr n B) l=true->∀ (vs:List Value),VL c l vs->VL c' l vs:=fun hl vs h=>⟨h.1,fun j x v hx hv=>Lr hk hb (Cq hl j x hx) (h.2 j x v hx hv)⟩;unfold ir at hf;split at hf
 ·obtain⟨vs,rfl,h1⟩:=pG hv;exact wE (one hf _ h1)
 ·obtain⟨vs,rfl,h1⟩:=zi hv;exact zj (one hf _ h1)
 ·split at hf
  ·rename_i q;obtain⟨v1,v2,rfl,h1,h2⟩:=mr hv;exact Fj (one q _ h1) (one hf _ h2)
  ·cases hf
 ·exact Lr hk hb hf hv
def Cx.gu(c:Cx)(n:Nat)(B:List Nat):Cx:=⟨fun i=>match dH n B i with|true=>none|false=>c.own i,lj n B 0 c.heap,fun b=>c.aE b\/∃ j m,dH n B j=true/\c.own j=some (b,m),c.w⟩
theorem uX{i b m:Nat}(h:(c.gu n B).own i=some (b,m)):dH n B i=false/\c.own i=some (b,m):=by
 simp only[Cx.gu]at h;split at h
 ·cases h
 ·rename_i q;exact⟨q,h⟩
theorem zY{i:Nat}(h:dH n B i=false):(c.gu n B).own i=c.own i:=by simp only[Cx.gu,h]
theorem Td(b:Nat):(c.gu n B).bad b↔c.bad b:=by
 constructor
 ·rintro((hb|⟨j,m,-,hj⟩)|⟨i,m,hi⟩)
  ·exact .inl hb
  ·exact .inr ⟨j,m,hj⟩
  ·exact .inr ⟨i,m,(uX hi).2⟩
 ·rintro(hb|⟨j,m,hj⟩)
  ·exact .inl (.inl hb)
  ·cases hh:dH n B j
   ·exact .inr ⟨j,m,(zY hh).trans hj⟩
   ·exact .inl (.inr ⟨j,m,hh,hj⟩)
theorem Ls(b:Nat)(_:b<c.w.heap.size)(hn:¬ c.bad b):¬ (c.gu n B).bad b/\(c.gu n B).w.heap[b]?=c.w.heap[b]? := ⟨fun h=>hn ((Td b).1 h),rfl⟩
theorem Te{i:Nat}{bx:af}(hh:dH n B i=false)(hi:c.heap[i]?=some bx):(c.gu n B).heap[i]?=some bx/\(c.gu n B).own i=c.own i :=
 ⟨by show(lj n B 0 c.heap)[i]?=_;rw[xG 0 i c.heap (by rwa [ad5])];exact hi,zY hh⟩
theorem Cr{x:AV}{v:Value}(hf:ir n B x=true)(hv:VR c x v):VR (c.gu n B) x v:=Tc Ls (fun _ _=>Te) hf hv
theorem Tf{x:DV}{v:Value}(hv:VD c.bad c.w x v):VD (c.gu n B).bad (c.gu n B).w x v:=hv.mono Ls
theorem ka.free{i:Nat}{bx:af}(Tg:Lq n B bx=true)(iQ:∀ x v,ir n B x=true->VR c x v->VR c' x v)(fw:∀ x v,VD c.bad c.w x v->VD c'.bad c'.w x v)(hb:ka c i bx)(ho:c'.own i=c.own i)(hw:∀ b n,c.own i=some (b,n)->c'.w.heap[b]?=c.w.heap[b]?):ka c' i bx:=by
 cases bx with
 |cells cs =>
  obtain⟨blk,cap,vs,ty,h1,h2,h3,h4⟩:=hb;exact⟨blk,cap,vs,ty,ho.trans h1,(hw blk cap h1).trans h2,h3,fun j x v hx hv=>iQ x v (Cq Tg j x hx) (h4 j x v hx hv)⟩
 |arr g ts l =>
  obtain⟨h0,h1,h2⟩:=hb;refine⟨h0,h1,?_⟩;rcases h2 with⟨h2,h3⟩|⟨blk,cap,vs,h2,h3,h4,h5,h6,h7⟩
  ·exact .inl ⟨ho.trans h2,h3⟩
  ·refine .inr ⟨blk,cap,vs,ho.trans h2,(hw blk cap h2).trans h3,h4,h5,h6,fun i j e x he hx=>?_⟩;obtain⟨v,h8,yC,h9⟩:=h7 i j e x he hx;exact⟨v,h8,yC,fw x v h9⟩
 |map es =>
  obtain⟨blk,cap,en,ck,h1,h2,h3,h4⟩:=hb;exact⟨blk,cap,en,ck,ho.trans h1,(hw blk cap h1).trans h2,h3,fun j k x m hx hm=>⟨fw _ _ (h4 j k x m hx hm).1,fw _ _ (h4 j k x m hx hm).2⟩⟩
 |gone=>exact ho.trans hb
 |hole=>exact ho.trans hb
def Gg(n:Nat)(B:List Nat)(X:List af):Bool:=pW (Lq n B) X
theorem aM.gu(ho:aM G c)(dL:Gg n B (lj n B 0 c.heap)=true):aM G (c.gu n B) where
 bS:=fun b hb=>hb.elim (ho.bS b) fun⟨j,m,_,hj⟩=>(ho.bB j b m hj).1
 bB:=fun i b m hi=>by
  obtain⟨h1,h2⟩:=uX hi;obtain⟨h3,h4⟩:=ho.bB i b m h2;refine⟨h3,?_⟩;have:(c.gu n B).heap[i]?=c.heap[i]? := xG 0 i c.heap (by rwa [ad5]);have h5:(c.gu n B).heap[i]?=some c.heap[i]:=by rw[this];simp
  exact aX h5
 inj:=fun i j b m k hi hj=>ho.inj i j b m k (uX hi).2 (uX hj).2
 sep:=fun i b m hi hb=>by
  obtain⟨h1,h2⟩:=uX hi;rcases hb with hb|⟨j,k,hj,hk⟩
  ·exact ho.sep i b m h2 hb
  ·have:=ho.inj i j b m k h2 hk;subst this;rw[h1]at hj;cases hj
 box:=fun i bx hi=>by
  cases hh:dH n B i
  ·have e:(c.gu n B).heap[i]?=c.heap[i]? := xG 0 i c.heap (by rwa [ad5]);have hf:=Cq dL i bx hi;rw[e]at hi;exact(ho.box i bx hi).free hf (fun _ _=>Cr) (fun _ _=>Tf) (zY hh) (fun _ _ _=>rfl)
  ·obtain rfl:=Lp 0 i c.heap bx (by rwa [ad5]) hi;show(c.gu n B).own i=none;simp only[Cx.gu,hh]
 fS:=fun g e hg=>Cr rfl (ho.fS g e hg)
end
theorem aM.Lt{G:List (Nat × DV)}{c:Cx}{aE:Nat->Prop}(ho:aM G c)(hb:∀ b,aE b->c.aE b):aM G ⟨c.own,c.heap,aE,c.w⟩/\(∀ x v,VR c x v->VR ⟨c.own,c.heap,aE,c.w⟩ x v):=by
 have oR:∀ b,b<c.w.heap.size->¬ c.bad b->¬ (⟨c.own,c.heap,aE,c.w⟩:Cx).bad b/\(⟨c.own,c.heap,aE,c.w⟩:Cx).w.heap[b]?=c.w.heap[b]? := fun b _ hn=>⟨fun h=>hn (h.elim (fun h => .inl (hb b h)) .inr),rfl⟩;have iQ:∀ x v,VR c x v->VR ⟨c.own,c.heap,aE,c.w⟩ x v:=fun x v=>sj oR (fun _ _ hi=>ml hi rfl rfl);exact⟨⟨fun b h=>ho.bS b (hb b h),ho.bB,ho.inj,fun i b n hi h=>ho.sep i b n hi (hb b h),fun i bx hx=>(ho.box i bx hx).gen iQ (fun _ _ h=>h.mono oR) rfl (fun _ _ _=>rfl),fun g e hg=>iQ _ _ (ho.fS g e hg)⟩,iQ⟩
end Go.aA
end
