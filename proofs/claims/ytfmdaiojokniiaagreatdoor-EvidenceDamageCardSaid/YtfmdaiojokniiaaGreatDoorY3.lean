/- Several texts of mine, one behind the other. Conditions: as each says. -/
import Derived.Test.YtfmdaiojokniiaaGreatDoorY2
import Derived.Orders
import Derived.OrdersIn
set_option linter.unusedVariables false
set_option linter.unusedSimpArgs false
section
namespace Go.ax
open Go Go.RowKit
inductive iL (ops:Array Oper):Nat→Nat→Prop
 |one {j:Nat} {o:Oper} {e:Edge} (hj:ops[j]? = some o) (he:e∈o.after) (hb:Region.binds .any e=true):iL ops e.on j
 |step {i j:Nat} {o:Oper} {e:Edge} (h:iL ops i e.on) (hj:ops[j]? = some o) (he:e∈o.after) (hb:Region.binds .any e=true):iL ops i j
def Cn (acc:List Nat) (o:Oper):Nat:=o.after.toList.foldl (fun m e=>if Region.binds .any e then m ||| 2 ^ e.on ||| acc.getD e.on 0 else m) 0
def bits:List Oper→List Nat→List Nat
 | [],acc=>acc
 |o::l,acc=>bits l (acc++[Cn acc o])
theorem Ny {acc:List Nat} {o:Oper} {i:Nat} (h:(Cn acc o).testBit i=true):∃ e∈o.after,Region.binds .any e=true∧(i=e.on∨(acc.getD e.on 0).testBit i=true):=by
 have gen:∀ (l:List Edge) (m:Nat),(l.foldl (fun m e=>if Region.binds .any e then m ||| 2 ^ e.on ||| acc.getD e.on 0 else m) m).testBit i=true→m.testBit i=true∨∃ e∈l,Region.binds .any e=true∧(i=e.on∨(acc.getD e.on 0).testBit i=true):=by
  intro l
  induction l with
  |nil=>intro m h; exact .inl h
  |cons e l ih =>
   intro m h;rw [List.foldl_cons] at h;rcases ih _ h with h | ⟨e',tr,hb⟩
   ·split at h
    ·rename_i hb;simp only [Nat.testBit_or,Bool.or_eq_true,Nat.testBit_two_pow,decide_eq_true_eq] at h;rcases h with (h | h) | h
     ·exact .inl h
     ·exact .inr ⟨e,List.mem_cons_self ..,hb,.inl h.symm⟩
     ·exact .inr ⟨e,List.mem_cons_self ..,hb,.inr h⟩
    ·exact .inl h
   ·exact .inr ⟨e',List.mem_cons_of_mem _ tr,hb⟩
 rcases gen _ _ h with h | ⟨e,he,hb⟩
 ·simp at h
 ·exact ⟨e,by simpa using he,hb⟩
theorem Co (ops:Array Oper):∀ (l:List Oper) (acc:List Nat),ops.toList.drop acc.length=l→(∀ j i,(acc.getD j 0).testBit i=true→iL ops i j)→∀ j i,((bits l acc).getD j 0).testBit i=true→iL ops i j
 | [],acc,_,ha=>ha
 |o::l,acc,hl,ha=>by
  have ho:ops[acc.length]? = some o:=by
   have:=congrArg (·[0]?) hl
   simpa using this
  refine Co ops l (acc++[Cn acc o]) (by rw [List.length_append,List.length_singleton,← List.drop_drop,hl]; rfl) (fun j i h=>?_);rcases Nat.lt_trichotomy j acc.length with hj | hj | hj
  ·rw [List.getD,List.getElem?_append_left hj] at h;exact ha j i h
  ·subst hj;rw [List.getD,List.getElem?_append_right (Nat.le_refl _),Nat.sub_self] at h;obtain ⟨e,he,hb,h | h⟩:=Ny (by simpa using h)
   ·subst h; exact .one ho he hb
   ·exact .step (ha _ _ h) ho he hb
  ·rw [List.getD,List.getElem?_eq_none (by simp; omega)] at h;simp at h
def tmpsOf (o:Op):List Nat:=o.operands.toList.filterMap fun | .tmp t=>some t | _=>none
def GJ (ops:Array Oper):Option (Nat × Bool)→List Nat
 |none=>[]
 |some (j,_)=>match (ops[j]?).bind (·.dst) with
  |some d=>[d]
  |none=>[]
def eA (ops:Array Oper) (o:Oper):List Nat:=tmpsOf o.op++GJ ops o.guard
def nG (ops:Array Oper) (a b:Oper):Bool:=(match a.dst with | some d=>iJ d (b.dst.toList++eA ops b) | none=>false)||(match b.dst with | some d=>iJ d (eA ops a) | none=>false)
theorem wI {d:Nat}:∀ {l:List Nat},iJ d l=true↔d∈l
 | []=>by simp [iJ]
 |a::l=>by
  simp only [iJ];split
  ·rename_i q; simp [Nat.eq_of_beq_eq_true q]
  ·rename_i q;have aJ:d≠a:=fun e=>by rw [e,Nat.beq_refl] at q; cases q
   rw [wI (l:=l)];simp [aJ]
structure Cp (ops:Array Oper):Prop where
 low:∀ j o e,ops[j]? = some o→e∈o.after→Region.binds .any e=true→e.on<j
 pair:∀ i j oi oj,i<j→ops[i]? = some oi→ops[j]? = some oj→nG ops oi oj=true→iL ops i j
def GK (ops:Array Oper):Bool :=
 let bs:=bits ops.toList []
 (List.range ops.size).all fun j=>match ops[j]? with
  |none=>true
  |some oj=>(oj.after.toList.all fun e => !Region.binds .any e||decide (e.on<j))&&(List.range j).all fun i=>match ops[i]? with
   |none=>true
   |some oi=>(bs.getD j 0).testBit i || !nG ops oi oj
theorem Nz {ops:Array Oper} (h:GK ops=true):Cp ops:=by
 have hb:=Co ops ops.toList [] rfl (fun j i h=>by simp at h);have aH:∀ j oj,ops[j]? = some oj→(oj.after.toList.all fun e => !Region.binds .any e||decide (e.on<j))=true∧∀ i oi,i<j→ops[i]? = some oi→((bits ops.toList []).getD j 0).testBit i=true∨nG ops oi oj=false:=fun j oj hj=>by
  have ai:j<ops.size:=(Array.getElem?_eq_some_iff.1 hj).1;have h1:=List.all_eq_true.1 h j (List.mem_range.2 ai);simp only [hj,Bool.and_eq_true] at h1;refine ⟨h1.1,fun i oi hi ot=>?_⟩;have h2:=List.all_eq_true.1 h1.2 i (List.mem_range.2 hi);simp only [ot,Bool.or_eq_true,Bool.not_eq_true'] at h2;exact h2
 refine ⟨fun j o e hj he gG=>?_,fun i j oi oj dm hi hj hc=>?_⟩
 ·have:=List.all_eq_true.1 (aH j o hj).1 e (by simpa using he)
  simpa [gG] using this
 ·rcases (aH j oj hj).2 i oi dm hi with h | h
  ·exact hb j i h
  ·rw [hc] at h; cases h
def GL (ops:Array Oper) (l:List (Nat × Nat)):Bool :=
 let bs:=bits ops.toList []
 l.all fun p=>(bs.getD p.2 0).testBit p.1
theorem NA {ops:Array Oper} {l:List (Nat × Nat)} (h:GL ops l=true):∀ p∈l,iL ops p.1 p.2:=fun p hp =>
 Co ops ops.toList [] rfl (fun j i h=>by simp at h) p.2 p.1 (List.all_eq_true.1 h p hp)
def cur:List (Oper × AV)→(Nat→Bool)→Nat→List AV→List AV
 | [],_,_,s=>s
 |(o,v)::l,L,i,s=>cur l L (i+1) (if L i then bX s o.dst v else s)
theorem rM:∀ (pl:List (Oper × AV)) (L:Nat→Bool) (i:Nat) (s:List AV),(cur pl L i s).length=s.length
 | [],_,_,_=>rfl
 |(o,v)::l,L,i,s=>by
  rw [cur,rM l];split
  ·cases o.dst <;> simp [bX]
  ·rfl
theorem NB {s:List AV} {d:Option Nat} {v:AV} {t:Nat} (h:d≠some t):(bX s d v)[t]? = s[t]? := by
 cases d with
 |none=>rfl
 |some d=>exact List.getElem?_set_ne (fun e=>h (by rw [e]))
theorem NC {s s':List AV} {d:Option Nat} {v:AV} {t:Nat} (hl:s.length=s'.length) (h:s[t]? = s'[t]?):(bX s d v)[t]? = (bX s' d v)[t]? := by
 cases d with
 |none=>exact h
 |some d =>
  by_cases hd:d=t
  ·subst hd;simp only [bX,List.getElem?_set,hl,if_true]
  ·simp only [bX,List.getElem?_set_ne hd,h]
theorem y0 {t:Nat}:∀ (pl:List (Oper × AV)) (L L':Nat→Bool) (i:Nat) (s s':List AV),s.length=s'.length→s[t]? = s'[t]? → (∀ k o v,pl[k]? = some (o,v)→o.dst=some t→L (i+k)=L' (i+k))→(cur pl L i s)[t]? = (cur pl L' i s')[t]?
 | [],_,_,_,_,_,_,hs,_=>hs
 |(o,v)::l,L,L',i,s,s',hl,hs,hw=>by
  rw [cur,cur];have hlen:∀ (b:Bool) (q:List AV),(if b then bX q o.dst v else q).length=q.length:=fun b q=>by cases b <;> cases o.dst <;> simp [bX]
  refine y0 l L L' (i+1) _ _ (by rw [hlen,hlen,hl]) ?_ (fun k o' v' hk hd=>by have:=hw (k+1) o' v' (by simpa using hk) hd; rwa [show i+(k+1)=i+1+k by omega] at this);by_cases hd:o.dst=some t
  ·have:=hw 0 o v rfl hd;rw [Nat.add_zero] at this;rw [this];split
   ·exact NC hl hs
   ·exact hs
  ·split <;> split <;> simp only [NB hd,hs]
theorem wJ:∀ (pl:List (Oper × AV)) (i:Nat) (s:List AV) (L:Nat→Bool),(∀ k,k<pl.length→L (i+k)=false)→cur pl L i s=s
 | [],_,_,_,_=>rfl
 |(o,v)::l,i,s,L,h=>by
  have h0:=h 0 (by simp);rw [Nat.add_zero] at h0;rw [cur,h0];exact wJ l (i+1) s L (fun k hk=>by have:=h (k+1) (by simpa using hk); rwa [show i+(k+1)=i+1+k by omega] at this)
theorem GM:∀ (pl:List (Oper × AV)) (i j:Nat) (s:List AV) (o:Oper) (v:AV),pl[j]? = some (o,v)→cur pl (fun k=>decide (k<i+j+1)) i s=bX (cur pl (fun k=>decide (k<i+j)) i s) o.dst v
 | [],_,_,_,_,_,h=>by simp at h
 |(o',v')::l,i,0,s,o,v,h=>by
  simp at h;obtain ⟨rfl,rfl⟩:=h;rw [cur,cur];simp only [Nat.add_zero,Nat.lt_irrefl,decide_false,Bool.false_eq_true,if_false,Nat.lt_succ_self,decide_true,if_true];rw [wJ l (i+1) _ _ (fun k _=>decide_eq_false (by omega)),wJ l (i+1) s _ (fun k _=>decide_eq_false (by omega))]
 |(o',v')::l,i,j+1,s,o,v,h=>by
  rw [cur,cur];have e1:(decide (i<i+(j+1)+1))=true:=decide_eq_true (by omega);have e2:(decide (i<i+(j+1)))=true:=by simp
  simp only [e1,e2,if_true];have:=GM l (i+1) j (bX s o'.dst v') o v (by simpa using h);rw [show i+(j+1)+1=i+1+j+1 by omega,show i+(j+1)=i+1+j by omega];exact this
theorem GN (d:Nat):∀ (a:List (Oper × AV)) (L:Nat→Bool) (i:Nat) (s:List AV),cur a L (i+d) s=cur a (fun k=>L (k+d)) i s
 | [],_,_,_=>rfl
 |(o,v)::a,L,i,s=>by
  rw [cur,cur,show i+d+1=i+1+d by omega,GN d a L (i+1)]
def dz (keep:List Nat):Nat→List AV→List AV
 |_,[]=>[]
 |i,x::s=>(match iJ i keep with | true=>x | false => .any)::dz keep (i+1) s
theorem GO (keep:List Nat):∀ (i:Nat) (s:List AV),(dz keep i s).length=s.length
 |_,[]=>rfl
 |i,_::s=>by simp [dz,GO keep (i+1) s]
theorem GP (keep:List Nat):∀ (i t:Nat) (s:List AV) (x:AV),(dz keep i s)[t]? = some x→x = .any∨(i+t∈keep∧s[t]? = some x)
 |_,_,[],_,h=>by simp [dz] at h
 |i,0,y::s,x,h=>by
  simp only [dz,List.getElem?_cons_zero,Option.some.injEq] at h;split at h
  ·rename_i q; subst h; exact .inr ⟨by simpa using wI.1 q,rfl⟩
  ·exact .inl h.symm
 |i,t+1,y::s,x,h=>by
  simp only [dz,List.getElem?_cons_succ] at h;rcases GP keep (i+1) t s x h with h | ⟨h1,h2⟩
  ·exact .inl h
  ·exact .inr ⟨by rwa [show i+(t+1)=i+1+t by omega],by simpa using h2⟩
def iM (E:Env) (ops:Array Oper) (o:Oper) (s:List AV) (h:List ae) (v:AV) (h':List ae):Prop :=
 ∀ (c:Cx) (a:Act),aK E.G c→c.heap=h→a.defers=[]→VS c (dz (eA ops o) 0 s) a.tmps→∀ (j:Nat),ops[j]? = some o→∀ (K:Act→World→Prop) (Q:Exit→Act→World→Prop),
  (∀ (c':Cx) (u:Value),aK E.G c'→c'.heap=h'→Step c c'→VR c' v u→K (a.put o.dst u) c'.w)→wpOp E.P ops Q j K a c.w
section
variable {E:Env} {ops:Array Oper}
def cG (listed:Array Bool) (i:Nat):Bool:=listed.getD i false
def DC (ops:Array Oper) (listed:Array Bool):Prop:=listed.size=ops.size∧∀ j o e,ops[j]? = some o→cG listed j=true→e∈o.after→Region.binds .any e=true→cG listed e.on=true
theorem DC.dep {listed:Array Bool} (hd:DC ops listed) {i j:Nat} (h:iL ops i j) (hj:cG listed j=true):cG listed i=true:=by
 induction h with
 |one ho he hb=>exact hd.2 _ _ _ ho hj he hb
 |step h ho he hb ih=>exact ih (hd.2 _ _ _ ho hj he hb)
theorem DC.ready {listed:Array Bool} (hd:DC ops listed) {i j:Nat} (hj:j∈Region.ready .any ops listed) (h:iL ops i j):cG listed i=true:=by
 obtain ⟨-,o,ho,aH⟩:=mem_ready.1 hj;cases h with
 |one cI he hb=>rw [ho] at cI; cases cI; exact aH _ he hb
 |step h cI he hb=>rw [ho] at cI; cases cI; exact hd.dep h (aH _ he hb)
theorem DC.set {listed:Array Bool} (hd:DC ops listed) {j:Nat} (hj:j∈Region.ready .any ops listed):DC ops (listed.setIfInBounds j true):=by
 refine ⟨by simpa using hd.1,fun i o e hi hl he hb=>?_⟩;by_cases dm:j=i
 ·subst dm;obtain ⟨-,o',cI,aH⟩:=mem_ready.1 hj;rw [hi] at cI; cases cI;exact getD_set_true (aH e he hb)
 ·have:cG listed i=true:=by unfold cG at hl ⊢; rwa [getD_set_ne false dm] at hl
  exact getD_set_true (hd.2 i o e hi this he hb)
theorem GQ {listed:Array Bool} {j i:Nat} (hj:j<listed.size):cG (listed.setIfInBounds j true) i=(cG listed i||decide (i=j)):=by
 unfold cG;by_cases h:j=i
 ·subst h; simp [hj]
 ·rw [getD_set_ne false h]; simp [Ne.symm h]
theorem Cq {listed:Array Bool} (hd:DC ops listed) {j:Nat} (hj:j∈Region.ready .any ops listed):cG listed j=false∧j<ops.size:=by
 obtain ⟨h1,o,ho,-⟩:=mem_ready.1 hj;have ai:j<ops.size:=(Array.getElem?_eq_some_iff.1 ho).1;refine ⟨?_,ai⟩;have:j<listed.size:=by rw [hd.1]; exact ai
 unfold cG;simp [this] at h1 ⊢;exact h1
theorem ND (hc:Cp ops) {listed:Array Bool} (hd:DC ops listed) {j:Nat} (hj:j<ops.size) (hn:cG listed j=false):∃ i,i≤j∧i∈Region.ready .any ops listed:=by
 induction j using Nat.strongRecOn with
 |ind j ih =>
  by_cases aH:∀ i,i<j→cG listed i=true
  ·refine ⟨j,Nat.le_refl _,mem_ready.2 ⟨?_,ops[j],by simp [hj],fun e he hb=>aH _ (hc.low j _ e (by simp [hj]) he hb)⟩⟩;have:j<listed.size:=by rw [hd.1]; exact hj
   unfold cG at hn;simp [this] at hn ⊢;exact hn
  ·have:∃ i,i<j∧cG listed i=false:=by
    apply Classical.byContradiction;intro aJ;exact aH fun i hi=>by
     cases hl:cG listed i with
     |true=>rfl
     |false=>exact absurd ⟨i,hi,hl⟩ aJ
   obtain ⟨i,hi,hl⟩:=this;obtain ⟨k,hk,hr⟩:=ih i hi (by omega) hl;exact ⟨k,by omega,hr⟩
def kZ (L:Nat→Bool):Nat→Nat
 | 0=>0
 |n+1=>kZ L n+if L n then 0 else 1
theorem GR {L L':Nat→Bool} {j:Nat} (h:∀ i,i≠j→L' i=L i) (hj:L j=false) (dW:L' j=true):∀ n,(j<n→kZ L' n+1=kZ L n)∧(n≤j→kZ L' n=kZ L n)
 | 0=>⟨fun h=>by omega,fun _=>rfl⟩
 |n+1=>by
  obtain ⟨h1,h2⟩:=GR h hj dW n;simp only [kZ];by_cases hn:n=j
  ·subst hn;refine ⟨fun _=>?_,fun h=>by omega⟩;rw [h2 (Nat.le_refl _),hj,dW];simp
  ·rw [h n hn];exact ⟨fun hl=>by have:=h1 (by omega); omega,fun hl=>by rw [h2 (by omega)]⟩
theorem GS {L:Nat→Bool} {j:Nat} (hj:L j=false):∀ n,j<n→0<kZ L n
 | 0,h=>by omega
 |n+1,h=>by
  simp only [kZ];by_cases hn:n=j
  ·subst hn; rw [hj]; simp
  ·have:=GS hj n (by omega); omega
theorem Cr {a b:Oper} {d:Nat} (ha:a.dst=some d) (hb:d∈b.dst.toList++eA ops b):nG ops a b=true:=by
 simp only [nG,ha,wI.2 hb,Bool.true_or]
theorem NF {a b:Oper} {d:Nat} (hb:b.dst=some d) (ha:d∈eA ops a):nG ops a b=true:=by
 simp only [nG,hb,wI.2 ha,Bool.or_true]
theorem NG (GU:∀ i j oi oj,i<j→ops[i]? = some oi→ops[j]? = some oj→nG ops oi oj=true→iL ops i j) {q:List (Oper × AV)} (rN:∀ (k:Nat) (o:Oper) (v:AV),q[k]? = some (o,v)→ops[k]? = some o) {listed:Array Bool} (hd:DC ops listed) {i:Nat} (hi:i∈Region.ready .any ops listed)
  {o:Oper} {v:AV} (rO:q[i]? = some (o,v)) {s0:List AV} {c:Cx} {a:Act} (h4:VS c (cur q (cG listed) 0 s0) a.tmps) :
  (∀ (c':Cx) (u:Value),(∀ x v,VR c x v→VR c' x v)→VR c' v u→VS c' (cur q (cG (listed.setIfInBounds i true)) 0 s0) (a.put o.dst u).tmps)∧VS c (dz (eA ops o) 0 (cur q (fun k=>decide (k<i)) 0 s0)) a.tmps:=by
 obtain ⟨pW,gJ⟩:=Cq hd hi;have ot:=rN i o v rO;have wr:∀ k o' v',q[k]? = some (o',v')→(k<i→nG ops o' o=true→cG listed k=true)∧(i<k→nG ops o o'=true→cG listed k=false):=fun k o' v' hk=>by
  have aM:=rN k o' v' hk;refine ⟨fun ai la=>hd.ready hi (GU k i o' o ai aM ot la),fun ai la=>?_⟩;cases hl:cG listed k with
  |false=>rfl
  |true=>have:=hd.dep (GU i k o o' ai ot aM la) hl; rw [pW] at this; cases this
 have bY:i<listed.size:=by rw [hd.1]; exact gJ
 have iN:=fun q=>GQ (i:=q) bY;refine ⟨fun c' u k3 k4=>?_,?_⟩
 ·refine ⟨by rw [rM]; have:=h4.1; rw [rM] at this; cases y3:o.dst <;> simp [Act.put,this],fun t x u' hx vC=>?_⟩;by_cases gC:o.dst=some t
  ·have e1:(cur q (cG (listed.setIfInBounds i true)) 0 s0)[t]? = (cur q (fun k=>decide (k<0+i+1)) 0 s0)[t]? := by
    refine y0 _ _ _ 0 s0 s0 rfl rfl (fun k o' v' iG eY=>?_);rw [Nat.zero_add,Nat.zero_add,iN];rcases Nat.lt_trichotomy k i with ai | rfl | rj
    ·rw [(wr k o' v' iG).1 ai (Cr eY (List.mem_append_left _ (by simp [gC])))]; simp; omega
    ·simp
    ·rw [(wr k o' v' iG).2 rj (Cr gC (List.mem_append_left _ (by simp [eY])))]; simp; omega
   rw [e1,GM _ 0 i s0 o v rO,gC] at hx;have GV:t<(cur q (fun k=>decide (k<0+i)) 0 s0).length:=by
    have:=aT hx
    simpa [bX] using this
   rw [bX,List.getElem?_set_self GV] at hx;cases hx;have NH:t<a.tmps.size:=by rw [← h4.1,rM]; rwa [rM] at GV
   have y4:(a.tmps.setIfInBounds t u)[t]? = some u':=by simpa [Act.put,gC] using vC
   rw [Array.getElem?_setIfInBounds_self_of_lt NH] at y4;cases y4;exact k4
  ·have e1:(cur q (cG (listed.setIfInBounds i true)) 0 s0)[t]? = (cur q (cG listed) 0 s0)[t]? := by
    refine y0 _ _ _ 0 s0 s0 rfl rfl (fun k o' v' iG eY=>?_);rw [Nat.zero_add,iN];have:k≠i:=fun e=>by
     subst e;rw [rO] at iG;cases iG;exact gC eY
    simp [this]
   rw [e1] at hx;refine k3 _ _ (h4.2 t x u' hx ?_);cases y3:o.dst with
   |none=>simpa [Act.put,y3] using vC
   |some d =>
    rw [y3] at gC;have aJ:d≠t:=fun e=>gC (by rw [e])
    simpa [Act.put,y3,Array.getElem?_setIfInBounds_ne aJ] using vC
 ·refine ⟨by rw [GO,rM]; have:=h4.1; rwa [rM] at this,fun t x u hx hu=>?_⟩;rcases GP _ 0 t _ x hx with rfl | ⟨hk,hx⟩
  ·exact .any u
  ·rw [Nat.zero_add] at hk;refine h4.2 t x u ?_ hu;rw [← hx];refine y0 _ _ _ 0 s0 s0 rfl rfl (fun k o' v' iG eY=>?_);rw [Nat.zero_add];rcases Nat.lt_trichotomy k i with ai | rfl | rj
   ·rw [(wr k o' v' iG).1 ai (Cr eY (List.mem_append_right _ hk))]; simp [ai]
   ·rw [pW]; simp
   ·rw [(wr k o' v' iG).2 rj (NF eY hk)]; simp; omega
theorem NI {pl:List (Oper × AV)} (qQ:pl.map (·.1)=ops.toList):pl.length=ops.size∧∀ (k:Nat) (o:Oper) (v:AV),pl[k]? = some (o,v)→ops[k]? = some o:=by
 refine ⟨by have:=congrArg List.length qQ; simpa using this,fun k o v hk=>?_⟩;have:=congrArg (·[k]?) qQ;simp only [List.getElem?_map,hk,Option.map_some] at this
 simpa using this.symm
theorem NJ {L:Nat→Bool} {n i:Nat} (h:kZ L n≤0) (hi:i<n):L i=true:=by
 cases hl:L i with
 |true=>rfl
 |false=>have:=GS hl n hi; omega
theorem y5 (n i:Nat):cG (Array.replicate n false) i=false:=by
 unfold cG;simp [Array.getElem?_replicate];split <;> rfl
theorem NK (n:Nat):∀ k,kZ (cG (Array.replicate n false)) k≤k:=by
 intro k
 induction k with
 |zero=>exact Nat.le_refl _
 |succ k ih=>simp only [kZ]; split <;> omega
end
section
variable {E:Env} {ag:FuncId} {R:cx} {ops:Array Oper} {s:List AV} {h:List ae}
theorem iM.skip {o:Oper} (hw:iB ops o (dz (eA ops o) 0 s) false):iM E ops o s h (.d .undef) h:=fun c a h1 h2 _ h4 j hj K Q hK=>by
 unfold wpOp;simp only [hj,hw c a.tmps h4,Bool.false_eq_true,if_false];exact hK c Go.undef h1 h2 (Step.refl c h1.bN) (.d _ _ .undef)
theorem NL {s:List AV} {o:Oper} {fx:Operand} {args:Array Operand} {ts:Array TypeId} {f:FuncId} {a1 a2 av:List AV} {ds:List DV} {r:DV} (ho:o.op = .call { callee := .value fx,args:=args,argTypes:=ts })
  (hf:aZ E.G s fx (.fn (.func f) a1 a2)) (ha:hY E.G s args.toList av) (hd:a1++av++a2=ds.map .d) (hc:aq E f ds (· = r)) {c:Cx} {a:Act} (h1:aK E.G c) (h4:VS c s a.tmps) {K:Act→World→Prop} {Q:Exit→Act→World→Prop}
  (hK:∀ (c':Cx) (u:Value),aK E.G c'→c'.heap=c.heap→Step c c'→VR c' (.d r) u→K (a.put o.dst u) c'.w):o.wp E.P a c.w K Q:=by
 unfold aq at hc;obtain ⟨v1,v2,e1,e2,e3⟩:=km (hf c a h1 h4);have e4:=ha c a h1 h4;have e5:=(e2.append e4).append e3;rw [hd] at e5;have vz:∀ b,c.bad b→b<c.w.heap.size:=fun b hb=>hb.elim (h1.bN b) fun ⟨j,n,hj⟩=>(h1.br j b n hj).1;have Bh:qU E.G c.bad c.w:=fun g e hg=>by
  have hp:∀ p,VR c (.bJ e 0) p→VR ⟨fun _=>none,[],c.bad,c.w⟩ (.bJ e 0) p:=fun p hp=>by
   cases hp with
   |bJ _ _ blk o' fv k1 k2 k3 k4=>exact .bJ _ _ blk o' fv (fun hb=>k1 (ta.1 hb)) k2 k3 (fun j x hx=>tc (k4 j x hx))
  exact hp _ (h1.fm g e hg)
 have gK:=hc.2 c.bad c.w _ vz Bh ⟨by simpa using e5.1,e5.nj⟩;have cq:=vy (P:=E.P) (w:=c.w) (a:=a) ho e1 hc.1;have iE:(v1.toArray++args.map a.eval++v2.toArray)=(v1++args.toList.map a.eval++v2).toArray:=by
  apply Array.ext';simp
 rw [iE] at cq;unfold Oper.wp;rw [cq,Oper.upon_enter];refine gK.mono fun e w' he=>?_;obtain ⟨v,r',rfl,rfl,hv,hx⟩:=he;obtain ⟨k1,k2⟩:=h1.grow hx;exact hK (c.dL w') v k1 rfl k2 (.d _ _ hv)
theorem iM.call {o:Oper} {fx:Operand} {args:Array Operand} {ts:Array TypeId} {f:FuncId} {a1 a2 av:List AV} {ds:List DV} {r:DV} (hw:iB ops o (dz (eA ops o) 0 s) true) (ho:o.op = .call { callee := .value fx,args:=args,argTypes:=ts })
  (hf:aZ E.G (dz (eA ops o) 0 s) fx (.fn (.func f) a1 a2)) (ha:hY E.G (dz (eA ops o) 0 s) args.toList av) (hd:a1++av++a2=ds.map .d) (hc:aq E f ds (· = r)):iM E ops o s h (.d r) h:=fun c a h1 h2 _ h4 j hj K Q hK=>by
 unfold wpOp;simp only [hj,hw c a.tmps h4,if_true];left;exact NL ho hf ha hd hc h1 h4 fun c' u k1 k2 k3 k4=>hK c' u k1 (k2.trans h2) k3 k4
end
def oK:Op→Bool
 | .box .. => false
 | .alloc .. => false
 | .store .. => false
 | .makeSlice .. => false
 | .makeMap .. => false
 | .mapUpdate .. => false
 | .call { callee := .builtin .append,.. }=>false
 |_=>true
def tW {α:Sort _} (keep:List Nat):Nat→List AV→(List AV→α)→α
 |_,[],k=>k []
 |i,x::s,k=>match iJ i keep with
  |true=>tW keep (i+1) s fun s'=>k (x::s')
  |false=>tW keep (i+1) s fun s'=>k (.any::s')
theorem GW {α:Sort _} (keep:List Nat):∀ (i:Nat) (s:List AV) (k:List AV→α),tW keep i s k=k (dz keep i s)
 |_,[],_=>rfl
 |i,x::s,k=>by
  simp only [tW,dz];split <;> rename_i q <;> rw [GW keep (i+1)] <;> simp only [q]
theorem NM {T:List bk} {G:List (Nat × DV)} {o:Op} {s:List AV} {h:List ae} {stop:Prop} {K:AV→Prop} (ho:oK o=true) (H:kf T G o s h stop (fun v _=>K v)):kf T G o s h stop (fun v h'=>h'=h∧K v):=by
 cases o
 case box=>cases ho
 case alloc=>cases ho
 case store=>cases ho
 case unOp op t x=>cases op <;> simpa only [kf,true_and] using H
 case call c =>
  obtain ⟨callee,args,ts⟩:=c;cases callee with
  |builtin b=>cases b <;> simpa only [kf,true_and] using H
  |_=>simpa only [kf] using H
 all_goals simpa only [kf,true_and] using H
theorem NN {T:List bk} {G:List (Nat × DV)} {o:Op} {s:List AV} {h:List ae} {stop:Prop} {K:AV→Prop} (ho:oK o=true) (H:ow T G o s h stop (fun v _=>K v)):ow T G o s h stop (fun v h'=>h'=h∧K v):=by
 cases o
 case store=>cases ho
 case makeSlice=>cases ho
 case slice t x lo hi mx=>cases mx <;> simpa only [ow,qZ,true_and] using H
 case call c =>
  obtain ⟨callee,args,ts⟩:=c;cases callee with
  |builtin b=>cases b <;> first | (simpa only [ow,qZ] using H) | (simp [oK] at ho)
  |_=>simpa only [ow,qZ] using H
 all_goals simpa only [ow,qZ,true_and] using H
theorem NO {E:Env} {o:Op} {s:List AV} {h:List ae} {stop:Prop} {K:AV→Prop} (ho:oK o=true):tA E o s h stop (fun v h'=>h'=h∧K v)=tA E o s h stop (fun v _=>K v):=by
 unfold tA;split
 ·simp [oK] at ho
 ·simp only [true_and]
 ·simp only [true_and]
 ·simp [oK] at ho
 ·rfl
theorem NP {E:Env} {o:Op} {s:List AV} {h:List ae} {stop:Prop} {K:AV→Prop} (ho:oK o=true) (H:nz E o s h stop (fun v _=>K v)):nz E o s h stop (fun v h'=>h'=h∧K v):=by
 unfold nz at H ⊢;rw [NO ho];have:=NN ho H;have e:(fun v=>h=h∧K v)=K:=by funext v; simp
 rw [e];exact this
@[irreducible] def pX (E : Env) (f : FuncId) (ds : List DV) (h : List ae) (K1 : DV → Prop) (K2 : AV → List ae → Prop) : Prop :=
 (∃ r,aq E f ds (· = r)∧K1 r)∨∃ r h1,aw E f [] (ds.map .d) (fun a b=>a=r∧b=h1)∧K2 (gI [] h r) (eo [] h h1)
theorem au {E:Env} {f:FuncId} {ds:List DV} {h:List ae} {K1:DV→Prop} {K2:AV→List ae→Prop} {r:DV} (H:aq E f ds (· = r)) (hk:K1 r):pX E f ds h K1 K2:=by unfold pX; exact .inl ⟨r,H,hk⟩
theorem NQ {E:Env} {f:FuncId} {ds:List DV} {h:List ae} {K1:DV→Prop} {K2:AV→List ae→Prop} {r:AV} {h1:List ae} {args:List AV} (hc:aw E f [] args (fun a b=>a=r∧b=h1)) (ha:args=ds.map .d) (hk:eH [] h r fun v=>il [] h h1 fun h'=>K2 v h'):pX E f ds h K1 K2:=by
 unfold pX;rw [kV,oE] at hk;exact .inr ⟨r,h1,ha ▸ hc,hk⟩
def tX (ro:Option Nat):Fence:={ Fence.wide with round:=ro }
theorem pY (a:Act) (d:Option Nat) (v:Value):(a.put d v).defers=a.defers:=by cases d <;> rfl
section
variable {P:Program} {ops:Array Oper} {Q:Exit→Act→World→Prop}
theorem pZ (hQ:∀ e a w,Q e a w→e = .normal∧a.defers=[]):∀ (l:List Nat) (a:Act) (w:World),wpOps P ops Q l a w→a.defers=[]
 | [],a,w,h=>(hQ _ _ _ h).2
 |i::l,a,w,h=>by
  simp only [wpOps] at h;split at h
  ·exact pZ hQ l a w h
  ·rename_i o ho;split at h
   ·rcases h with h | ⟨_,a',w',h⟩
    ·unfold Oper.wp at h;generalize (execOp a.eval o).run P w=r at h;cases r with
     |ok n w' =>
      cases n with
      |value v=>have:=pZ hQ l _ _ h; rwa [pY] at this
      |skip=>have:=pZ hQ l _ _ h; rwa [pY] at this
      |defer d=>have:=pZ hQ l _ _ h; rw [pY] at this; cases this
      |enter f args =>
       obtain ⟨e,wK,fr,he,_⟩:=h [];cases e with
       |returned v=>have:=pZ hQ l _ _ he; rwa [pY] at this
       |panicked c=>have:=(hQ _ _ _ he).1; cases this
       |outgrown=>obtain ⟨a',w',he⟩:=he; have:=(hQ _ _ _ he).1; cases this
      |row cO args =>
       obtain ⟨v,wK,he,_⟩:=h default [];have:=pZ hQ l _ _ he; rwa [pY] at this
      |_=>exact h.elim
     |halt x w'=>cases x with
      |panic v=>have:=(hQ _ _ _ h).1; cases this
      |_=>exact h.elim
    ·have:=(hQ _ _ _ h).1; cases this
   ·have:=pZ hQ l _ _ h; rwa [pY] at this
theorem y6 (ro:Option Nat) (df:List Deferred) (hQ:∀ e a w,Q e a w→e = .normal∧a.defers=[]):∀ (l:List Nat) (t:Array Value) (w:World),wpOps P ops Q l ⟨t,[]⟩ w →
  wpOpsIn (tX ro) 0 P ops (fun e a w=>a.defers=df∧Q e ⟨a.tmps,[]⟩ w) l ⟨t,df⟩ w
 | [],t,w,h=>⟨rfl,h⟩
 |i::l,t,w,h=>by
  have next:∀ (d:Option Nat) (v:Value) (w:World),wpOps P ops Q l ((⟨t,[]⟩:Act).put d v) w→wpOpsIn (tX ro) 0 P ops (fun e a w=>a.defers=df∧Q e ⟨a.tmps,[]⟩ w) l ((⟨t,df⟩:Act).put d v) w:=fun d v w h=>by
   cases d with
   |none=>exact y6 ro df hQ l t w h
   |some d=>exact y6 ro df hQ l _ w h
  have NR:(⟨t,df⟩:Act).eval=(⟨t,[]⟩:Act).eval:=funext fun x=>by cases x <;> rfl
  simp only [wpOps] at h;simp only [wpOpsIn];cases ho:ops[i]? with
  |none=>rw [ho] at h; exact y6 ro df hQ l t w h
  |some o =>
   rw [ho] at h;simp only at h ⊢;by_cases hw:Region.wanted o (yielded ops t)=true
   ·rw [if_pos hw] at h ⊢;rcases h with h | ⟨_,a',w',h⟩
    case inr=>have:=(hQ _ _ _ h).1; cases this
    refine ⟨fun _ _=>trivial,?_⟩;rw [NR];unfold Oper.wp at h;cases hr:(execOp (⟨t,[]⟩:Act).eval o).run P w with
    |ok n w' =>
     rw [hr] at h;cases n with
     |value v=>rw [pD hr (by simp)]; exact next _ _ _ h
     |skip=>rw [pD hr (by simp)]; exact next _ _ _ h
     |defer d=>have:=pZ hQ l _ _ h; rw [pY] at this; cases this
     |enter f args =>
      rw [pD hr (by simp)];refine ⟨fun e=>by simp [tX,Fence.wide] at e,?_⟩;have h2:Calls P f args w' fun e wK=>match e with
        | .returned v=>wpOpsIn (tX ro) 0 P ops (fun e a w=>a.defers=df∧Q e ⟨a.tmps,[]⟩ w) l ((⟨t,df⟩:Act).put o.dst v) wK
        | .panicked chain=>df=df∧Q (.panic chain) ⟨t,[]⟩ wK
        | .outgrown=>LetsOut (fun e a w=>a.defers=df∧Q e ⟨a.tmps,[]⟩ w):=Calls.mono h (fun e wK he=>by
       cases e with
       |returned v=>exact next _ _ _ he
       |panicked c=>have:=(hQ _ _ _ he).1; cases this
       |outgrown=>obtain ⟨a',w',he⟩:=he; have:=(hQ _ _ _ he).1; cases this)
      have h3:=callsIn_wide (n:=0).2 h2;refine ⟨trivial,fun cs kn=>?_⟩;obtain ⟨e,w2,fr,k1,k2,k3⟩:=h3.2 cs (room_wide _);refine ⟨e,w2,fr,?_,k2,k3⟩;cases e <;> exact k1
     |row cO args =>
      rw [pD hr (by simp)];refine ⟨fun e=>by simp [tX,Fence.wide] at e,fun c cs _=>?_⟩;obtain ⟨v,w2,k1,k2⟩:=h c cs;exact ⟨v,w2,next _ _ _ k1,stepsIn_wide.2 k2⟩
     |_=>exact h.elim
    |halt x w' =>
     rw [hr] at h;cases x with
     |panic v=>have:=(hQ _ _ _ h).1; cases this
     |_=>exact h.elim
   ·rw [if_neg hw] at h ⊢;exact ⟨fun _ _=>trivial,next _ _ _ h⟩
end
section
variable {E:Env} {ops:Array Oper} {ag:FuncId} {R:cx} {s:List AV} {h:List ae} {lits:List Nat}
theorem AW.NS {id:Nat} {k:List aP} (hm:E.P.follows .mixedOrders=true)
  (H:∀ (c:Cx) (t:Array Value) (Q:Exit→Act→World→Prop),(∀ (a:Act) (c':Cx) (s':List AV) (h':List ae),AW E R.fx.f0 ⟨⟨ag,R.fx.cB,R.fx.aG⟩,k,s'⟩ R.fx.cls h' R→aK E.G c'→c'.heap=h'→a.defers=[]→VS c' s' a.tmps→Step c c'→Q .normal a c'.w)→aK E.G c→c.heap=h→VS c s t→wpAny E.P .any ops Q ops.size (Array.replicate ops.size false) ⟨t,[]⟩ c.w) :
  AW E R.fx.f0 ⟨⟨ag,R.fx.cB,R.fx.aG⟩,.code (.region id ops true)::k,s⟩ R.fx.cls h R:=by
 unfold AW;intro c0 c t ts h0 h1 h2 h3 hr bE h4 h5 cs;have hx:Proofs.YtfmdaiojokniiaaGreatDoor.Ext c.w { c.w with drawn:=c.w.drawn+1 }:=⟨rfl,rfl,rfl,Nat.le_refl _,fun _ _=>rfl⟩;obtain ⟨g1,g2⟩:=h3.grow hx
 let Q:Exit→Act→World→Prop:=fun e a w=>(e = .normal∧a.defers=[])∧∃ (c':Cx) (s':List AV) (h':List ae),AW E R.fx.f0 ⟨⟨ag,R.fx.cB,R.fx.aG⟩,k,s'⟩ R.fx.cls h' R∧aK E.G c'∧c'.heap=h'∧VS c' s' a.tmps∧Step c c'∧w=c'.w
 have NT:(Code.region id ops true).wpIn (tX R.fx.cB) 0 E.P (fun e a w=>a.defers=marks R.fx.aG∧Q e ⟨a.tmps,[]⟩ w) ⟨t,marks R.fx.aG⟩ c.w:=by
  refine wpIn_region_draw fun tt=>?_;simp only [Region.schedule,hm,Bool.true_or,if_true];refine y6 R.fx.cB (marks R.fx.aG) (fun e a w he=>he.1) _ t _ (wpAny_sound ops.size tt _ _ _ ?_);exact H (c.dL { c.w with drawn:=c.w.drawn+1 }) t Q (fun a c' s' h' hK r1 r2 r3 r4 r5=>⟨⟨rfl,r3⟩,c',s',h',hK,r1,r2,r4,g2.trans r5,rfl⟩) g1 h2 (g2.vs h4)
 obtain ⟨e,a',w',⟨hd,⟨⟨rfl,-⟩,c',s',h',hA,r1,r2,r4,r5,rfl⟩⟩,NU⟩:=NT (bf ⟨ag,R.fx.cB,R.fx.aG⟩) (k.map aP.bB) (ez R.fx.cls ts++cs) rfl trivial (fun d hd=>by cases hd);unfold AW at hA;obtain ⟨c2,fr,r,v,q1,q2,q3,vA,q4,q5,q6⟩:=hA c0 c' a'.tmps ts h0 (dE h1) r2 r1 (hr.step r5) (bE.step h3 r5) r4 (r5.cr h5) cs;refine ⟨c2,fr,r,v,q1,q2,q3,vA,?_,q5,q6⟩;have BS:a'=⟨a'.tmps,marks R.fx.aG⟩:=by cases a'; simp only at hd; subst hd; rfl
 have:Steps E.P (lone ((bf ⟨ag,R.fx.cB,R.fx.aG⟩).atR ⟨t,marks R.fx.aG⟩ (.code (.region id ops true)::k.map aP.bB)) (ez R.fx.cls ts++cs) c.w) (lone ((bf ⟨ag,R.fx.cB,R.fx.aG⟩).atR a' (k.map aP.bB)) (ez R.fx.cls ts++cs) c'.w):=StepsIn.steps NU;rw [BS] at this;exact this.trans q4
end
section
variable {E:Env} {ops:Array Oper} {J:List Nat} {h:List ae} {c:Cx}
theorem VS.wL {s:List AV} {t:Array Value} {H:List ae} (hv:VS c s t) (hh:c.heap=H) (hs:∀ j∈J,H[j]? = h[j]?):VS (c.dO J) (s.map (eU J h)) t:=by
 subst hh;refine ⟨by rw [List.length_map]; exact hv.1,fun i x v hx hu=>?_⟩;rw [List.getElem?_map] at hx;cases hy:s[i]? with
 |none=>rw [hy] at hx; cases hx
 |some y =>
  rw [hy] at hx;cases hx;rw [← Gb hs];exact FZ (hv.2 i y v hy hu)
structure Seen (J:List Nat) (h h1 H:List ae):Prop where
 nodup:J.Nodup
 lt:∀ j∈J,j<h.length
 len:h.length+(h1.length - J.length)≤H.length
 same:∀ j∈J,H[j]? = h[j]?
 new:∀ j∈dj J h h1,H[j]? = some .hole
theorem iM.wL {o:Oper} {s:List AV} {H h1:List ae} {v:AV} (hw:iB ops o (dz (eA ops o) 0 s) true) (ho:bC E o.op ((dz (eA ops o) 0 s).map (eU J h)) (dG J h) v h1) (hs:Seen J h h1 H):iM E ops o s H (gI J h v) (eW (J++dj J h h1) (eo J h h1) H):=fun c a k1 h2 _ h4 j hj K Q hK=>by
 obtain ⟨c1,u,d1,rfl,k3,r1,st⟩:=ho o (c.dO J) a rfl (by rw [← BY hs.same,← h2]; rfl) (k1.dO hs.nodup) (h4.wL h2 hs.same);subst h2;have hb:jJ c c1 J h:=⟨hs.nodup,hs.lt,hs.len,hs.same,hs.new,(Rel.refl _ M').step st,fun i b n hi=>(k3.br i b n hi).2⟩;have:=hK (c.take c1 J h) u (k1.take k3 hb) rfl (yC k1 hb) (BV k1 hb r1);unfold wpOp;simp only [hj,hw c a.tmps h4,if_true];left;unfold Oper.wp;rcases d1 with d1 | ⟨d1,rfl⟩
 ·rw [show c.w=(c.dO J).w from rfl,d1]; exact this
 ·rw [show c.w=(c.dO J).w from rfl,d1]; exact this
theorem iM.Cs {o:Oper} {s:List AV} {H h1:List ae} {fx:Operand} {args:Array Operand} {ts:Array TypeId} {f:FuncId} {a1 a2 av:List AV} {r:AV} (hw:iB ops o (dz (eA ops o) 0 s) true) (ho:o.op = .call { callee := .value fx,args:=args,argTypes:=ts })
  (hf:aZ E.G (dz (eA ops o) 0 s) fx (.fn (.func f) a1 a2)) (ha:hY E.G (dz (eA ops o) 0 s) args.toList av) (hc:aw E f (dG J h) ((a1++av++a2).map (eU J h)) (fun a b=>a=r∧b=h1)) (hs:Seen J h h1 H):iM E ops o s H (gI J h r) (eW (J++dj J h h1) (eo J h h1) H):=fun c a k1 h2 _ h4 j hj K Q hK=>by
 unfold wpOp;simp only [hj,hw c a.tmps h4,if_true];left;obtain ⟨v1,v2,e1,e2,e3⟩:=km (hf c a k1 h4);have e5:=(e2.append (ha c a k1 h4)).append e3;have hb:qV E.P f:=by unfold aw at hc; exact hc.1
 subst h2;have gK:=hc.Nd (c:=c) hs.nodup hs.lt hs.same (fun r' h' ⟨_,q⟩=>by subst q; exact ⟨hs.len,hs.new⟩) k1 e5;have cq:=vy (P:=E.P) (w:=c.w) (a:=a) ho e1 hb;have iE:(v1.toArray++args.map a.eval++v2.toArray)=(v1++args.toList.map a.eval++v2).toArray:=by
  apply Array.ext';simp
 rw [iE] at cq;unfold Oper.wp;rw [cq,Oper.upon_enter];refine gK.mono fun e w' he=>?_;obtain ⟨c',r',rm,v,rfl,rfl,⟨rfl,rfl⟩,q1,q2,q3,q4⟩:=he;exact hK c' v q3 q1 q4 q2
def tY (x y:AV):Bool:=match y with
 | .any=>match x with
  | .any=>true
  |_=>false
 |_=>true
def wM {β:Type} (f:β→Bool):List β→Bool
 | []=>true
 |a::l=>match f a with
  |true=>wM f l
  |false=>false
theorem Ct {β:Type} {f:β→Bool}:∀ {l:List β},wM f l=true→∀ x∈l,f x=true
 | [],_,_,h=>by simp at h
 |a::l,H,x,h=>by
  unfold wM at H;split at H
  ·rename_i q;rcases List.mem_cons.1 h with rfl | h
   ·exact q
   ·exact Ct H x h
  ·cases H
def tZ (J:List Nat) (h:List ae):Bool:=wM (fun j=>match dc h j with
 |some (.cells cs)=>wM (fun x=>tY x (fz J h x)) cs
 |_=>true) J
theorem NV {x:AV} (H:tY x (fz J h x)=true):jn J h (fz J h x)=x:=by
 have ri:∀ {j i:Nat},cM J j=some i→eV J h i=j∧lY J h i=kU h j:=fun hi=>by simp only [eV,lY,dC,iI hi,and_self]
 cases x;all_goals (try (simp only [fz] at H ⊢))
 all_goals first
  |rfl
  |(simp only [tY] at H; cases H; done)
  |(split at H
    · rename_i hi;split at H
      · rename_i hb;first
          | (split at H
             · rename_i q;have := Nat.eq_of_beq_eq_true q;simp only [jn, ri hi, kU, hb, this, Nat.add_zero]
             · simp only [tY] at H; cases H)
          | simp only [jn, ri hi]
      · simp only [tY] at H; cases H
    · simp only [tY] at H; cases H)
theorem GX (hc:tZ J h=true):eo J h (dG J h)=h:=by
 refine List.ext_getElem? fun j=>?_;rcases Nat.lt_or_ge j h.length with hl | hl
 ·cases hx:cM J j with
  |none=>exact BP hl hx
  |some i =>
   have hj:h[j]? = some h[j]:=List.getElem?_eq_getElem hl;rw [FV hl hx (pJ (iI hx) hj),hj];have hq:=Ct hc j (List.mem_of_getElem? (iI hx));simp only [dC,hj] at hq;cases hb:h[j] with
   |cells cs =>
    rw [hb] at hq;have:(cs.map (fz J h)).map (jn J h)=cs:=by
     rw [List.map_map];exact (List.map_congr_left fun x hx=>NV (Ct hq x hx)).trans (List.map_id _)
    simp only [mI,kq,this]
   |arr g ts l=>simp only [mI,kq,kU,dC,hj,hb,Nat.add_zero]
   |map es=>rfl
   |gone=>rfl
   |hole=>rfl
 ·rw [List.getElem?_eq_none hl,List.getElem?_eq_none (by rw [pI]; simp [dG]; exact hl)]
end
def kr (h:List ae) (b:Nat):Option ae:=if b<h.length then h[b]? else some .hole
structure oL (E:Env) (ops:Array Oper) (o:Oper) (s:List AV) (h:List ae) (v:AV) (h':List ae) (t w:List Nat):Prop where
 len:h.length≤h'.length
 old:∀ b,b<h.length→b ∉ w→h'[b]? = h[b]?
 new:∀ b,h.length≤b→b<h'.length→b∈w
 sub:∀ b∈w,b∈t
 lt:∀ b∈t,b<h'.length
 act:∀ H:List ae,h'.length≤H.length→(∀ b∈t,H[b]? = kr h b)→iM E ops o s H v (eW w h' H)
section
variable {E:Env} {ops:Array Oper} {o:Oper} {s:List AV} {h:List ae} {v:AV}
theorem oL.same {t:List Nat} (hl:∀ b∈t,b<h.length) (H:∀ H:List ae,h.length≤H.length→(∀ b∈t,H[b]? = h[b]?)→iM E ops o s H v H):oL E ops o s h v h t [] where
 len:=Nat.le_refl _
 old:=fun _ _ _=>rfl
 new:=fun b h1 h2=>by omega
 sub:=fun b h=>by simp at h
 lt:=hl
 act:=fun X h1 h2=>by
  rw [show eW [] h X=X from List.ext_getElem? fun j=>nB (by simp)];exact H X h1 fun b hb=>by rw [h2 b hb,kr,if_pos (hl b hb)]
theorem GY {J:List Nat} {h1 H:List ae} (hn:J.Nodup) (ai:∀ j∈J,j<h.length) (h2:(eo J h h1).length≤H.length) (h3:∀ b∈J++dj J h h1,H[b]? = kr h b):Seen J h h1 H :=
 ⟨hn,ai,by rwa [pI] at h2,fun j hj=>by rw [h3 j (List.mem_append_left _ hj),kr,if_pos (ai j hj)],fun j hj=>by rw [h3 j (List.mem_append_right _ hj),kr,if_neg (by have:=mJ.1 hj; omega)]⟩
theorem oL.of {J:List Nat} {h1:List ae} (hn:J.Nodup) (ai:∀ j∈J,j<h.length) (H:∀ H,Seen J h h1 H→iM E ops o s H v (eW (J++dj J h h1) (eo J h h1) H)):oL E ops o s h v (eo J h h1) (J++dj J h h1) (J++dj J h h1) where
 len:=by rw [pI]; omega
 old:=fun b hb hm=>BP hb (by
  cases hx:cM J b with
  |none=>rfl
  |some i=>exact absurd (List.mem_append_left _ (List.mem_of_getElem? (iI hx))) hm)
 new:=fun b h2 h3=>List.mem_append_right _ (mJ.2 ⟨h2,by rwa [pI] at h3⟩)
 sub:=fun _ h=>h
 lt:=fun b hb=>by
  rw [pI];rcases List.mem_append.1 hb with h | h
  ·have:=ai b h; omega
  ·exact (mJ.1 h).2
 act:=fun X h2 h3=>H X (GY hn ai h2 h3)
theorem oL.read {J:List Nat} (hn:J.Nodup) (ai:∀ j∈J,j<h.length) (hc:tZ J h=true) (H:∀ H,Seen J h (dG J h) H→iM E ops o s H v (eW (J++dj J h (dG J h)) (eo J h (dG J h)) H)):oL E ops o s h v h J []:=by
 have e:dj J h (dG J h)=[]:=by simp [dj,dG]
 refine .same ai fun X h1 h2=>?_;have:=H X (GY hn ai (by rw [GX hc]; exact h1) (fun b hb=>by rw [e,List.append_nil] at hb; rw [h2 b hb,kr,if_pos (ai b hb)]));rw [e,List.append_nil,GX hc] at this
 rwa [show eW J h X=X from List.ext_getElem? fun j=>by
  by_cases hj:j∈J
  ·rw [vW hj (by have:=ai j hj; omega) (List.getElem?_eq_getElem (ai j hj)),h2 j hj,List.getElem?_eq_getElem (ai j hj)]
  ·exact nB hj] at this
end
def mN:List Nat→List Nat→Bool
 | [],_=>false
 |a::l,m=>match rC a m with
  |true=>true
  |false=>mN l m
theorem y7:∀ {l m:List Nat},mN l m=true↔∃ b,b∈l∧b∈m
 | [],m=>by simp [mN]
 |a::l,m=>by
  simp only [mN];split
  ·rename_i q; simp [yJ.1 q]
  ·rename_i q;rw [y7];have:a ∉ m:=fun h=>by rw [yJ.2 h] at q; cases q
   simp [this]
abbrev fI:=List Nat × List Nat
def ua (a b:fI):Prop:=(∃ x,x∈a.2∧x∈b.1)∨∃ x,x∈b.2∧x∈a.1
def ku (j:Nat) (t w:List Nat):List (Nat × fI)→List (Nat × Nat)→List (Nat × Nat)
 | [],aS=>aS
 |(i,t',w')::r,aS=>match mN w' t with
  |true=>ku j t w r ((i,j)::aS)
  |false=>match mN w t' with
   |true=>ku j t w r ((i,j)::aS)
   |false=>ku j t w r aS
def dH (j:Nat) (t w:List Nat):List (Nat × fI)→List (Nat × Nat)→(List (Nat × Nat)→Prop)→Prop
 | [],aS,k=>k aS
 |(i,t',w')::r,aS,k=>match mN w' t with
  |true=>dH j t w r ((i,j)::aS) k
  |false=>match mN w t' with
   |true=>dH j t w r ((i,j)::aS) k
   |false=>dH j t w r aS k
theorem lb {j:Nat} {t w:List Nat}:∀ {acc:List (Nat × fI)} {aS:List (Nat × Nat)} {k:List (Nat × Nat)→Prop},dH j t w acc aS k=k (ku j t w acc aS)
 | [],_,_=>rfl
 |(i,t',w')::r,aS,k=>by
  simp only [dH,ku];split
  ·exact lb
  ·split <;> exact lb
theorem Cu {j:Nat} {t w:List Nat} {P:Nat→Nat→Prop}:∀ {acc:List (Nat × fI)} {aS:List (Nat × Nat)},(∀ p∈ku j t w acc aS,P p.1 p.2)→(∀ p∈aS,P p.1 p.2)∧∀ x∈acc,ua x.2 (t,w)→P x.1 j
 | [],aS,H=>⟨H,fun x hx=>by simp at hx⟩
 |(i,t',w')::r,aS,H=>by
  simp only [ku] at H;have yes:(∀ p∈ku j t w r ((i,j)::aS),P p.1 p.2)→(∀ p∈aS,P p.1 p.2)∧∀ x∈(i,t',w')::r,ua x.2 (t,w)→P x.1 j:=fun H=>by
   obtain ⟨h1,h2⟩:=Cu H;exact ⟨fun p hp=>h1 p (List.mem_cons_of_mem _ hp),fun x hx hc=>(List.mem_cons.1 hx).elim (fun e=>by subst e; exact h1 (i,j) (List.mem_cons_self ..)) fun h=>h2 x h hc⟩
  split at H
  ·exact yes H
  ·rename_i q1;split at H
   ·exact yes H
   ·rename_i q2;obtain ⟨h1,h2⟩:=Cu H;refine ⟨h1,fun x hx hc=>(List.mem_cons.1 hx).elim (fun e=>?_) fun h=>h2 x h hc⟩;subst e;rcases hc with hc | hc
    ·rw [y7.2 hc] at q1; cases q1
    ·rw [y7.2 hc] at q2; cases q2
def dk (j:Nat) (t w:List Nat) (acc:List (Nat × fI)):List (Nat × fI):=match t with
 | []=>acc
 |_::_=>(j,t,w)::acc
def fV (E:Env) (ops:Array Oper) (K:List AV→List ae→Prop):Nat→List Oper→List (Nat × fI)→List (Nat × Nat)→List AV→List ae→Prop
 |_,[],_,aS,s,h=>(∀ p∈aS,iL ops p.1 p.2)∧K s h
 |j,o::l,acc,aS,s,h=>∃ v h' t w,oL E ops o s h v h' t w∧fV E ops K (j+1) l (dk j t w acc) (ku j t w acc aS) (bX s o.dst v) h'
section
variable {E:Env} {ops:Array Oper}
theorem fV.lay {K:List AV→List ae→Prop}:∀ {l:List Oper} {j:Nat} {acc:List (Nat × fI)} {aS:List (Nat × Nat)} {s:List AV} {h:List ae},fV E ops K j l acc aS s h →
  ∃ (pl:List (Oper × AV)) (hp:Nat→List ae) (tw:Nat→fI),pl.map (·.1)=l∧hp 0=h∧K (cur pl (fun k=>decide (k<pl.length)) 0 s) (hp pl.length)∧(∀ p∈aS,iL ops p.1 p.2) ∧
   (∀ k o v,pl[k]? = some (o,v)→oL E ops o (cur pl (fun i=>decide (i<k)) 0 s) (hp k) v (hp (k+1)) (tw k).1 (tw k).2) ∧
   (∀ x∈acc,∀ k,k<pl.length→ua x.2 (tw k)→iL ops x.1 (j+k))∧(∀ i k,i<k→k<pl.length→ua (tw i) (tw k)→iL ops (j+i) (j+k))∧h.length≤(hp pl.length).length
 | [],j,acc,aS,s,h,H=>⟨[],fun _=>h,fun _=>([],[]),rfl,rfl,H.2,H.1,fun k o v hk=>by simp at hk,fun x _ k hk=>by simp at hk,fun i k _ hk=>by simp at hk,Nat.le_refl _⟩
 |o::l,j,acc,aS,s,h,H=>by
  obtain ⟨v,h',t,w,hf,H⟩:=H;obtain ⟨pl,hp,tw,k1,k2,k3,k4,k5,k6,k7,k9⟩:=fV.lay H;obtain ⟨k4,k8⟩:=Cu (P:=iL ops) k4;have shift:∀ (pl:List (Oper × AV)) (n:Nat) (s:List AV),cur pl (fun k=>decide (k<n+1)) (0+1) s=cur pl (fun k=>decide (k<n)) 0 s:=fun pl n s=>by
   rw [GN 1]
   congr 1
   funext k;simp
  have mono:∀ x∈acc,x∈dk j t w acc:=fun x hx=>by unfold dk; split; exact hx; exact List.mem_cons_of_mem _ hx
  refine ⟨(o,v)::pl,fun n=>match n with | 0=>h | n+1=>hp n,fun n=>match n with | 0=>(t,w) | n+1=>tw n,by simp [k1],rfl,?_,k4,fun k o' v' hk=>?_,fun x hx k hk hc=>?_,fun i k eI hk hc=>?_,Nat.le_trans hf.len k9⟩
  ·rw [cur];simp only [List.length_cons,Nat.zero_lt_succ,decide_true,if_true];rw [shift];exact k3
  ·cases k with
   |zero =>
    simp at hk;obtain ⟨rfl,rfl⟩:=hk;rw [wJ _ _ _ _ (fun k _=>decide_eq_false (by omega))];simp only [k2];exact hf
   |succ k =>
    have:=k5 k o' v' (by simpa using hk);rw [cur];simp only [Nat.zero_lt_succ,decide_true,if_true];rw [shift];exact this
  ·cases k with
   |zero=>exact k8 x hx hc
   |succ k=>have:=k6 x (mono x hx) k (by simpa using hk) hc; rwa [show j+1+k=j+(k+1) by omega] at this
  ·cases k with
   |zero=>omega
   |succ k =>
    have iG:k<pl.length:=by simpa using hk
    cases i with
    |zero =>
     refine (?_:iL ops j (j+(k+1)));have hm:(j,t,w)∈dk j t w acc:=by
      unfold dk;split
      ·rcases hc with ⟨x,hx,-⟩ | ⟨x,-,hx⟩
       ·exact absurd (hf.sub x hx) (by simp)
       ·exact absurd hx (by simp)
      ·exact List.mem_cons_self ..
     have:=k6 _ hm k iG hc
     rwa [show j+1+k=j+(k+1) by omega] at this
    |succ i=>have:=k7 i k (by omega) iG hc; rwa [show j+1+i=j+(i+1) by omega,show j+1+k=j+(k+1) by omega] at this
def gL (w:Nat→List Nat) (hp:Nat→List ae) (L:Nat→Bool) (H:List ae):Nat→List ae
 | 0=>H
 |n+1=>if L n then eW (w n) (hp (n+1)) (gL w hp L H n) else gL w hp L H n
variable {w:Nat→List Nat} {hp:Nat→List ae} {L L':Nat→Bool} {H:List ae}
theorem wN:∀ n,(gL w hp L H n).length=H.length
 | 0=>rfl
 |n+1=>by
  rw [gL];split
  ·rw [FW,wN n]
  ·exact wN n
theorem Cv {b:Nat}:∀ n,(∀ i,i<n→b∈w i→L i=L' i)→(gL w hp L H n)[b]? = (gL w hp L' H n)[b]?
 | 0,_=>rfl
 |n+1,h=>by
  have ih:=Cv n (fun i hi=>h i (by omega));rw [gL,gL];by_cases hb:b∈w n
  ·rw [h n (by omega) hb];split
   ·rw [oC,oC,ih]
   ·exact ih
  ·have e:∀ (q:Bool) (X:List ae),(if q then eW (w n) (hp (n+1)) X else X)[b]? = X[b]? := fun q X=>by
    cases q
    ·rfl
    ·exact nB hb
   rw [e,e];exact ih
theorem Cw {j:Nat} (h:∀ i,j≤i→L i=false):∀ n,j≤n→gL w hp L H n=gL w hp L H j
 | 0,hn=>by rw [show j=0 by omega]
 |n+1,hn=>by
  rcases Nat.lt_or_ge n j with hl | hl
  ·rw [show j=n+1 by omega]
  ·rw [gL,h n hl];exact Cw h n hl
theorem NW {a b:List Nat} {x y z:List ae} (h:∀ i∈a,i ∉ b):eW a x (eW b y z)=eW b y (eW a x z):=by
 refine List.ext_getElem? fun j=>?_;by_cases ha:j∈a
 ·rw [oC,nB (h j ha),nB (h j ha),oC]
 ·rw [nB ha,oC,oC,nB ha]
theorem GZ {j:Nat} (hj:L j=false) (dW:L' j=true) (ho:∀ i,i≠j→L' i=L i) (hc:∀ i,j<i→L i=true→∀ b∈w j,b ∉ w i):∀ n,j<n→eW (w j) (hp (j+1)) (gL w hp L H n)=gL w hp L' H n
 | 0,h=>by omega
 |n+1,h=>by
  rw [gL,gL];rcases Nat.lt_or_ge j n with hl | hl
  ·rw [ho n (by omega),← GZ hj dW ho hc n hl];split
   ·rename_i q; exact NW (hc n hl q)
   ·rfl
  ·obtain rfl:j=n:=by omega
   rw [hj,dW];simp only [Bool.false_eq_true,if_false,if_true]
   congr 1
   exact List.ext_getElem? fun b=>Cv j fun i hi _=>(ho i (by omega)).symm
theorem Cy {t:Nat→List Nat} {m:Nat} (h0:∀ b,b<H.length→H[b]? = kr (hp 0) b) (hlen:∀ k,k<m→(hp k).length≤(hp (k+1)).length∧(∀ b,b<(hp k).length→b ∉ w k→(hp (k+1))[b]? = (hp k)[b]?)∧(∀ b,(hp k).length≤b→b<(hp (k+1)).length→b∈w k)∧(∀ b∈w k,b∈t k)∧∀ b∈t k,b<(hp (k+1)).length) (hL:∀ i,i<m→L i=true) :
  ∀ n,n≤m→∀ b,b<H.length→(gL w hp L H n)[b]? = kr (hp n) b
 | 0,_,b,hb=>h0 b hb
 |n+1,hn,b,hb=>by
  have ih:=Cy h0 hlen hL n (by omega) b hb;obtain ⟨h1,h2,h3,h4,h5⟩:=hlen n (by omega);rw [gL,hL n (by omega),if_pos rfl];by_cases hm:b∈w n
  ·have hl:=h5 b (h4 b hm);rw [vW hm (by rw [wN]; exact hb) (List.getElem?_eq_getElem hl),kr,if_pos hl,List.getElem?_eq_getElem hl]
  ·rw [nB hm,ih];unfold kr;by_cases hl:b<(hp n).length
   ·rw [if_pos hl,if_pos (by omega),h2 b hl hm]
   ·rw [if_neg hl,if_neg (fun h=>hm (h3 b (by omega) h))]
theorem NX (hc:Cp ops) {s0:List AV} {pl:List (Oper × AV)} {hp:Nat→List ae} {tw:Nat→fI} (qQ:pl.map (·.1)=ops.toList)
  (hx:∀ k o v,pl[k]? = some (o,v)→oL E ops o (cur pl (fun i=>decide (i<k)) 0 s0) (hp k) v (hp (k+1)) (tw k).1 (tw k).2) (cH:∀ i k,i<k→k<pl.length→ua (tw i) (tw k)→iL ops i k)
  {H:List ae} (hH:H.length=(hp pl.length).length) (h0:∀ b,b<H.length→H[b]? = kr (hp 0) b)
  {Q:Exit→Act→World→Prop} {Kf:List AV→List ae→Prop} {c0:Cx} (jk:Kf (cur pl (fun k=>decide (k<pl.length)) 0 s0) (hp pl.length))
  (hQ:∀ (a:Act) (c:Cx) (s:List AV) (h:List ae),Kf s h→aK E.G c→c.heap=h→a.defers=[]→VS c s a.tmps→Step c0 c→Q .normal a c.w) :
  ∀ (f:Nat) (listed:Array Bool) (a:Act) (c:Cx),aK E.G c→c.heap=gL (fun k=>(tw k).2) hp (cG listed) H ops.size→a.defers=[]→VS c (cur pl (cG listed) 0 s0) a.tmps→Step c0 c→DC ops listed →
   (∀ i,ops.size≤i→cG listed i=false)→kZ (cG listed) ops.size≤f→wpAny E.P .any ops Q f listed a c.w:=by
 obtain ⟨hlen,rN⟩:=NI qQ;have G0:∀ k,k<ops.size→∃ o v,pl[k]? = some (o,v):=fun k hk=>⟨(pl[k]'(by omega)).1,(pl[k]'(by omega)).2,by rw [List.getElem?_eq_getElem]⟩;have l5:∀ k,k<ops.size→(hp k).length≤(hp (k+1)).length∧(∀ b,b<(hp k).length→b ∉ (tw k).2→(hp (k+1))[b]? = (hp k)[b]?)∧(∀ b,(hp k).length≤b→b<(hp (k+1)).length→b∈(tw k).2)∧(∀ b∈(tw k).2,b∈(tw k).1)∧∀ b∈(tw k).1,b<(hp (k+1)).length:=fun k hk=>by
  obtain ⟨o,v,h⟩:=G0 k hk;have:=hx k o v h;exact ⟨this.len,this.old,this.new,this.sub,this.lt⟩
 have NY:∀ n,n≤ops.size→∀ d,d≤n→(hp (n - d)).length≤(hp n).length:=by
  intro n hn d
  induction d with
  |zero=>intro _; exact Nat.le_refl _
  |succ d ih =>
   intro hd;have h1:=(l5 (n - (d+1)) (by omega)).1;rw [show n - (d+1)+1=n - d by omega] at h1;exact Nat.le_trans h1 (ih (by omega))
 have hle:∀ k,k≤ops.size→(hp k).length≤H.length:=fun k hk=>by
  have:=NY ops.size (Nat.le_refl _) (ops.size - k) (by omega);rw [show ops.size - (ops.size - k)=k by omega] at this;rw [hH,hlen];exact this
 have done:∀ (listed:Array Bool) (a:Act) (c:Cx),aK E.G c→c.heap=gL (fun k=>(tw k).2) hp (cG listed) H ops.size→a.defers=[]→VS c (cur pl (cG listed) 0 s0) a.tmps→Step c0 c→(∀ i,ops.size≤i→cG listed i=false)→(∀ i,i<ops.size→cG listed i=true)→Q .normal a c.w:=by
  intro listed a c h1 h2 h3 h4 h5 ho aH;have e:cur pl (cG listed) 0 s0=cur pl (fun k=>decide (k<pl.length)) 0 s0:=by
   congr 1
   funext i;rcases Nat.lt_or_ge i ops.size with h | h
   ·rw [aH i h]; simp [hlen,h]
   ·rw [ho i h]; simp [hlen]; omega
  rw [e] at h4;refine hQ a c _ _ jk h1 (h2.trans ?_) h3 h4 h5;refine List.ext_getElem? fun b=>?_;rcases Nat.lt_or_ge b H.length with hb | hb
  ·rw [Cy h0 l5 aH ops.size (Nat.le_refl _) b hb,hlen,kr,if_pos (by rw [← hlen,← hH]; exact hb)]
  ·rw [List.getElem?_eq_none (by rw [wN]; exact hb),List.getElem?_eq_none (by omega)]
 intro f
 induction f with
 |zero =>
  intro listed a c h1 h2 h3 h4 h5 hd ho y8;have aH:∀ i,i<ops.size→cG listed i=true:=fun i hi=>NJ y8 hi;refine ⟨?_,done listed a c h1 h2 h3 h4 h5 ho aH⟩;apply List.eq_nil_iff_forall_not_mem.2;intro i hi;obtain ⟨k1,k2⟩:=Cq hd hi;rw [aH i k2] at k1;cases k1
 |succ f ih =>
  intro listed a c h1 h2 h3 h4 h5 hd ho y8;refine ⟨fun hr=>?_,fun i hi=>?_⟩
  ·refine done listed a c h1 h2 h3 h4 h5 ho (fun i hi=>?_);cases hl:cG listed i with
   |true=>rfl
   |false =>
    obtain ⟨k,-,hk⟩:=ND hc hd hi hl;rw [hr] at hk;cases hk
  obtain ⟨pW,gJ⟩:=Cq hd hi;obtain ⟨o,v,rO⟩:=G0 i gJ;have ot:=rN i o v rO;obtain ⟨NZ,N0⟩:=NG hc.pair rN hd hi rO h4;have iN:=fun q=>GQ (i:=q) (show i<listed.size by rw [hd.1]; exact gJ);have N1:kZ (cG (listed.setIfInBounds i true)) ops.size≤f:=by
   have:=(GR (L:=cG listed) (L':=cG (listed.setIfInBounds i true)) (j:=i) (fun q hq=>by rw [iN]; simp [hq]) pW (by rw [iN]; simp) ops.size).1 gJ;omega
  have hF:=hx i o v rO;have later:∀ k,i<k→cG listed k=true→¬ ua (tw i) (tw k):=fun k hk hl la=>by
   have yz:k<ops.size:=Nat.lt_of_not_le fun h=>by rw [ho k h] at hl; cases hl
   rw [hd.dep (cH i k hk (by omega) la) hl] at pW;cases pW
  have agree:∀ b∈(tw i).1,(c.heap)[b]? = kr (hp i) b:=fun b hb=>by
   have er:b<H.length:=Nat.lt_of_lt_of_le (hF.lt b hb) (hle (i+1) gJ);rw [h2,← Cy (L:=fun k=>decide (k<i)) h0 (fun k hk=>l5 k (by omega)) (fun k hk=>by simp [hk]) i (Nat.le_refl i) b er,← Cw (L:=fun k=>decide (k<i)) (fun k hk=>by simp; omega) ops.size (Nat.le_of_lt gJ)];refine Cv _ fun k hk hw=>?_;rcases Nat.lt_trichotomy k i with ai | rfl | rj
   ·rw [hd.ready hi (cH k i ai (by omega) (.inl ⟨b,hw,hb⟩))]; simp [ai]
   ·rw [pW]; simp
   ·have:cG listed k=false:=by
     cases hl:cG listed k with
     |false=>rfl
     |true=>exact absurd (.inr ⟨b,hw,hb⟩) (later k rj hl)
    rw [this]; simp; omega
  refine hF.act c.heap (by rw [h2,wN]; exact hle (i+1) gJ) agree c a h1 rfl h3 N0 i ot _ _ (fun c' u k1 k2 k3 k4=>?_);refine ih _ _ c' k1 ?_ (by rw [pY]; exact h3) (NZ c' u (fun _ _=>k3.vr) k4) (h5.trans k3) (hd.set hi) (fun q hq=>by rw [iN,ho q hq]; simp; omega) N1;rw [k2,h2];exact GZ (w:=fun k=>(tw k).2) pW (by rw [iN]; simp) (fun q hq=>by rw [iN]; simp [hq]) (fun k hk hl b hb b8=>later k hk hl (.inr ⟨b,b8,hF.sub b hb⟩)) ops.size gJ
end
@[irreducible] def bG (E : Env) (ag : FuncId) (R : cx) (ops : Array Oper) (k : List aP) (Nl : List Nat) (j : Nat) (eJ : List Oper) (acc : List (Nat × fI)) (aS : List (Nat × Nat)) (s : List AV) (h : List ae) : Prop :=
 fV E ops (fun s2 h2=>I E ag R [] k s2 h2) j eJ acc aS s h
@[irreducible] def ub (E : Env) (f : FuncId) (h0 : List ae) (args : List AV) (K1 : AV → List ae → Prop) (K2 : AV → Prop) : Prop :=
 (∃ r h1,aw E f h0 args (fun a b=>a=r∧b=h1)∧K1 r h1)∨∃ r,aw E f h0 args (fun a b=>a=r∧b=h0)∧K2 r
theorem Cz {E:Env} {f:FuncId} {h0:List ae} {args:List AV} {K1:AV→List ae→Prop} {K2:AV→Prop} {r:AV} {h1:List ae} (H:aw E f h0 args (fun a b=>a=r∧b=h1)) (hk:K1 r h1):ub E f h0 args K1 K2:=by unfold ub; exact .inl ⟨r,h1,H,hk⟩
theorem iO {E:Env} {f:FuncId} {h0:List ae} {args:List AV} {K1:AV→List ae→Prop} {K2:AV→Prop} {r:AV} (H:aw E f h0 args (fun a b=>a=r∧b=h0)) (hk:K2 r):ub E f h0 args K1 K2:=by unfold ub; exact .inr ⟨r,H,hk⟩
def y9:Nat→Nat→(List Nat→Prop)→Prop
 |_,0,k=>k []
 |n,m+1,k=>y9 (n+1) m fun l=>k (n::l)
theorem G1:∀ {m n:Nat} {k:List Nat→Prop},y9 n m k=k (List.range' n m)
 | 0,_,_=>rfl
 |m+1,n,k=>by rw [y9,G1]; rfl
def iP (J:List Nat) (h h':List ae) (k:List Nat→Prop):Prop:=mL h 0 fun n=>mL h' 0 fun m=>y9 n (m - n) fun l=>pN J l k
theorem rP {J:List Nat} {h h1:List ae} {k:List Nat→Prop}:iP J h (eo J h h1) k=k (J++dj J h h1):=by
 simp only [iP,rA,Nat.zero_add,G1,tF,dj,pI,Nat.add_sub_cancel_left]
def wO (E:Env) (f:FuncId) (fU:List AV) (h:List ae) (stop:Prop) (k1:List Nat→AV→List ae→Prop) (k2:List Nat→AV→Prop):Prop :=
 oF h fU [] fun wj=>pR h 20 0 wj fun J=>mL h 0 fun n=>match tI n J with
  |true=>wg J h fun h0=>ik (we J h) fU fun B7=>ub E f h0 B7 (fun r h1=>eH J h r fun v=>il J h h1 fun h'=>iP J h h' fun ws=>k1 ws v h') fun r=>tZ J h=true∧eH J h r fun v=>k2 J v
  |false=>stop
theorem N2 {E:Env} {f:FuncId} {fU:List AV} {h:List ae} {stop:Prop} {k1:List Nat→AV→List ae→Prop} {k2:List Nat→AV→Prop} (H:wO E f fU h stop k1 k2):stop∨∃ (J:List Nat),J.Nodup∧(∀ j∈J,j<h.length) ∧
  ((∃ r h1,aw E f (dG J h) (fU.map (eU J h)) (fun a b=>a=r∧b=h1)∧k1 (J++dj J h h1) (gI J h r) (eo J h h1))∨∃ r,aw E f (dG J h) (fU.map (eU J h)) (fun a b=>a=r∧b=dG J h)∧tZ J h=true∧k2 J (gI J h r)):=by
 unfold wO at H;obtain ⟨s0,H⟩:=rE H;obtain ⟨J,H⟩:=tK H;rw [rA,Nat.zero_add] at H;split at H
 ·rename_i q;obtain ⟨h1,h2⟩:=yK q;rw [B5,nD (B2 J h)] at H;unfold ub at H;refine .inr ⟨J,h1,h2,?_⟩;rcases H with ⟨r,hp,h3,h4⟩ | ⟨r,h3,h4,h5⟩
  ·rw [kV,oE,rP] at h4;exact .inl ⟨r,hp,h3,h4⟩
  ·rw [kV] at h5;exact .inr ⟨r,h3,h4,h5⟩
 ·exact .inl H
def wP (s:List AV) (h:List ae):List Nat→List Nat→(List Nat→Prop)→Prop
 | [],J,k=>k J
 |d::l,J,k=>aO s d (wP s h l J k) fun x=>oF h [x] J fun kW=>wP s h l kW k
theorem CA {s:List AV} {h:List ae}:∀ {l:List Nat} {J:List Nat} {k:List Nat→Prop},wP s h l J k→∃ l,k l
 | [],_,_,H=>⟨_,H⟩
 |_::_,_,_,H=>by
  simp only [wP] at H;rcases a8 H with H | ⟨x,-,H⟩
  ·exact CA H
  ·obtain ⟨_,H⟩:=rE (l:=[x]) H;exact CA H
def wQ (J:List Nat) (h:List ae) (keep:List Nat):Nat→List AV→(List AV→Prop)→Prop
 |_,[],k=>k []
 |i,x::s,k=>match iJ i keep with
  |true=>we J h x fun y=>wQ J h keep (i+1) s fun s'=>k (y::s')
  |false=>wQ J h keep (i+1) s fun s'=>k (.any::s')
theorem CB {J:List Nat} {h:List ae} {keep:List Nat}:∀ {i:Nat} {s:List AV} {k:List AV→Prop},wQ J h keep i s k=k ((dz keep i s).map (eU J h))
 |_,[],_=>rfl
 |i,x::s,k=>by
  simp only [wQ,dz,List.map_cons];split
  ·rw [B2,CB]
  ·rw [CB]; rfl
def wR (ops:Array Oper) (o:Oper) (s:List AV) (h:List ae) (stop:Prop) (k:List Nat→List AV→List ae→Prop):Prop :=
 wP s h (eA ops o) [] fun wj=>pR h 20 0 wj fun J=>mL h 0 fun n=>match tI n J with
  |true=>wQ J h (eA ops o) 0 s fun sC=>wg J h fun hC=>k J sC hC
  |false=>stop
theorem G2 {ops:Array Oper} {o:Oper} {s:List AV} {h:List ae} {stop:Prop} {k:List Nat→List AV→List ae→Prop} (H:wR ops o s h stop k):stop∨∃ J,J.Nodup∧(∀ j∈J,j<h.length)∧k J ((dz (eA ops o) 0 s).map (eU J h)) (dG J h):=by
 unfold wR at H;obtain ⟨s0,H⟩:=CA H;obtain ⟨J,H⟩:=tK H;rw [rA,Nat.zero_add] at H;split at H
 ·rename_i q;obtain ⟨h1,h2⟩:=yK q;rw [CB,B5] at H;exact .inr ⟨J,h1,h2,H⟩
 ·exact .inl H
def G3:Op→Bool
 | .call { callee := .value _,.. }=>true
 |_=>false
section
variable (E:Env) (ag:FuncId) (R:cx) (ops:Array Oper) (k:List aP)
def iQ:Nat→List Nat→Nat→List Oper→List (Nat × fI)→List (Nat × Nat)→List AV→List ae→Prop
 | 0,lits,j,eJ,acc,aS,s,h=>bG E ag R ops k lits j eJ acc aS s h
 |m+1,lits,j,eJ,acc,aS,s,h =>
  match eJ with
  | []=>match aS with
   | []=>I E ag R [] k s h
   |_::_=>GL ops aS=true∧I E ag R [] k s h
  |o::l =>
   let stop:Prop:=bG E ag R ops k lits j eJ acc aS s h
   let skip:Prop:=cb s o.dst (.d .undef) fun s'=>iQ m lits (j+1) l acc aS s' h
   let go:Prop:=match G3 o.op with
    |true=>tW (eA ops o) 0 s fun so=>wo E.G so o stop fun f fU=>oc fU
     (wO E f fU h stop (fun ws v h'=>dH j ws ws acc aS fun cg=>cb s o.dst v fun s'=>bG E ag R ops k lits (j+1) l (dk j ws ws acc) cg s' h') fun J v=>dH j J [] acc aS fun cg=>cb s o.dst v fun s'=>bG E ag R ops k lits (j+1) l (dk j J [] acc) cg s' h)
     fun ds=>pX E f ds h (fun v=>cb s o.dst (.d v) fun s'=>bG E ag R ops k lits (j+1) l acc aS s' h) fun v h'=>iP [] h h' fun ws=>dH j ws ws acc aS fun cg=>cb s o.dst v fun s'=>bG E ag R ops k lits (j+1) l (dk j ws ws acc) cg s' h'
    |false=>wR ops o s h stop fun J sC hC=>match oK o.op with
     |true=>match tZ J h with
      |true=>kf E.T E.G o.op sC hC (vM E o.op sC (nz E o.op sC hC (vN E o.op sC hC stop fun x h1=>eH J h x fun v=>il J h h1 fun h'=>iP J h h' fun ws=>dH j ws ws acc aS fun cg=>cb s o.dst v fun s'=>bG E ag R ops k lits (j+1) l (dk j ws ws acc) cg s' h') fun x _=>eH J h x fun v=>dH j J [] acc aS fun cg=>cb s o.dst v fun s'=>bG E ag R ops k lits (j+1) l (dk j J [] acc) cg s' h)
       fun x=>eH J h x fun v=>dH j J [] acc aS fun cg=>cb s o.dst v fun s'=>iQ m lits (j+1) l (dk j J [] acc) cg s' h)
       fun x _=>eH J h x fun v=>dH j J [] acc aS fun cg=>cb s o.dst v fun s'=>iQ m lits (j+1) l (dk j J [] acc) cg s' h
      |false=>stop
     |false=>kf E.T E.G o.op sC hC (vO E o.op sC hC (nz E o.op sC hC stop fun x h1=>eH J h x fun v=>il J h h1 fun h'=>iP J h h' fun ws=>dH j ws ws acc aS fun cg=>cb s o.dst v fun s'=>bG E ag R ops k lits (j+1) l (dk j ws ws acc) cg s' h')
      fun x h1=>eH J h x fun v=>il J h h1 fun h'=>iP J h h' fun ws=>dH j ws ws acc aS fun cg=>cb s o.dst v fun s'=>iQ m lits (j+1) l (dk j ws ws acc) cg s' h')
      fun x h1=>eH J h x fun v=>il J h h1 fun h'=>iP J h h' fun ws=>dH j ws ws acc aS fun cg=>cb s o.dst v fun s'=>iQ m lits (j+1) l (dk j ws ws acc) cg s' h'
   yO ops o.guard go stop fun d b=>aO s d stop fun
    | .d (.bool t)=>match iJ d lits with
     |false=>kX t (fk s d (.d (.bool true)) fun s'=>bG E ag R ops k (d::lits) j eJ acc aS s' h) (fk s d (.d (.bool false)) fun s'=>bG E ag R ops k (d::lits) j eJ acc aS s' h)
     |true=>match Gk t b with
      |true=>go
      |false=>skip
    | .d .undef=>skip
    |_=>stop
end
section
variable {E:Env} {ag:FuncId} {R:cx} {ops:Array Oper} {k:List aP} {lits:List Nat} {j:Nat} {eJ:List Oper} {acc:List (Nat × fI)} {aS:List (Nat × Nat)} {s:List AV} {h:List ae}
theorem bG.is (H:bG E ag R ops k lits j eJ acc aS s h):bG E ag R ops k lits j eJ acc aS s h:=H
theorem bG.to (H:bG E ag R ops k lits j eJ acc aS s h):fV E ops (fun s2 h2=>I E ag R [] k s2 h2) j eJ acc aS s h:=by unfold bG at H; exact H
theorem G4:∀ {acc:List (Nat × fI)} {aS:List (Nat × Nat)},ku j [] [] acc aS=aS
 | [],_=>rfl
 |(i,t',w')::r,aS=>by
  have h1:mN w' []=false:=by
   cases q:mN w' [] with
   |false=>rfl
   |true=>obtain ⟨b,-,hb⟩:=y7.1 q; simp at hb
  simp only [ku,h1,mN];exact G4
theorem G5 {keep:List Nat}:∀ {i d:Nat} {s:List AV},i+d∈keep→(dz keep i s)[d]? = s[d]?
 |_,_,[],_=>rfl
 |i,0,x::s,h=>by
  rw [Nat.add_zero] at h;simp only [dz,wI.2 h,List.getElem?_cons_zero]
 |i,d+1,x::s,h=>by
  simp only [dz,List.getElem?_cons_succ];exact G5 (by rwa [show i+1+d=i+(d+1) by omega])
variable {o:Oper} {l:List Oper} {K:List AV→List ae→Prop}
theorem CC {v:AV} (hf:∀ H,iM E ops o s H v H) (H:fV E ops K (j+1) l acc aS (bX s o.dst v) h):fV E ops K j (o::l) acc aS s h :=
 ⟨v,h,[],[],.same (fun b hb=>by simp at hb) fun X _ _=>hf X,by rw [G4]; exact H⟩
theorem iM.any {v:AV} {H:List ae} (hw:iB ops o (dz (eA ops o) 0 s) true) (ho:bC E o.op (dz (eA ops o) 0 s) H v H):iM E ops o s H v H:=fun c a h1 h2 _ h4 j hj K Q hK=>by
 obtain ⟨c',u,k1,k2,k3,k4,k5⟩:=ho o c a rfl h2 h1 h4;unfold wpOp;simp only [hj,hw c a.tmps h4,if_true];left;have:=hK c' u k3 k2 k5 k4;unfold Oper.wp;rcases k1 with k1 | ⟨k1,rfl⟩
 ·rw [k1]; exact this
 ·rw [k1]; exact this
theorem G6 (hE:E.OK):∀ (m:Nat) (lits:List Nat) (j:Nat) (eJ:List Oper) (acc:List (Nat × fI)) (aS:List (Nat × Nat)) (s:List AV) (h:List ae),
  iQ E ag R ops k m lits j eJ acc aS s h→fV E ops (fun s2 h2=>I E ag R [] k s2 h2) j eJ acc aS s h:=by
 intro m
 induction m with
 |zero=>intro lits j eJ acc aS s h H; exact bG.to H
 |succ m ih =>
  intro lits j eJ acc aS s h H;unfold iQ at H;split at H
  ·split at H
   ·exact ⟨fun p hp=>by simp at hp,H⟩
   ·exact ⟨NA H.1,H.2⟩
  rename_i o l;dsimp only at H;have skip:iB ops o (dz (eA ops o) 0 s) false→(cb s o.dst (.d .undef) fun s'=>iQ E ag R ops k m lits (j+1) l acc aS s' h)→fV E ops (fun s2 h2=>I E ag R [] k s2 h2) j (o::l) acc aS s h:=fun hw H=>by
   rw [dN] at H;exact CC (fun X=>iM.skip hw) (ih _ _ _ _ _ _ _ H)
  generalize rz:(match G3 o.op with
    |true=>tW (eA ops o) 0 s fun so=>wo E.G so o (bG E ag R ops k lits j (o::l) acc aS s h) fun f fU=>oc fU
     (wO E f fU h (bG E ag R ops k lits j (o::l) acc aS s h) (fun ws v h'=>dH j ws ws acc aS fun cg=>cb s o.dst v fun s'=>bG E ag R ops k lits (j+1) l (dk j ws ws acc) cg s' h') fun J v=>dH j J [] acc aS fun cg=>cb s o.dst v fun s'=>bG E ag R ops k lits (j+1) l (dk j J [] acc) cg s' h)
     fun ds=>pX E f ds h (fun v=>cb s o.dst (.d v) fun s'=>bG E ag R ops k lits (j+1) l acc aS s' h) fun v h'=>iP [] h h' fun ws=>dH j ws ws acc aS fun cg=>cb s o.dst v fun s'=>bG E ag R ops k lits (j+1) l (dk j ws ws acc) cg s' h'
    |false=>wR ops o s h (bG E ag R ops k lits j (o::l) acc aS s h) fun J sC hC=>match oK o.op with
     |true=>match tZ J h with
      |true=>kf E.T E.G o.op sC hC (vM E o.op sC (nz E o.op sC hC (vN E o.op sC hC (bG E ag R ops k lits j (o::l) acc aS s h) fun x h1=>eH J h x fun v=>il J h h1 fun h'=>iP J h h' fun ws=>dH j ws ws acc aS fun cg=>cb s o.dst v fun s'=>bG E ag R ops k lits (j+1) l (dk j ws ws acc) cg s' h') fun x _=>eH J h x fun v=>dH j J [] acc aS fun cg=>cb s o.dst v fun s'=>bG E ag R ops k lits (j+1) l (dk j J [] acc) cg s' h)
       fun x=>eH J h x fun v=>dH j J [] acc aS fun cg=>cb s o.dst v fun s'=>iQ E ag R ops k m lits (j+1) l (dk j J [] acc) cg s' h)
       fun x _=>eH J h x fun v=>dH j J [] acc aS fun cg=>cb s o.dst v fun s'=>iQ E ag R ops k m lits (j+1) l (dk j J [] acc) cg s' h
      |false=>bG E ag R ops k lits j (o::l) acc aS s h
     |false=>kf E.T E.G o.op sC hC (vO E o.op sC hC (nz E o.op sC hC (bG E ag R ops k lits j (o::l) acc aS s h) fun x h1=>eH J h x fun v=>il J h h1 fun h'=>iP J h h' fun ws=>dH j ws ws acc aS fun cg=>cb s o.dst v fun s'=>bG E ag R ops k lits (j+1) l (dk j ws ws acc) cg s' h')
      fun x h1=>eH J h x fun v=>il J h h1 fun h'=>iP J h h' fun ws=>dH j ws ws acc aS fun cg=>cb s o.dst v fun s'=>iQ E ag R ops k m lits (j+1) l (dk j ws ws acc) cg s' h')
      fun x h1=>eH J h x fun v=>il J h h1 fun h'=>iP J h h' fun ws=>dH j ws ws acc aS fun cg=>cb s o.dst v fun s'=>iQ E ag R ops k m lits (j+1) l (dk j ws ws acc) cg s' h')=N3 at H
  have go:iB ops o (dz (eA ops o) 0 s) true→N3→fV E ops (fun s2 h2=>I E ag R [] k s2 h2) j (o::l) acc aS s h:=by
   subst rz;intro hw H;split at H
   ·rw [GW] at H;rcases Gj H with H | ⟨fx,args,ts,f,a1,av,a2,b9,hv,lZ,H⟩
    ·exact bG.to H
    rcases ve (a1++av++a2) (wO E f (a1++av++a2) h (bG E ag R ops k lits j (o::l) acc aS s h) (fun ws v h'=>dH j ws ws acc aS fun cg=>cb s o.dst v fun s'=>bG E ag R ops k lits (j+1) l (dk j ws ws acc) cg s' h') fun J v=>dH j J [] acc aS fun cg=>cb s o.dst v fun s'=>bG E ag R ops k lits (j+1) l (dk j J [] acc) cg s' h)
     (fun ds=>pX E f ds h (fun v=>cb s o.dst (.d v) fun s'=>bG E ag R ops k lits (j+1) l acc aS s' h) fun v h'=>iP [] h h' fun ws=>dH j ws ws acc aS fun cg=>cb s o.dst v fun s'=>bG E ag R ops k lits (j+1) l (dk j ws ws acc) cg s' h') with ⟨ds,e1,e2⟩ | e2
    ·rw [e2] at H;unfold pX at H;rcases H with ⟨r,hc,hk⟩ | ⟨r,h1,hc,hk⟩
     ·rw [dN] at hk;exact CC (fun X=>iM.call hw b9 hv lZ e1 hc) hk.to
     ·rw [rP,lb,dN] at hk;have e3:(a1++av++a2).map (eU [] h)=ds.map .d:=by rw [e1,List.map_map]; rfl
      exact ⟨_,_,_,_,.of List.nodup_nil (fun j hj=>by simp at hj) fun X hs => .Cs hw b9 hv lZ (by rw [e3]; exact hc) hs,hk.to⟩
    ·rw [e2] at H;rcases N2 H with H | ⟨J,hn,ai,⟨r,h1,hc,hk⟩ | ⟨r,hc,cH,hk⟩⟩
     ·exact bG.to H
     ·rw [lb,dN] at hk;exact ⟨_,_,_,_,.of hn ai fun X hs => .Cs hw b9 hv lZ hc hs,hk.to⟩
     ·rw [lb,dN] at hk;exact ⟨_,_,_,_,.read hn ai cH fun X hs => .Cs hw b9 hv lZ hc hs,hk.to⟩
   ·rcases G2 H with H | ⟨J,hn,ai,H⟩
    ·exact bG.to H
    have zb:∀ x h1,bC E o.op ((dz (eA ops o) 0 s).map (eU J h)) (dG J h) x h1→fV E ops (fun s2 h2=>I E ag R [] k s2 h2) (j+1) l (dk j (J++dj J h h1) (J++dj J h h1) acc) (ku j (J++dj J h h1) (J++dj J h h1) acc aS) (bX s o.dst (gI J h x)) (eo J h h1)→fV E ops (fun s2 h2=>I E ag R [] k s2 h2) j (o::l) acc aS s h :=
      fun x h1 ho H=>⟨_,_,_,_,.of hn ai fun X hs => .wL hw ho hs,H⟩
    split at H
    ·rename_i aX;split at H
     ·rename_i cH;have fin:∀ x,bC E o.op ((dz (eA ops o) 0 s).map (eU J h)) (dG J h) x (dG J h)→fV E ops (fun s2 h2=>I E ag R [] k s2 h2) (j+1) l (dk j J [] acc) (ku j J [] acc aS) (bX s o.dst (gI J h x)) h→fV E ops (fun s2 h2=>I E ag R [] k s2 h2) j (o::l) acc aS s h :=
       fun x ho H=>⟨_,_,_,_,.read hn ai cH fun X hs => .wL hw ho hs,H⟩
      rcases A' hE (NM (K:=fun x=>eH J h x fun v=>dH j J [] acc aS fun cg=>cb s o.dst v fun s'=>iQ E ag R ops k m lits (j+1) l (dk j J [] acc) cg s' h) aX H) with H | ⟨x,h',⟨rfl,H⟩,ho⟩
      ·rcases FI hE H with H | ⟨x,H,ho⟩
       case inr =>
        rw [kV,lb,dN] at H;exact fin x (ho _) (ih _ _ _ _ _ _ _ H)
       rcases BM hE (NP (K:=fun x=>eH J h x fun v=>dH j J [] acc aS fun cg=>cb s o.dst v fun s'=>bG E ag R ops k lits (j+1) l (dk j J [] acc) cg s' h) aX H) with H | ⟨x,h',⟨rfl,H⟩,ho⟩
       ·rcases FJ hE H with H | ⟨x,h1,H,ho⟩
        ·exact bG.to H
        ·rw [kV,oE,rP,lb,dN] at H;exact zb x h1 ho H.to
       ·rw [kV,lb,dN] at H;exact fin x ho H.to
      ·rw [kV,lb,dN] at H;exact fin x ho (ih _ _ _ _ _ _ _ H)
     ·exact bG.to H
    ·rcases A' hE H with H | ⟨x,h1,H,ho⟩
     ·rcases FK hE H with H | ⟨x,h1,H,ho⟩
      case inr =>
       rw [kV,oE,rP,lb,dN] at H;exact zb x h1 ho (ih _ _ _ _ _ _ _ H)
      rcases BM hE H with H | ⟨x,h1,H,ho⟩
      ·exact bG.to H
      ·rw [kV,oE,rP,lb,dN] at H;exact zb x h1 ho H.to
     ·rw [kV,oE,rP,lb,dN] at H;exact zb x h1 ho (ih _ _ _ _ _ _ _ H)
  unfold yO at H;split at H
  ·rename_i hg;exact go (fR hg) H
  ·rename_i jj b hg;rcases a8 H with H | ⟨oj,tL,H⟩
   ·exact bG.to H
   split at H
   ·rename_i d hd;rcases a8 H with H | ⟨x,hx,H⟩
    ·exact bG.to H
    have hm:(dz (eA ops o) 0 s)[d]? = some x:=by
     rw [G5,hx];rw [Nat.zero_add];refine List.mem_append_right _ ?_;have:ops[jj]? = some oj:=by simpa using tL
     simp [GJ,hg,this,hd]
    split at H
    ·rename_i t;split at H
     ·refine B8 H (fun e H2=>?_) (fun e H2=>?_)
      ·subst e;rw [fQ,wv hx] at H2;exact bG.to H2
      ·subst e;rw [fQ,wv hx] at H2;exact bG.to H2
     ·have hw:=Be hg tL hd hm;split at H
      ·rename_i q;have:(t==b)=true:=by cases t <;> cases b <;> first | rfl | cases q
       rw [this] at hw;exact go hw H
      ·rename_i q;have:(t==b)=false:=by cases t <;> cases b <;> first | rfl | cases q
       rw [this] at hw;exact skip hw H
    ·exact skip (Fa hg tL hd hm) H
    ·exact bG.to H
   ·exact bG.to H
theorem bG.run (hE:E.OK) (m:Nat) (H:iQ E ag R ops k m lits j eJ acc aS s h):bG E ag R ops k lits j eJ acc aS s h:=by unfold bG; exact G6 hE m lits j eJ acc aS s h H
@[irreducible] def jP (E : Env) (ag : FuncId) (R : cx) (ops : Array Oper) (k : List aP) (lits : List Nat) (j : Nat) (o : Oper) (l : List Oper) (acc : List (Nat × fI)) (aS : List (Nat × Nat)) (s : List AV) (h : List ae) (J : List Nat) (sC : List AV) (hC : List ae) : Prop :=
 ∃ x h1,bC E o.op sC hC x h1∧fV E ops (fun s2 h2=>I E ag R [] k s2 h2) (j+1) l (dk j (J++dj J h h1) (J++dj J h h1) acc) (ku j (J++dj J h h1) (J++dj J h h1) acc aS) (bX s o.dst (gI J h x)) (eo J h h1)
theorem bG.at (hg:o.guard=none) (H:wR ops o s h False fun J sC hC=>jP E ag R ops k lits j o l acc aS s h J sC hC):bG E ag R ops k lits j (o::l) acc aS s h:=by
 unfold bG;rcases G2 H with H | ⟨J,hn,ai,H⟩
 ·exact H.elim
 unfold jP at H;obtain ⟨x,h1,ho,H⟩:=H;exact ⟨_,_,_,_,.of hn ai fun X hs => .wL (fR hg) ho hs,H⟩
theorem jP.op {J:List Nat} {sC:List AV} {hC h1:List ae} {x:AV} (ho:bC E o.op sC hC x h1) (H:eH J h x fun v=>il J h h1 fun h'=>iP J h h' fun ws=>dH j ws ws acc aS fun cg=>cb s o.dst v fun s'=>bG E ag R ops k lits (j+1) l (dk j ws ws acc) cg s' h'):jP E ag R ops k lits j o l acc aS s h J sC hC:=by
 unfold jP;rw [kV,oE,rP,lb,dN] at H;exact ⟨x,h1,ho,H.to⟩
theorem bG.pure {v:AV} (hg:o.guard=none) (ho:∀ H,bC E o.op (dz (eA ops o) 0 s) H v H) (H:cb s o.dst v fun s'=>bG E ag R ops k lits (j+1) l acc aS s' h):bG E ag R ops k lits j (o::l) acc aS s h:=by
 rw [dN] at H;unfold bG;exact CC (fun X => .any (fR hg) (ho X)) H.to
theorem fV.conv {K K':List AV→List ae→Prop} (hk:∀ s h,K s h→K' s h):∀ {l:List Oper} {j:Nat} {acc:List (Nat × fI)} {aS:List (Nat × Nat)} {s:List AV} {h:List ae},fV E ops K j l acc aS s h→fV E ops K' j l acc aS s h
 | [],_,_,_,_,_,H=>⟨H.1,hk _ _ H.2⟩
 |_::_,_,_,_,_,_,H=>by
  obtain ⟨v,h',t,w,hf,H⟩:=H;exact ⟨v,h',t,w,hf,H.conv hk⟩
theorem I.bH (hE:E.OK) (hm:E.P.follows .mixedOrders=true) (m:Nat) {id:Nat} (N4:GK ops=true) (H:iQ E ag R ops k m [] 0 ops.toList [] [] s h):I E ag R lits (.code (.region id ops true)::k) s h:=by
 obtain ⟨pl,hp,tw,p1,p2,p3,-,p5,-,p7,p8⟩:=fV.lay (fV.conv (fun s2 h2=>I.to) (G6 hE m _ _ _ _ _ _ _ H));refine .of (AW.NS hm fun c t Q hQ h1 h2 h4=>?_);subst h2;have hn:(c.pad ((hp pl.length).length - c.heap.length)).heap.length=(hp pl.length).length:=by
  show (c.heap++_).length=_;rw [List.length_append,List.length_replicate];omega
 refine NX (Nz N4) p1 p5 (fun i k h1 h2 h3=>by simpa using p7 i k h1 h2 h3) hn (fun b hb=>?_) p3 hQ ops.size _ ⟨t,[]⟩ (c.pad ((hp pl.length).length - c.heap.length)) (h1.pad _) (Cw (j:=0) (fun i _=>y5 _ i) ops.size (Nat.zero_le _)).symm rfl ?_ (yE h1 _) ⟨by simp,fun j o e _ hl=>by rw [y5] at hl; cases hl⟩ (fun i _=>y5 _ i) (NK _ _)
 ·rw [p2];unfold kr;split
  ·rename_i hl; rw [yD (List.getElem?_eq_getElem hl),List.getElem?_eq_getElem hl]
  ·exact BZ (by omega) (by rw [hn] at hb; omega)
 ·rw [wJ _ 0 s _ (fun i _=>y5 _ _)];exact (yE h1 _).vs h4
end
end Go.ax
end
section
namespace Go.ax
open Go Go.RowKit
section
variable {E:Env} {s:List AV} {h:List ae} {c:Cx} {G:List (Nat × DV)}
theorem G7 (hE:E.OK) {t e len:Nat} {i ei:bk} (hi:E.T[t]? = some i) (bP:E.T[e]? = some ei) (hk:i.k = .slice e) {parts:Array (Nat × Operand)} {ps:List (Nat × AV)} (fG:vp E.G s parts.toList ps)
  (hz:ei.zero.length=ei.size) (cA:0<ei.size) (hlen:0<len) (yk:len*ei.size≤16777216) {z:DV} (qO:z.cells=ei.zero) (ia:∀ y∈ei.zero,y.ep=true) {stop:Prop} {k:List DV→Prop} (H:mB ei.size ps (List.replicate len z) stop k) :
  stop∨∃ l,k l∧bC E (.buildSlice t len parts) s h (.own h.length 0) (h++[.arr 0 (e,ei.size) l]):=by
 have dv:gp ei.size (List.replicate len z):=fun j e' h'=>by
  rw [List.getElem?_replicate] at h';split at h'
  ·cases h'; rw [qO,hz]
  ·cases h'
 have eR:np (List.replicate len z):=fun j e' h'=>by
  rw [List.getElem?_replicate] at h';split at h'
  ·cases h'; rw [qO]; exact ia
  ·cases h'
 rcases A9 dv eR H with h' | ⟨l,h1,h2,ib,h3,h4⟩
 ·exact .inl h'
 refine .inr ⟨l,h1,fun o c ac e1 e2 e3 e4=>?_⟩;subst e2;obtain ⟨ti,zv,g1,g2,g3,g4⟩:=zeroOf (hE.types e ei bP) hz cA;obtain ⟨zs,vt,jg⟩:=g4 c;obtain ⟨p1,p2⟩:=fG c ac e3 e4;have ki:zs.length=ei.size:=by rw [← jg.1]; simpa using hz
 have vu:VL c ((flat (List.replicate len z)).map .d) ((Array.range (len*ti.size)).map (zv.cells[· % zv.cells.size]!)).toList:=by
  refine .qM (by rw [lN dv]; simp [g3]) (fun j x v hx hv=>?_);have hj:j<len*ei.size:=by
   have:=lN dv;rw [List.length_replicate] at this;rw [← this];rcases Nat.lt_or_ge j (flat (List.replicate len z)).length with h | h
   ·exact h
   ·rw [List.getElem?_eq_none h] at hx; cases hx
  have hd:j / ei.size<len:=Nat.div_lt_of_lt_mul (by rw [Nat.mul_comm]; exact hj);have hm:j % ei.size<ei.size:=Nat.mod_lt _ cA;have h5:=flat_get dv (i:=j / ei.size) (j:=j % ei.size) (e:=z) (by simp [hd]) hm;rw [Nat.mul_comm,Nat.div_add_mod,hx,qO] at h5;have eF:v=zs[j % ei.size]'(by omega):=by
   have dW:j<len*ti.size:=by rw [← g3]; exact hj
   simp [dW,vt,ki] at hv;rw [← hv];simp [ki,hm]
  rw [eF];exact jg.nj (j % ei.size) x _ h5.symm (by simp [ki,hm])
 obtain ⟨vs',f1,f2⟩:=h4 c _ _ vu p2;obtain ⟨vv,d,q1,q2,q3,-⟩:=cm (hE.types t i hi);obtain rfl:=kg (hk.symm.trans q3);have eq:(parts.map fun (i,x)=>(i,ac.eval x)).toList=(ps.map (·.1)).zip (parts.toList.map fun p=>ac.eval p.2):=by
  rw [p1,Array.toList_map];generalize parts.toList=q
  induction q with
  |nil=>rfl
  |cons a q ih=>simp only [List.map_cons,List.zip_cons_cons,ih]
 have qP:Instr.fill (fun i=>some (i*ti.size,ti.size)) ((Array.range (len*ti.size)).map (zv.cells[· % zv.cells.size]!)) (parts.map fun (i,x)=>(i,ac.eval x)).toList=some vs'.toArray:=by
  rw [eq,← f1,g3]
 have cq:=run_buildSlice (P:=E.P) c.w t e len (parts.map fun (i,x)=>(i,ac.eval x)) vs'.toArray ti zv q2 g1 g2 (by rw [← g3]; omega) (by rw [← g3]; have:=Nat.mul_pos hlen cA; omega) qP;have s6:l.length=len:=by rw [h3]; simp
 obtain ⟨k1,k2⟩:=e3.add (.arr 0 (e,ei.size) l) len (.cells vs'.toArray e);have bA:(c.add (.arr 0 (e,ei.size) l) len (.cells vs'.toArray e)).own c.heap.length=some (c.w.heap.size,len):=by simp [Cx.add]
 have kR:(c.add (.arr 0 (e,ei.size) l) len (.cells vs'.toArray e)).heap[c.heap.length]? = some (.arr 0 (e,ei.size) l):=by simp [Cx.add]
 have bY:vs'.length=len*ei.size:=by
  have:=f2.1;simp only [List.length_map] at this;rw [← this,lN h2,s6]
 have c8:iy (c.add (.arr 0 (e,ei.size) l) len (.cells vs'.toArray e)) c.heap.length (.arr 0 (e,ei.size) l):=by
  refine ⟨cA,h2,.inr ⟨c.w.heap.size,len,vs'.toArray,bA,heap_alloc_new _ _,by simpa using bY,by omega,by unfold maxLen; have:=Nat.le_mul_of_pos_right len cA; omega,fun i j e' x he hx=>?_⟩⟩;have hj:j<ei.size:=by
   have:=aT hx;rw [h2 i e' he] at this;exact this
  have hf:=flat_get h2 he hj;rw [hx] at hf;have ai:i*ei.size+j<vs'.length:=by
   have:=f2.1;simp only [List.length_map] at this;rw [← this];exact aT hf
  refine ⟨vs'[i*ei.size+j],by simp [ai],vh (f2.nj _ x _ hf (by simp [ai])) (ib i e' he x (List.mem_of_getElem? hx)),k1.vd (f2.nj _ x _ hf (by simp [ai]))⟩
 refine ⟨_,.slice (some ⟨c.w.heap.size,0,none⟩) len len,.inl (by simp only [execOp,e1,Sem.run_bind,cq,Result.andThen_ok,Sem.run_pure]; rfl),rfl,k2 c8,?_,k1⟩;have:=VR.own (c:=c.add (.arr 0 (e,ei.size) l) len (.cells vs'.toArray e)) c.heap.length 0 (e,ei.size) l c.w.heap.size len kR bA;rw [s6] at this;exact this
def zc (E:Env) (o:Op) (s:List AV) (h:List ae) (stop:Prop) (k:AV→List ae→Prop):Prop :=
 match o with
 | .buildSlice t len parts=>aO E.T t stop fun i=>match i.k with
  | .slice e=>aO E.T e stop fun ei=>match Nat.beq ei.zero.length ei.size,Nat.blt 0 ei.size,Nat.blt 0 len,Nat.ble (len*ei.size) 16777216,ei.zero.all DV.ep with
   |true,true,true,true,true=>qK E.G s parts.toList stop fun ps =>
    match ei.zero with
    | [z]=>qJ len z fun zs=>mB ei.size ps zs stop fun l=>lI h (.arr 0 (e,ei.size) l) 0 fun h' n=>k (.own n 0) h'
    |zl=>qJ len (.agg zl) fun zs=>mB ei.size ps zs stop fun l=>lI h (.arr 0 (e,ei.size) l) 0 fun h' n=>k (.own n 0) h'
   |_,_,_,_,_=>stop
  |_=>stop
 |_=>stop
theorem G8 (hE:E.OK) {o:Op} {stop:Prop} {k:AV→List ae→Prop} (H:zc E o s h stop k):stop∨∃ v h',k v h'∧bC E o s h v h':=by
 unfold zc at H;split at H
 ·rcases a8 H with h | ⟨i,hi,H⟩
  ·exact .inl h
  split at H
  ·rename_i e hk;rcases a8 H with h | ⟨ei,bP,H⟩
   ·exact .inl h
   split at H
   ·rename_i q1 q2 q3 q4 q5;rcases vq H with h | ⟨ps,fG,H⟩
    ·exact .inl h
    simp only [pv,Nat.zero_add] at H;split at H
    ·rename_i z jD;rw [yj] at H;have ia:z.ep=true:=by rw [jD] at q5; simpa using q5
     rcases G7 hE hi bP hk fG (Nat.eq_of_beq_eq_true q1) (gq q2) (gq q3) (Nat.le_of_ble_eq_true q4) (z:=z) (by rw [jD]; cases z <;> first | rfl | cases ia) (fun y hy=>List.all_eq_true.1 q5 y hy) H with h | ⟨l,H,hl⟩
     ·exact .inl h
     exact .inr ⟨_,_,H,hl⟩
    ·rw [yj] at H;rcases G7 hE hi bP hk fG (Nat.eq_of_beq_eq_true q1) (gq q2) (gq q3) (Nat.le_of_ble_eq_true q4) (z := .agg ei.zero) rfl (fun y hy=>List.all_eq_true.1 q5 y hy) H with h | ⟨l,H,hl⟩
     ·exact .inl h
     exact .inr ⟨_,_,H,hl⟩
   ·exact .inl H
  ·exact .inl H
 ·exact .inl H
theorem I.oM (hE:E.OK) {ag:FuncId} {R:cx} {lits:List Nat} {ops:Array Oper} {o:Oper} {l:List Oper} {r:List aP} (hg:o.guard=none)
  (H:zc E o.op s h False fun v h'=>cb s o.dst v fun s'=>I E ag R lits (.bo ops l::r) s' h'):I E ag R lits (.bo ops (o::l)::r) s h:=by
 rcases G8 hE H with h | ⟨v,h',H,ho⟩
 ·exact h.elim
 ·rw [dN] at H;exact .of (.op (fR hg) ho H.to)
end
mutual
def norm:DV→DV
 | .aL => .sl []
 | .agg c => .agg (rQ c)
 | .aF c => .aF (rQ c)
 |x=>x
def rQ:List DV→List DV
 | []=>[]
 |x::l=>norm x::rQ l
end
theorem CD:∀ (l:List DV),rQ l=l.map norm
 | []=>rfl
 |x::l=>by rw [rQ,CD l]; rfl
theorem G9 {bad:Nat→Prop} {w:World} {x:DV} {v:Value} (h:VD bad w x v):VD bad w (norm x) v:=by
 induction h with
 |aL=>exact .slnil
 |agg c vs hlen bD ih =>
  rw [norm,CD];refine .agg _ _ (by simpa using hlen) fun j y v hy hv=>?_;rw [List.getElem?_map] at hy;cases hc:c[j]? with
  |none=>rw [hc] at hy; cases hy
  |some z=>rw [hc] at hy; cases hy; exact ih j z v hc hv
 |aF c vs hlen bD ih =>
  rw [norm,CD];refine .aF _ _ (by simpa using hlen) fun j y v hy hv=>?_;rw [List.getElem?_map] at hy;cases hc:c[j]? with
  |none=>rw [hc] at hy; cases hy
  |some z=>rw [hc] at hy; cases hy; exact ih j z v hc hv
 |undef=>exact .undef
 |bool b=>exact .bool b
 |int k n=>exact .int k n
 |str l=>exact .str l
 |slnil=>exact .slnil
 |jB a=>exact .jB a
 |sl l blk off cap sz f hb bY iw hlen dq bD bZ ih=>exact .sl l blk off cap sz f hb bY iw hlen dq bD bZ
 |dp=>exact .dp
 |ar=>exact .ar
 |hI=>exact .hI
 |mz=>exact .mz
 |fn f=>exact .fn f
 |raw v h=>exact .raw v h
theorem aq.norm {E:Env} {f:FuncId} {args:List DV} {y:DV} (H:aq E f args (fun r=>ax.norm r=y)):aq E f args (· = y):=by
 unfold aq at H ⊢;exact ⟨H.1,fun ay w vs h1 h2 h3=>(H.2 ay w vs h1 h2 h3).mono fun e w' ⟨v,r,k1,k2,k3,k4⟩=>⟨v,y,k1,rfl,k2 ▸ G9 k3,k4⟩⟩
end Go.ax
end
section
namespace Go.ax
open Go Go.RowKit
def c9 (n:Nat) (B:List Nat) (i:Nat):Bool:=match Nat.ble n i with
 |true=>true
 |false=>iJ i B
def jq (n:Nat) (B:List Nat):Nat→List ae→List ae
 |_,[]=>[]
 |i,b::r=>match Nat.ble n i with
  |true=>[]
  |false=>(match iJ i B with | true => .gone | false=>b)::jq n B (i+1) r
theorem uc {n:Nat} {B:List Nat}:∀ (i k:Nat) (h:List ae),c9 n B (i+k)=false→(jq n B i h)[k]? = h[k]?
 |_,_,[],_=>rfl
 |i,0,b::r,hh=>by
  simp only [c9,Nat.add_zero] at hh;split at hh
  ·cases hh
  ·rename_i q; simp only [jq,q,hh]; rfl
 |i,k+1,b::r,hh=>by
  have hn:Nat.ble n i=false:=by
   cases q:Nat.ble n i with
   |false=>rfl
   |true =>
    have h1:=Nat.le_of_ble_eq_true q;have h2:Nat.ble n (i+(k+1))=true:=Nat.ble_eq_true_of_le (by omega);simp only [c9,h2] at hh;cases hh
  simp only [jq,hn,List.getElem?_cons_succ];exact uc (i+1) k r (by rwa [show i+1+k=i+(k+1) by omega])
theorem G' {n:Nat} {B:List Nat}:∀ (i k:Nat) (h:List ae) (b:ae),c9 n B (i+k)=true→(jq n B i h)[k]? = some b→b = .gone
 |_,_,[],_,_,h=>by simp [jq] at h
 |i,k,b'::r,b,hh,h=>by
  simp only [jq] at h;split at h
  ·simp at h
  ·rename_i q;cases k with
   |zero =>
    simp only [c9,Nat.add_zero,q] at hh;simp only [hh,List.getElem?_cons_zero,Option.some.injEq] at h;exact h.symm
   |succ k=>exact G' (i+1) k r b (by rwa [show i+1+k=i+(k+1) by omega]) (by simpa using h)
def eZ (n:Nat) (B:List Nat):AV→Bool
 | .any=>true
 | .d _=>true
 | .bJ _ _=>true
 | .own b _=>match c9 n B b with | true=>false | false=>true
 | .ptr b _=>match c9 n B b with | true=>false | false=>true
 | .cC b _ _ _=>match c9 n B b with | true=>false | false=>true
 | .cut b _ _ _=>match c9 n B b with | true=>false | false=>true
 | .map b=>match c9 n B b with | true=>false | false=>true
 |_=>false
def nH {β:Type} (f:β→Bool):List β→Bool
 | []=>true
 |a::l=>match f a with
  |true=>nH f l
  |false=>false
theorem ze {β:Type} {f:β→Bool}:∀ {l:List β},nH f l=true→∀ (j:Nat) (x:β),l[j]? = some x→f x=true
 | [],_,_,_,h=>by simp at h
 |a::l,H,j,x,h=>by
  unfold nH at H;split at H
  ·rename_i q;cases j with
   |zero=>simp at h; subst h; exact q
   |succ j=>exact ze H j x (by simpa using h)
  ·cases H
def fW (n:Nat) (B:List Nat):AV→Bool
 | .agg l=>nH (eZ n B) l
 | .aF l=>nH (eZ n B) l
 | .fn _ a b=>match nH (eZ n B) a with
  |true=>nH (eZ n B) b
  |false=>false
 |x=>eZ n B x
def Ha (n:Nat) (B:List Nat):ae→Bool
 | .cells cs=>nH (fW n B) cs
 |_=>true
section
variable {G:List (Nat × DV)} {c c':Cx} {n:Nat} {B:List Nat}
theorem Hb (hk:∀ b,b<c.w.heap.size→¬ c.bad b→¬ c'.bad b∧c'.w.heap[b]? = c.w.heap[b]?) (hb:∀ i bx,c9 n B i=false→c.heap[i]? = some bx→c'.heap[i]? = some bx∧c'.own i=c.own i)
  {x:AV} {v:Value} (hf:eZ n B x=true) (hv:VR c x v):VR c' x v:=by
 cases hv with
 |any v=>exact .any v
 |d x v hx=>exact .d x v (hx.mono hk)
 |own b g sz l blk cap h1 h2 =>
  have hh:c9 n B b=false:=by simp only [eZ] at hf; split at hf <;> first | assumption | cases hf
  obtain ⟨k1,k2⟩:=hb _ _ hh h1;exact .own b g sz l blk cap k1 (k2.trans h2)
 |gj b g sz h1 h2 =>
  have hh:c9 n B b=false:=by simp only [eZ] at hf; split at hf <;> first | assumption | cases hf
  obtain ⟨k1,k2⟩:=hb _ _ hh h1;exact .gj b g sz k1 (k2.trans h2)
 |jd b g g1 sz l v h1 h2 h3 =>
  have hh:c9 n B b=false:=by simp only [eZ] at hf; split at hf <;> first | assumption | cases hf
  obtain ⟨k1,k2⟩:=hb _ _ hh h1;exact .jd b g g1 sz l _ k1 h2 h3
 |ix b g v h1 h2 =>
  have hh:c9 n B b=false:=by simp only [eZ] at hf; split at hf <;> first | assumption | cases hf
  exact .ix b g _ (hb _ _ hh h1).1 h2
 |kK b g cs blk cap m h1 h2 h3 =>
  have hh:c9 n B b=false:=by simp only [eZ] at hf; split at hf <;> first | assumption | cases hf
  obtain ⟨k1,k2⟩:=hb _ _ hh h1;exact .kK b g cs blk cap m k1 (k2.trans h2) h3
 |cut b g k q sz l blk cap o h1 h2 h3 h4 h5 =>
  have hh:c9 n B b=false:=by simp only [eZ] at hf; split at hf <;> first | assumption | cases hf
  obtain ⟨k1,k2⟩:=hb _ _ hh h1;exact .cut b g k q sz l blk cap o k1 (k2.trans h2) h3 h4 h5
 |lF b g g1 k q sz l v h1 h2 h3 =>
  have hh:c9 n B b=false:=by simp only [eZ] at hf; split at hf <;> first | assumption | cases hf
  exact .lF b g g1 k q sz l _ (hb _ _ hh h1).1 h2 h3
 |lG b g k q v h1 h2 =>
  have hh:c9 n B b=false:=by simp only [eZ] at hf; split at hf <;> first | assumption | cases hf
  exact .lG b g k q _ (hb _ _ hh h1).1 h2
 |ptr b off cs blk cap h1 h2 =>
  have hh:c9 n B b=false:=by simp only [eZ] at hf; split at hf <;> first | assumption | cases hf
  obtain ⟨k1,k2⟩:=hb _ _ hh h1;exact .ptr b off cs blk cap k1 (k2.trans h2)
 |hU b off v h1 h2 =>
  have hh:c9 n B b=false:=by simp only [eZ] at hf; split at hf <;> first | assumption | cases hf
  exact .hU b off _ (hb _ _ hh h1).1 h2
 |cC b g i off sz l blk cap h1 h2 h3 =>
  have hh:c9 n B b=false:=by simp only [eZ] at hf; split at hf <;> first | assumption | cases hf
  obtain ⟨k1,k2⟩:=hb _ _ hh h1;exact .cC b g i off sz l blk cap k1 (k2.trans h2) h3
 |kc b g g1 i off sz l v h1 h2 h3 =>
  have hh:c9 n B b=false:=by simp only [eZ] at hf; split at hf <;> first | assumption | cases hf
  exact .kc b g g1 i off sz l _ (hb _ _ hh h1).1 h2 h3
 |ke b g i off v h1 h2 =>
  have hh:c9 n B b=false:=by simp only [eZ] at hf; split at hf <;> first | assumption | cases hf
  exact .ke b g i off _ (hb _ _ hh h1).1 h2
 |bJ e off blk o f h1 h2 h3 h4 =>
  have ai:blk<c.w.heap.size:=by
   obtain ⟨x,r,hx⟩:=List.exists_cons_of_ne_nil h2;exact World.block_lt_of_cell? _ _ (h3 0 x (by rw [hx]; rfl))
  have hk:=hk;have ox:=hk blk ai h1;exact .bJ e off blk o f ox.1 h2 (fun j x hx=>by rw [World.cell?_of_block ox.2]; exact h3 j x hx) (fun j x hx=>(h4 j x hx).mono hk)
 |map b es blk cap h1 h2 =>
  have hh:c9 n B b=false:=by simp only [eZ] at hf; split at hf <;> first | assumption | cases hf
  obtain ⟨k1,k2⟩:=hb _ _ hh h1;exact .map b es blk cap k1 (k2.trans h2)
 |lH b v h1 h2 =>
  have hh:c9 n B b=false:=by simp only [eZ] at hf; split at hf <;> first | assumption | cases hf
  exact .lH b _ (hb _ _ hh h1).1 h2
 |agg a vs h1 h2=>simp [eZ] at hf
 |aF a vs h1 h2=>simp [eZ] at hf
 |fn f a1 a2 v1 v2 h1 h2 h3 h4=>simp [eZ] at hf
theorem N5 (hk:∀ b,b<c.w.heap.size→¬ c.bad b→¬ c'.bad b∧c'.w.heap[b]? = c.w.heap[b]?) (hb:∀ i bx,c9 n B i=false→c.heap[i]? = some bx→c'.heap[i]? = some bx∧c'.own i=c.own i)
  {x:AV} {v:Value} (hf:fW n B x=true) (hv:VR c x v):VR c' x v:=by
 have one:∀ {l:List AV},nH (eZ n B) l=true→∀ (vs:List Value),VL c l vs→VL c' l vs:=fun hl vs h=>⟨h.1,fun j x v hx hv=>Hb hk hb (ze hl j x hx) (h.2 j x v hx hv)⟩;unfold fW at hf;split at hf
 ·obtain ⟨vs,rfl,h1⟩:=nk hv; exact sU (one hf _ h1)
 ·obtain ⟨vs,rfl,h1⟩:=vZ hv; exact v7 (one hf _ h1)
 ·split at hf
  ·rename_i q;obtain ⟨v1,v2,rfl,h1,h2⟩:=km hv;exact BR (one q _ h1) (one hf _ h2)
  ·cases hf
 ·exact Hb hk hb hf hv
def Cx.fa (c:Cx) (n:Nat) (B:List Nat):Cx:=⟨fun i=>match c9 n B i with | true=>none | false=>c.own i,jq n B 0 c.heap,fun b=>c.ay b∨∃ j m,c9 n B j=true∧c.own j=some (b,m),c.w⟩
theorem rR {i b m:Nat} (h:(c.fa n B).own i=some (b,m)):c9 n B i=false∧c.own i=some (b,m):=by
 simp only [Cx.fa] at h;split at h
 ·cases h
 ·rename_i q; exact ⟨q,h⟩
theorem wS {i:Nat} (h:c9 n B i=false):(c.fa n B).own i=c.own i:=by simp only [Cx.fa,h]
theorem N6 (b:Nat):(c.fa n B).bad b↔c.bad b:=by
 constructor
 ·rintro ((hb | ⟨j,m,-,hj⟩) | ⟨i,m,hi⟩)
  ·exact .inl hb
  ·exact .inr ⟨j,m,hj⟩
  ·exact .inr ⟨i,m,(rR hi).2⟩
 ·rintro (hb | ⟨j,m,hj⟩)
  ·exact .inl (.inl hb)
  ·cases hh:c9 n B j
   ·exact .inr ⟨j,m,(wS hh).trans hj⟩
   ·exact .inl (.inr ⟨j,m,hh,hj⟩)
theorem Hc (b:Nat) (_:b<c.w.heap.size) (hn:¬ c.bad b):¬ (c.fa n B).bad b∧(c.fa n B).w.heap[b]? = c.w.heap[b]? := ⟨fun h=>hn ((N6 b).1 h),rfl⟩
theorem N7 {i:Nat} {bx:ae} (hh:c9 n B i=false) (hi:c.heap[i]? = some bx):(c.fa n B).heap[i]? = some bx∧(c.fa n B).own i=c.own i :=
 ⟨by show (jq n B 0 c.heap)[i]? = _; rw [uc 0 i c.heap (by rwa [Nat.zero_add])]; exact hi,wS hh⟩
theorem zf {x:AV} {v:Value} (hf:fW n B x=true) (hv:VR c x v):VR (c.fa n B) x v:=N5 Hc (fun _ _=>N7) hf hv
theorem N8 {x:DV} {v:Value} (hv:VD c.bad c.w x v):VD (c.fa n B).bad (c.fa n B).w x v:=hv.mono Hc
theorem iy.free {i:Nat} {bx:ae} (N9:Ha n B bx=true) (kj:∀ x v,fW n B x=true→VR c x v→VR c' x v) (fw:∀ x v,VD c.bad c.w x v→VD c'.bad c'.w x v) (hb:iy c i bx) (ho:c'.own i=c.own i) (hw:∀ b n,c.own i=some (b,n)→c'.w.heap[b]? = c.w.heap[b]?):iy c' i bx:=by
 cases bx with
 |cells cs =>
  obtain ⟨blk,cap,vs,ty,h1,h2,h3,h4⟩:=hb;exact ⟨blk,cap,vs,ty,ho.trans h1,(hw blk cap h1).trans h2,h3,fun j x v hx hv=>kj x v (ze N9 j x hx) (h4 j x v hx hv)⟩
 |arr g ts l =>
  obtain ⟨h0,h1,h2⟩:=hb;refine ⟨h0,h1,?_⟩;rcases h2 with ⟨h2,h3⟩ | ⟨blk,cap,vs,h2,h3,h4,h5,h6,h7⟩
  ·exact .inl ⟨ho.trans h2,h3⟩
  ·refine .inr ⟨blk,cap,vs,ho.trans h2,(hw blk cap h2).trans h3,h4,h5,h6,fun i j e x he hx=>?_⟩;obtain ⟨v,h8,vf,h9⟩:=h7 i j e x he hx;exact ⟨v,h8,vf,fw x v h9⟩
 |map es =>
  obtain ⟨blk,cap,en,ck,h1,h2,h3,h4⟩:=hb;exact ⟨blk,cap,en,ck,ho.trans h1,(hw blk cap h1).trans h2,h3,fun j k x m hx hm=>⟨fw _ _ (h4 j k x m hx hm).1,fw _ _ (h4 j k x m hx hm).2⟩⟩
 |gone=>exact ho.trans hb
 |hole=>exact ho.trans hb
def CE (n:Nat) (B:List Nat) (X:List ae):Bool:=nH (Ha n B) X
theorem aK.fa (ho:aK G c) (cH:CE n B (jq n B 0 c.heap)=true):aK G (c.fa n B) where
 bN:=fun b hb=>hb.elim (ho.bN b) fun ⟨j,m,_,hj⟩=>(ho.br j b m hj).1
 br:=fun i b m hi=>by
  obtain ⟨h1,h2⟩:=rR hi;obtain ⟨h3,h4⟩:=ho.br i b m h2;refine ⟨h3,?_⟩;have:(c.fa n B).heap[i]? = c.heap[i]? := uc 0 i c.heap (by rwa [Nat.zero_add]);have h5:(c.fa n B).heap[i]? = some c.heap[i]:=by rw [this]; simp
  exact aT h5
 inj:=fun i j b m k hi hj=>ho.inj i j b m k (rR hi).2 (rR hj).2
 sep:=fun i b m hi hb=>by
  obtain ⟨h1,h2⟩:=rR hi;rcases hb with hb | ⟨j,k,hj,hk⟩
  ·exact ho.sep i b m h2 hb
  ·have:=ho.inj i j b m k h2 hk;subst this;rw [h1] at hj;cases hj
 box:=fun i bx hi=>by
  cases hh:c9 n B i
  ·have e:(c.fa n B).heap[i]? = c.heap[i]? := uc 0 i c.heap (by rwa [Nat.zero_add]);have hf:=ze cH i bx hi;rw [e] at hi;exact (ho.box i bx hi).free hf (fun _ _=>zf) (fun _ _=>N8) (wS hh) (fun _ _ _=>rfl)
  ·obtain rfl:=G' 0 i c.heap bx (by rwa [Nat.zero_add]) hi;show (c.fa n B).own i=none;simp only [Cx.fa,hh]
 fm:=fun g e hg=>zf rfl (ho.fm g e hg)
end
theorem aK.Hd {G:List (Nat × DV)} {c:Cx} {ay:Nat→Prop} (ho:aK G c) (hb:∀ b,ay b→c.ay b):aK G ⟨c.own,c.heap,ay,c.w⟩∧(∀ x v,VR c x v→VR ⟨c.own,c.heap,ay,c.w⟩ x v):=by
 have ob:∀ b,b<c.w.heap.size→¬ c.bad b→¬ (⟨c.own,c.heap,ay,c.w⟩:Cx).bad b∧(⟨c.own,c.heap,ay,c.w⟩:Cx).w.heap[b]? = c.w.heap[b]? := fun b _ hn=>⟨fun h=>hn (h.elim (fun h => .inl (hb b h)) .inr),rfl⟩;have kj:∀ x v,VR c x v→VR ⟨c.own,c.heap,ay,c.w⟩ x v:=fun x v=>qE ob (fun _ _ hi=>kM hi rfl rfl);exact ⟨⟨fun b h=>ho.bN b (hb b h),ho.br,ho.inj,fun i b n hi h=>ho.sep i b n hi (hb b h),fun i bx hx=>(ho.box i bx hx).gen kj (fun _ _ h=>h.mono ob) rfl (fun _ _ _=>rfl),fun g e hg=>kj _ _ (ho.fm g e hg)⟩,kj⟩
end Go.ax
end
