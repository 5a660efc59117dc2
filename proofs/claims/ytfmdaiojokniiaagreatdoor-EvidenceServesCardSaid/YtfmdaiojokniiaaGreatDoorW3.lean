/- Several texts of mine, one behind the other. Conditions: as each says. -/
import Derived.Test.YtfmdaiojokniiaaGreatDoorW2
import Derived.Orders
import Derived.OrdersIn
set_option linter.unusedVariables false
set_option linter.unusedSimpArgs false
section
namespace Go.aw
open Go Go.RowKit
inductive iv (ops:Array Oper):Nat→Nat→Prop
 |one {j:Nat} {o:Oper} {e:Edge} (hj:ops[j]? = some o) (he:e∈o.after) (hb:Region.binds .any e=true):iv ops e.on j
 |step {i j:Nat} {o:Oper} {e:Edge} (h:iv ops i e.on) (hj:ops[j]? = some o) (he:e∈o.after) (hb:Region.binds .any e=true):iv ops i j
def BW (acc:List Nat) (o:Oper):Nat:=o.after.toList.foldl (fun m e=>if Region.binds .any e then m ||| 2 ^ e.on ||| acc.getD e.on 0 else m) 0
def bits:List Oper→List Nat→List Nat
 | [],acc=>acc
 |o::l,acc=>bits l (acc++[BW acc o])
theorem M6 {acc:List Nat} {o:Oper} {i:Nat} (h:(BW acc o).testBit i=true):∃ e∈o.after,Region.binds .any e=true∧(i=e.on∨(acc.getD e.on 0).testBit i=true):=by
 have gen:∀ (l:List Edge) (m:Nat),(l.foldl (fun m e=>if Region.binds .any e then m ||| 2 ^ e.on ||| acc.getD e.on 0 else m) m).testBit i=true→m.testBit i=true∨∃ e∈l,Region.binds .any e=true∧(i=e.on∨(acc.getD e.on 0).testBit i=true):=by
  intro l
  induction l with
  |nil=>intro m h; exact .inl h
  |cons e l ih =>
   intro m h;rw [List.foldl_cons] at h;rcases ih _ h with h | ⟨e',sR,hb⟩
   ·split at h
    ·rename_i hb;simp only [Nat.testBit_or,Bool.or_eq_true,Nat.testBit_two_pow,decide_eq_true_eq] at h;rcases h with (h | h) | h
     ·exact .inl h
     ·exact .inr ⟨e,List.mem_cons_self ..,hb,.inl h.symm⟩
     ·exact .inr ⟨e,List.mem_cons_self ..,hb,.inr h⟩
    ·exact .inl h
   ·exact .inr ⟨e',List.mem_cons_of_mem _ sR,hb⟩
 rcases gen _ _ h with h | ⟨e,he,hb⟩
 ·simp at h
 ·exact ⟨e,by simpa using he,hb⟩
theorem BX (ops:Array Oper):∀ (l:List Oper) (acc:List Nat),ops.toList.drop acc.length=l→(∀ j i,(acc.getD j 0).testBit i=true→iv ops i j)→∀ j i,((bits l acc).getD j 0).testBit i=true→iv ops i j
 | [],acc,_,ha=>ha
 |o::l,acc,hl,ha=>by
  have ho:ops[acc.length]? = some o:=by
   have:=congrArg (·[0]?) hl
   simpa using this
  refine BX ops l (acc++[BW acc o]) (by rw [List.length_append,List.length_singleton,← List.drop_drop,hl]; rfl) (fun j i h=>?_);rcases Nat.lt_trichotomy j acc.length with hj | hj | hj
  ·rw [List.getD,List.getElem?_append_left hj] at h;exact ha j i h
  ·subst hj;rw [List.getD,List.getElem?_append_right (Nat.le_refl _),Nat.sub_self] at h;obtain ⟨e,he,hb,h | h⟩:=M6 (by simpa using h)
   ·subst h; exact .one ho he hb
   ·exact .step (ha _ _ h) ho he hb
  ·rw [List.getD,List.getElem?_eq_none (by simp; omega)] at h;simp at h
def tmpsOf (o:Op):List Nat:=o.operands.toList.filterMap fun | .tmp t=>some t | _=>none
def Ge (ops:Array Oper):Option (Nat × Bool)→List Nat
 |none=>[]
 |some (j,_)=>match (ops[j]?).bind (·.dst) with
  |some d=>[d]
  |none=>[]
def ew (ops:Array Oper) (o:Oper):List Nat:=tmpsOf o.op++Ge ops o.guard
def nh (ops:Array Oper) (a b:Oper):Bool:=(match a.dst with | some d=>ir d (b.dst.toList++ew ops b) | none=>false)||(match b.dst with | some d=>ir d (ew ops a) | none=>false)
theorem vX {d:Nat}:∀ {l:List Nat},ir d l=true↔d∈l
 | []=>by simp [ir]
 |a::l=>by
  simp only [ir];split
  ·rename_i q; simp [Nat.eq_of_beq_eq_true q]
  ·rename_i q;have aE:d≠a:=fun e=>by rw [e,Nat.beq_refl] at q; cases q
   rw [vX (l:=l)];simp [aE]
structure BY (ops:Array Oper):Prop where
 low:∀ j o e,ops[j]? = some o→e∈o.after→Region.binds .any e=true→e.on<j
 pair:∀ i j oi oj,i<j→ops[i]? = some oi→ops[j]? = some oj→nh ops oi oj=true→iv ops i j
def Gf (ops:Array Oper):Bool :=
 let bs:=bits ops.toList []
 (List.range ops.size).all fun j=>match ops[j]? with
  |none=>true
  |some oj=>(oj.after.toList.all fun e => !Region.binds .any e||decide (e.on<j))&&(List.range j).all fun i=>match ops[i]? with
   |none=>true
   |some oi=>(bs.getD j 0).testBit i || !nh ops oi oj
theorem M7 {ops:Array Oper} (h:Gf ops=true):BY ops:=by
 have hb:=BX ops ops.toList [] rfl (fun j i h=>by simp at h);have a7:∀ j oj,ops[j]? = some oj→(oj.after.toList.all fun e => !Region.binds .any e||decide (e.on<j))=true∧∀ i oi,i<j→ops[i]? = some oi→((bits ops.toList []).getD j 0).testBit i=true∨nh ops oi oj=false:=fun j oj hj=>by
  have ah:j<ops.size:=(Array.getElem?_eq_some_iff.1 hj).1;have h1:=List.all_eq_true.1 h j (List.mem_range.2 ah);simp only [hj,Bool.and_eq_true] at h1;refine ⟨h1.1,fun i oi hi nZ=>?_⟩;have h2:=List.all_eq_true.1 h1.2 i (List.mem_range.2 hi);simp only [nZ,Bool.or_eq_true,Bool.not_eq_true'] at h2;exact h2
 refine ⟨fun j o e hj he fL=>?_,fun i j oi oj dp hi hj hc=>?_⟩
 ·have:=List.all_eq_true.1 (a7 j o hj).1 e (by simpa using he)
  simpa [fL] using this
 ·rcases (a7 j oj hj).2 i oi dp hi with h | h
  ·exact hb j i h
  ·rw [hc] at h; cases h
def Gg (ops:Array Oper) (l:List (Nat × Nat)):Bool :=
 let bs:=bits ops.toList []
 l.all fun p=>(bs.getD p.2 0).testBit p.1
theorem M8 {ops:Array Oper} {l:List (Nat × Nat)} (h:Gg ops l=true):∀ p∈l,iv ops p.1 p.2:=fun p hp =>
 BX ops ops.toList [] rfl (fun j i h=>by simp at h) p.2 p.1 (List.all_eq_true.1 h p hp)
def cur:List (Oper × AV)→(Nat→Bool)→Nat→List AV→List AV
 | [],_,_,s=>s
 |(o,v)::l,L,i,s=>cur l L (i+1) (if L i then bX s o.dst v else s)
theorem rp:∀ (pl:List (Oper × AV)) (L:Nat→Bool) (i:Nat) (s:List AV),(cur pl L i s).length=s.length
 | [],_,_,_=>rfl
 |(o,v)::l,L,i,s=>by
  rw [cur,rp l];split
  ·cases o.dst <;> simp [bX]
  ·rfl
theorem M9 {s:List AV} {d:Option Nat} {v:AV} {t:Nat} (h:d≠some t):(bX s d v)[t]? = s[t]? := by
 cases d with
 |none=>rfl
 |some d=>exact List.getElem?_set_ne (fun e=>h (by rw [e]))
theorem M' {s s':List AV} {d:Option Nat} {v:AV} {t:Nat} (hl:s.length=s'.length) (h:s[t]? = s'[t]?):(bX s d v)[t]? = (bX s' d v)[t]? := by
 cases d with
 |none=>exact h
 |some d =>
  by_cases hd:d=t
  ·subst hd;simp only [bX,List.getElem?_set,hl,if_true]
  ·simp only [bX,List.getElem?_set_ne hd,h]
theorem yx {t:Nat}:∀ (pl:List (Oper × AV)) (L L':Nat→Bool) (i:Nat) (s s':List AV),s.length=s'.length→s[t]? = s'[t]? → (∀ k o v,pl[k]? = some (o,v)→o.dst=some t→L (i+k)=L' (i+k))→(cur pl L i s)[t]? = (cur pl L' i s')[t]?
 | [],_,_,_,_,_,_,hs,_=>hs
 |(o,v)::l,L,L',i,s,s',hl,hs,hw=>by
  rw [cur,cur];have hlen:∀ (b:Bool) (q:List AV),(if b then bX q o.dst v else q).length=q.length:=fun b q=>by cases b <;> cases o.dst <;> simp [bX]
  refine yx l L L' (i+1) _ _ (by rw [hlen,hlen,hl]) ?_ (fun k o' v' hk hd=>by have:=hw (k+1) o' v' (by simpa using hk) hd; rwa [show i+(k+1)=i+1+k by omega] at this);by_cases hd:o.dst=some t
  ·have:=hw 0 o v rfl hd;rw [Nat.add_zero] at this;rw [this];split
   ·exact M' hl hs
   ·exact hs
  ·split <;> split <;> simp only [M9 hd,hs]
theorem vY:∀ (pl:List (Oper × AV)) (i:Nat) (s:List AV) (L:Nat→Bool),(∀ k,k<pl.length→L (i+k)=false)→cur pl L i s=s
 | [],_,_,_,_=>rfl
 |(o,v)::l,i,s,L,h=>by
  have h0:=h 0 (by simp);rw [Nat.add_zero] at h0;rw [cur,h0];exact vY l (i+1) s L (fun k hk=>by have:=h (k+1) (by simpa using hk); rwa [show i+(k+1)=i+1+k by omega] at this)
theorem Gh:∀ (pl:List (Oper × AV)) (i j:Nat) (s:List AV) (o:Oper) (v:AV),pl[j]? = some (o,v)→cur pl (fun k=>decide (k<i+j+1)) i s=bX (cur pl (fun k=>decide (k<i+j)) i s) o.dst v
 | [],_,_,_,_,_,h=>by simp at h
 |(o',v')::l,i,0,s,o,v,h=>by
  simp at h;obtain ⟨rfl,rfl⟩:=h;rw [cur,cur];simp only [Nat.add_zero,Nat.lt_irrefl,decide_false,Bool.false_eq_true,if_false,Nat.lt_succ_self,decide_true,if_true];rw [vY l (i+1) _ _ (fun k _=>decide_eq_false (by omega)),vY l (i+1) s _ (fun k _=>decide_eq_false (by omega))]
 |(o',v')::l,i,j+1,s,o,v,h=>by
  rw [cur,cur];have e1:(decide (i<i+(j+1)+1))=true:=decide_eq_true (by omega);have e2:(decide (i<i+(j+1)))=true:=by simp
  simp only [e1,e2,if_true];have:=Gh l (i+1) j (bX s o'.dst v') o v (by simpa using h);rw [show i+(j+1)+1=i+1+j+1 by omega,show i+(j+1)=i+1+j by omega];exact this
theorem Gi (d:Nat):∀ (a:List (Oper × AV)) (L:Nat→Bool) (i:Nat) (s:List AV),cur a L (i+d) s=cur a (fun k=>L (k+d)) i s
 | [],_,_,_=>rfl
 |(o,v)::a,L,i,s=>by
  rw [cur,cur,show i+d+1=i+1+d by omega,Gi d a L (i+1)]
def dy (keep:List Nat):Nat→List AV→List AV
 |_,[]=>[]
 |i,x::s=>(match ir i keep with | true=>x | false => .any)::dy keep (i+1) s
theorem Gj (keep:List Nat):∀ (i:Nat) (s:List AV),(dy keep i s).length=s.length
 |_,[]=>rfl
 |i,_::s=>by simp [dy,Gj keep (i+1) s]
theorem Gk (keep:List Nat):∀ (i t:Nat) (s:List AV) (x:AV),(dy keep i s)[t]? = some x→x = .any∨(i+t∈keep∧s[t]? = some x)
 |_,_,[],_,h=>by simp [dy] at h
 |i,0,y::s,x,h=>by
  simp only [dy,List.getElem?_cons_zero,Option.some.injEq] at h;split at h
  ·rename_i q; subst h; exact .inr ⟨by simpa using vX.1 q,rfl⟩
  ·exact .inl h.symm
 |i,t+1,y::s,x,h=>by
  simp only [dy,List.getElem?_cons_succ] at h;rcases Gk keep (i+1) t s x h with h | ⟨h1,h2⟩
  ·exact .inl h
  ·exact .inr ⟨by rwa [show i+(t+1)=i+1+t by omega],by simpa using h2⟩
def iw (E:Env) (ops:Array Oper) (o:Oper) (s:List AV) (h:List ab) (v:AV) (h':List ab):Prop :=
 ∀ (c:Cx) (a:Act),aC E.G c→c.heap=h→a.defers=[]→VS c (dy (ew ops o) 0 s) a.tmps→∀ (j:Nat),ops[j]? = some o→∀ (K:Act→World→Prop) (Q:Exit→Act→World→Prop),
  (∀ (c':Cx) (u:Value),aC E.G c'→c'.heap=h'→Step c c'→VR c' v u→K (a.put o.dst u) c'.w)→wpOp E.P ops Q j K a c.w
section
variable {E:Env} {ops:Array Oper}
def cE (listed:Array Bool) (i:Nat):Bool:=listed.getD i false
def DC (ops:Array Oper) (listed:Array Bool):Prop:=listed.size=ops.size∧∀ j o e,ops[j]? = some o→cE listed j=true→e∈o.after→Region.binds .any e=true→cE listed e.on=true
theorem DC.dep {listed:Array Bool} (hd:DC ops listed) {i j:Nat} (h:iv ops i j) (hj:cE listed j=true):cE listed i=true:=by
 induction h with
 |one ho he hb=>exact hd.2 _ _ _ ho hj he hb
 |step h ho he hb ih=>exact ih (hd.2 _ _ _ ho hj he hb)
theorem DC.ready {listed:Array Bool} (hd:DC ops listed) {i j:Nat} (hj:j∈Region.ready .any ops listed) (h:iv ops i j):cE listed i=true:=by
 obtain ⟨-,o,ho,a7⟩:=mem_ready.1 hj;cases h with
 |one cF he hb=>rw [ho] at cF; cases cF; exact a7 _ he hb
 |step h cF he hb=>rw [ho] at cF; cases cF; exact hd.dep h (a7 _ he hb)
theorem DC.set {listed:Array Bool} (hd:DC ops listed) {j:Nat} (hj:j∈Region.ready .any ops listed):DC ops (listed.setIfInBounds j true):=by
 refine ⟨by simpa using hd.1,fun i o e hi hl he hb=>?_⟩;by_cases dp:j=i
 ·subst dp;obtain ⟨-,o',cF,a7⟩:=mem_ready.1 hj;rw [hi] at cF; cases cF;exact getD_set_true (a7 e he hb)
 ·have:cE listed i=true:=by unfold cE at hl ⊢; rwa [getD_set_ne false dp] at hl
  exact getD_set_true (hd.2 i o e hi this he hb)
theorem Gl {listed:Array Bool} {j i:Nat} (hj:j<listed.size):cE (listed.setIfInBounds j true) i=(cE listed i||decide (i=j)):=by
 unfold cE;by_cases h:j=i
 ·subst h; simp [hj]
 ·rw [getD_set_ne false h]; simp [Ne.symm h]
theorem BZ {listed:Array Bool} (hd:DC ops listed) {j:Nat} (hj:j∈Region.ready .any ops listed):cE listed j=false∧j<ops.size:=by
 obtain ⟨h1,o,ho,-⟩:=mem_ready.1 hj;have ah:j<ops.size:=(Array.getElem?_eq_some_iff.1 ho).1;refine ⟨?_,ah⟩;have:j<listed.size:=by rw [hd.1]; exact ah
 unfold cE;simp [this] at h1 ⊢;exact h1
theorem Na (hc:BY ops) {listed:Array Bool} (hd:DC ops listed) {j:Nat} (hj:j<ops.size) (hn:cE listed j=false):∃ i,i≤j∧i∈Region.ready .any ops listed:=by
 induction j using Nat.strongRecOn with
 |ind j ih =>
  by_cases a7:∀ i,i<j→cE listed i=true
  ·refine ⟨j,Nat.le_refl _,mem_ready.2 ⟨?_,ops[j],by simp [hj],fun e he hb=>a7 _ (hc.low j _ e (by simp [hj]) he hb)⟩⟩;have:j<listed.size:=by rw [hd.1]; exact hj
   unfold cE at hn;simp [this] at hn ⊢;exact hn
  ·have:∃ i,i<j∧cE listed i=false:=by
    apply Classical.byContradiction;intro aE;exact a7 fun i hi=>by
     cases hl:cE listed i with
     |true=>rfl
     |false=>exact absurd ⟨i,hi,hl⟩ aE
   obtain ⟨i,hi,hl⟩:=this;obtain ⟨k,hk,hr⟩:=ih i hi (by omega) hl;exact ⟨k,by omega,hr⟩
def kK (L:Nat→Bool):Nat→Nat
 | 0=>0
 |n+1=>kK L n+if L n then 0 else 1
theorem Gm {L L':Nat→Bool} {j:Nat} (h:∀ i,i≠j→L' i=L i) (hj:L j=false) (dC:L' j=true):∀ n,(j<n→kK L' n+1=kK L n)∧(n≤j→kK L' n=kK L n)
 | 0=>⟨fun h=>by omega,fun _=>rfl⟩
 |n+1=>by
  obtain ⟨h1,h2⟩:=Gm h hj dC n;simp only [kK];by_cases hn:n=j
  ·subst hn;refine ⟨fun _=>?_,fun h=>by omega⟩;rw [h2 (Nat.le_refl _),hj,dC];simp
  ·rw [h n hn];exact ⟨fun hl=>by have:=h1 (by omega); omega,fun hl=>by rw [h2 (by omega)]⟩
theorem Gn {L:Nat→Bool} {j:Nat} (hj:L j=false):∀ n,j<n→0<kK L n
 | 0,h=>by omega
 |n+1,h=>by
  simp only [kK];by_cases hn:n=j
  ·subst hn; rw [hj]; simp
  ·have:=Gn hj n (by omega); omega
theorem B0 {a b:Oper} {d:Nat} (ha:a.dst=some d) (hb:d∈b.dst.toList++ew ops b):nh ops a b=true:=by
 simp only [nh,ha,vX.2 hb,Bool.true_or]
theorem Nb {a b:Oper} {d:Nat} (hb:b.dst=some d) (ha:d∈ew ops a):nh ops a b=true:=by
 simp only [nh,hb,vX.2 ha,Bool.or_true]
theorem Nc (Gp:∀ i j oi oj,i<j→ops[i]? = some oi→ops[j]? = some oj→nh ops oi oj=true→iv ops i j) {q:List (Oper × AV)} (mf:∀ (k:Nat) (o:Oper) (v:AV),q[k]? = some (o,v)→ops[k]? = some o) {listed:Array Bool} (hd:DC ops listed) {i:Nat} (hi:i∈Region.ready .any ops listed)
  {o:Oper} {v:AV} (rq:q[i]? = some (o,v)) {s0:List AV} {c:Cx} {a:Act} (h4:VS c (cur q (cE listed) 0 s0) a.tmps) :
  (∀ (c':Cx) (u:Value),(∀ x v,VR c x v→VR c' x v)→VR c' v u→VS c' (cur q (cE (listed.setIfInBounds i true)) 0 s0) (a.put o.dst u).tmps)∧VS c (dy (ew ops o) 0 (cur q (fun k=>decide (k<i)) 0 s0)) a.tmps:=by
 obtain ⟨pJ,ix⟩:=BZ hd hi;have nZ:=mf i o v rq;have wr:∀ k o' v',q[k]? = some (o',v')→(k<i→nh ops o' o=true→cE listed k=true)∧(i<k→nh ops o o'=true→cE listed k=false):=fun k o' v' hk=>by
  have aJ:=mf k o' v' hk;refine ⟨fun ah ni=>hd.ready hi (Gp k i o' o ah aJ nZ ni),fun ah ni=>?_⟩;cases hl:cE listed k with
  |false=>rfl
  |true=>have:=hd.dep (Gp i k o o' ah nZ aJ ni) hl; rw [pJ] at this; cases this
 have bK:i<listed.size:=by rw [hd.1]; exact ix
 have jW:=fun q=>Gl (i:=q) bK;refine ⟨fun c' u k3 k4=>?_,?_⟩
 ·refine ⟨by rw [rp]; have:=h4.1; rw [rp] at this; cases yy:o.dst <;> simp [Act.put,this],fun t x u' hx uU=>?_⟩;by_cases gp:o.dst=some t
  ·have e1:(cur q (cE (listed.setIfInBounds i true)) 0 s0)[t]? = (cur q (fun k=>decide (k<0+i+1)) 0 s0)[t]? := by
    refine yx _ _ _ 0 s0 s0 rfl rfl (fun k o' v' il ef=>?_);rw [Nat.zero_add,Nat.zero_add,jW];rcases Nat.lt_trichotomy k i with ah | rfl | qP
    ·rw [(wr k o' v' il).1 ah (B0 ef (List.mem_append_left _ (by simp [gp])))]; simp; omega
    ·simp
    ·rw [(wr k o' v' il).2 qP (B0 gp (List.mem_append_left _ (by simp [ef])))]; simp; omega
   rw [e1,Gh _ 0 i s0 o v rq,gp] at hx;have Gq:t<(cur q (fun k=>decide (k<0+i)) 0 s0).length:=by
    have:=aP hx
    simpa [bX] using this
   rw [bX,List.getElem?_set_self Gq] at hx;cases hx;have Nd:t<a.tmps.size:=by rw [← h4.1,rp]; rwa [rp] at Gq
   have yz:(a.tmps.setIfInBounds t u)[t]? = some u':=by simpa [Act.put,gp] using uU
   rw [Array.getElem?_setIfInBounds_self_of_lt Nd] at yz;cases yz;exact k4
  ·have e1:(cur q (cE (listed.setIfInBounds i true)) 0 s0)[t]? = (cur q (cE listed) 0 s0)[t]? := by
    refine yx _ _ _ 0 s0 s0 rfl rfl (fun k o' v' il ef=>?_);rw [Nat.zero_add,jW];have:k≠i:=fun e=>by
     subst e;rw [rq] at il;cases il;exact gp ef
    simp [this]
   rw [e1] at hx;refine k3 _ _ (h4.2 t x u' hx ?_);cases yy:o.dst with
   |none=>simpa [Act.put,yy] using uU
   |some d =>
    rw [yy] at gp;have aE:d≠t:=fun e=>gp (by rw [e])
    simpa [Act.put,yy,Array.getElem?_setIfInBounds_ne aE] using uU
 ·refine ⟨by rw [Gj,rp]; have:=h4.1; rwa [rp] at this,fun t x u hx hu=>?_⟩;rcases Gk _ 0 t _ x hx with rfl | ⟨hk,hx⟩
  ·exact .any u
  ·rw [Nat.zero_add] at hk;refine h4.2 t x u ?_ hu;rw [← hx];refine yx _ _ _ 0 s0 s0 rfl rfl (fun k o' v' il ef=>?_);rw [Nat.zero_add];rcases Nat.lt_trichotomy k i with ah | rfl | qP
   ·rw [(wr k o' v' il).1 ah (B0 ef (List.mem_append_right _ hk))]; simp [ah]
   ·rw [pJ]; simp
   ·rw [(wr k o' v' il).2 qP (Nb ef hk)]; simp; omega
theorem Nf {pl:List (Oper × AV)} (nW:pl.map (·.1)=ops.toList):pl.length=ops.size∧∀ (k:Nat) (o:Oper) (v:AV),pl[k]? = some (o,v)→ops[k]? = some o:=by
 refine ⟨by have:=congrArg List.length nW; simpa using this,fun k o v hk=>?_⟩;have:=congrArg (·[k]?) nW;simp only [List.getElem?_map,hk,Option.map_some] at this
 simpa using this.symm
theorem Ng {L:Nat→Bool} {n i:Nat} (h:kK L n≤0) (hi:i<n):L i=true:=by
 cases hl:L i with
 |true=>rfl
 |false=>have:=Gn hl n hi; omega
theorem yA (n i:Nat):cE (Array.replicate n false) i=false:=by
 unfold cE;simp [Array.getElem?_replicate];split <;> rfl
theorem Nh (n:Nat):∀ k,kK (cE (Array.replicate n false)) k≤k:=by
 intro k
 induction k with
 |zero=>exact Nat.le_refl _
 |succ k ih=>simp only [kK]; split <;> omega
end
section
variable {E:Env} {af:FuncId} {R:cu} {ops:Array Oper} {s:List AV} {h:List ab}
theorem iw.skip {o:Oper} (hw:ig ops o (dy (ew ops o) 0 s) false):iw E ops o s h (.d .undef) h:=fun c a h1 h2 _ h4 j hj K Q hK=>by
 unfold wpOp;simp only [hj,hw c a.tmps h4,Bool.false_eq_true,if_false];exact hK c Go.undef h1 h2 (Step.refl c h1.bG) (.d _ _ .undef)
theorem Ni {s:List AV} {o:Oper} {fx:Operand} {args:Array Operand} {ts:Array TypeId} {f:FuncId} {a1 a2 av:List AV} {ds:List DV} {r:DV} (ho:o.op = .call { callee := .value fx,args:=args,argTypes:=ts })
  (hf:aQ E.G s fx (.fn (.func f) a1 a2)) (ha:gS E.G s args.toList av) (hd:a1++av++a2=ds.map .d) (hc:au E f ds (· = r)) {c:Cx} {a:Act} (h1:aC E.G c) (h4:VS c s a.tmps) {K:Act→World→Prop} {Q:Exit→Act→World→Prop}
  (hK:∀ (c':Cx) (u:Value),aC E.G c'→c'.heap=c.heap→Step c c'→VR c' (.d r) u→K (a.put o.dst u) c'.w):o.wp E.P a c.w K Q:=by
 unfold au at hc;obtain ⟨v1,v2,e1,e2,e3⟩:=jn (hf c a h1 h4);have e4:=ha c a h1 h4;have e5:=(e2.append e4).append e3;rw [hd] at e5;have qI:∀ b,c.bad b→b<c.w.heap.size:=fun b hb=>hb.elim (h1.bG b) fun ⟨j,n,hj⟩=>(h1.bk j b n hj).1;have uR:pc E.G c.bad c.w:=fun g e hg=>by
  have hp:∀ p,VR c (.bD e 0) p→VR ⟨fun _=>none,[],c.bad,c.w⟩ (.bD e 0) p:=fun p hp=>by
   cases hp with
   |bD _ _ blk o' fv k1 k2 k3 k4=>exact .bD _ _ blk o' fv (fun hb=>k1 (qF.1 hb)) k2 k3 (fun j x hx=>qG (k4 j x hx))
  exact hp _ (h1.eJ g e hg)
 have fB:=hc.2 c.bad c.w _ qI uR ⟨by simpa using e5.1,e5.mN⟩;have cn:=uQ (P:=E.P) (w:=c.w) (a:=a) ho e1 hc.1;have gq:(v1.toArray++args.map a.eval++v2.toArray)=(v1++args.toList.map a.eval++v2).toArray:=by
  apply Array.ext';simp
 rw [gq] at cn;unfold Oper.wp;rw [cn,Oper.upon_enter];refine fB.mono fun e w' he=>?_;obtain ⟨v,r',rfl,rfl,hv,hx⟩:=he;obtain ⟨k1,k2⟩:=h1.grow hx;exact hK (c.dL w') v k1 rfl k2 (.d _ _ hv)
theorem iw.call {o:Oper} {fx:Operand} {args:Array Operand} {ts:Array TypeId} {f:FuncId} {a1 a2 av:List AV} {ds:List DV} {r:DV} (hw:ig ops o (dy (ew ops o) 0 s) true) (ho:o.op = .call { callee := .value fx,args:=args,argTypes:=ts })
  (hf:aQ E.G (dy (ew ops o) 0 s) fx (.fn (.func f) a1 a2)) (ha:gS E.G (dy (ew ops o) 0 s) args.toList av) (hd:a1++av++a2=ds.map .d) (hc:au E f ds (· = r)):iw E ops o s h (.d r) h:=fun c a h1 h2 _ h4 j hj K Q hK=>by
 unfold wpOp;simp only [hj,hw c a.tmps h4,if_true];left;exact Ni ho hf ha hd hc h1 h4 fun c' u k1 k2 k3 k4=>hK c' u k1 (k2.trans h2) k3 k4
end
def ov:Op→Bool
 | .box .. => false
 | .alloc .. => false
 | .store .. => false
 | .makeSlice .. => false
 | .makeMap .. => false
 | .mapUpdate .. => false
 | .call { callee := .builtin .append,.. }=>false
 |_=>true
def tA {α:Sort _} (keep:List Nat):Nat→List AV→(List AV→α)→α
 |_,[],k=>k []
 |i,x::s,k=>match ir i keep with
  |true=>tA keep (i+1) s fun s'=>k (x::s')
  |false=>tA keep (i+1) s fun s'=>k (.any::s')
theorem Gr {α:Sort _} (keep:List Nat):∀ (i:Nat) (s:List AV) (k:List AV→α),tA keep i s k=k (dy keep i s)
 |_,[],_=>rfl
 |i,x::s,k=>by
  simp only [tA,dy];split <;> rename_i q <;> rw [Gr keep (i+1)] <;> simp only [q]
theorem Nj {T:List bh} {G:List (Nat × DV)} {o:Op} {s:List AV} {h:List ab} {stop:Prop} {K:AV→Prop} (ho:ov o=true) (H:jL T G o s h stop (fun v _=>K v)):jL T G o s h stop (fun v h'=>h'=h∧K v):=by
 cases o
 case box=>cases ho
 case alloc=>cases ho
 case store=>cases ho
 case unOp op t x=>cases op <;> simpa only [jL,true_and] using H
 case call c =>
  obtain ⟨callee,args,ts⟩:=c;cases callee with
  |builtin b=>cases b <;> simpa only [jL,true_and] using H
  |_=>simpa only [jL] using H
 all_goals simpa only [jL,true_and] using H
theorem Nk {T:List bh} {G:List (Nat × DV)} {o:Op} {s:List AV} {h:List ab} {stop:Prop} {K:AV→Prop} (ho:ov o=true) (H:n4 T G o s h stop (fun v _=>K v)):n4 T G o s h stop (fun v h'=>h'=h∧K v):=by
 cases o
 case store=>cases ho
 case makeSlice=>cases ho
 case slice t x lo hi mx=>cases mx <;> simpa only [n4,qL,true_and] using H
 case call c =>
  obtain ⟨callee,args,ts⟩:=c;cases callee with
  |builtin b=>cases b <;> first | (simpa only [n4,qL] using H) | (simp [ov] at ho)
  |_=>simpa only [n4,qL] using H
 all_goals simpa only [n4,qL,true_and] using H
theorem Nl {E:Env} {o:Op} {s:List AV} {h:List ab} {stop:Prop} {K:AV→Prop} (ho:ov o=true):sY E o s h stop (fun v h'=>h'=h∧K v)=sY E o s h stop (fun v _=>K v):=by
 unfold sY;split
 ·simp [ov] at ho
 ·simp only [true_and]
 ·simp only [true_and]
 ·simp [ov] at ho
 ·rfl
theorem Nn {E:Env} {o:Op} {s:List AV} {h:List ab} {stop:Prop} {K:AV→Prop} (ho:ov o=true) (H:mY E o s h stop (fun v _=>K v)):mY E o s h stop (fun v h'=>h'=h∧K v):=by
 unfold mY at H ⊢;rw [Nl ho];have:=Nk ho H;have e:(fun v=>h=h∧K v)=K:=by funext v; simp
 rw [e];exact this
@[irreducible] def pK (E : Env) (f : FuncId) (ds : List DV) (h : List ab) (K1 : DV → Prop) (K2 : AV → List ab → Prop) : Prop :=
 (∃ r,au E f ds (· = r)∧K1 r)∨∃ r h1,aq E f [] (ds.map .d) (fun a b=>a=r∧b=h1)∧K2 (gz [] h r) (ee [] h h1)
theorem aR {E:Env} {f:FuncId} {ds:List DV} {h:List ab} {K1:DV→Prop} {K2:AV→List ab→Prop} {r:DV} (H:au E f ds (· = r)) (hk:K1 r):pK E f ds h K1 K2:=by unfold pK; exact .inl ⟨r,H,hk⟩
theorem No {E:Env} {f:FuncId} {ds:List DV} {h:List ab} {K1:DV→Prop} {K2:AV→List ab→Prop} {r:AV} {h1:List ab} {args:List AV} (hc:aq E f [] args (fun a b=>a=r∧b=h1)) (ha:args=ds.map .d) (hk:eC [] h r fun v=>hI [] h h1 fun h'=>K2 v h'):pK E f ds h K1 K2:=by
 unfold pK;rw [kF,oh] at hk;exact .inr ⟨r,h1,ha ▸ hc,hk⟩
def tB (ro:Option Nat):Fence:={ Fence.wide with round:=ro }
theorem pL (a:Act) (d:Option Nat) (v:Value):(a.put d v).defers=a.defers:=by cases d <;> rfl
section
variable {P:Program} {ops:Array Oper} {Q:Exit→Act→World→Prop}
theorem pM (hQ:∀ e a w,Q e a w→e = .normal∧a.defers=[]):∀ (l:List Nat) (a:Act) (w:World),wpOps P ops Q l a w→a.defers=[]
 | [],a,w,h=>(hQ _ _ _ h).2
 |i::l,a,w,h=>by
  simp only [wpOps] at h;split at h
  ·exact pM hQ l a w h
  ·rename_i o ho;split at h
   ·rcases h with h | ⟨_,a',w',h⟩
    ·unfold Oper.wp at h;generalize (execOp a.eval o).run P w=r at h;cases r with
     |ok n w' =>
      cases n with
      |value v=>have:=pM hQ l _ _ h; rwa [pL] at this
      |skip=>have:=pM hQ l _ _ h; rwa [pL] at this
      |defer d=>have:=pM hQ l _ _ h; rw [pL] at this; cases this
      |enter f args =>
       obtain ⟨e,vZ,fr,he,_⟩:=h [];cases e with
       |returned v=>have:=pM hQ l _ _ he; rwa [pL] at this
       |panicked c=>have:=(hQ _ _ _ he).1; cases this
       |outgrown=>obtain ⟨a',w',he⟩:=he; have:=(hQ _ _ _ he).1; cases this
      |row cK args =>
       obtain ⟨v,vZ,he,_⟩:=h default [];have:=pM hQ l _ _ he; rwa [pL] at this
      |_=>exact h.elim
     |halt x w'=>cases x with
      |panic v=>have:=(hQ _ _ _ h).1; cases this
      |_=>exact h.elim
    ·have:=(hQ _ _ _ h).1; cases this
   ·have:=pM hQ l _ _ h; rwa [pL] at this
theorem yB (ro:Option Nat) (df:List Deferred) (hQ:∀ e a w,Q e a w→e = .normal∧a.defers=[]):∀ (l:List Nat) (t:Array Value) (w:World),wpOps P ops Q l ⟨t,[]⟩ w →
  wpOpsIn (tB ro) 0 P ops (fun e a w=>a.defers=df∧Q e ⟨a.tmps,[]⟩ w) l ⟨t,df⟩ w
 | [],t,w,h=>⟨rfl,h⟩
 |i::l,t,w,h=>by
  have next:∀ (d:Option Nat) (v:Value) (w:World),wpOps P ops Q l ((⟨t,[]⟩:Act).put d v) w→wpOpsIn (tB ro) 0 P ops (fun e a w=>a.defers=df∧Q e ⟨a.tmps,[]⟩ w) l ((⟨t,df⟩:Act).put d v) w:=fun d v w h=>by
   cases d with
   |none=>exact yB ro df hQ l t w h
   |some d=>exact yB ro df hQ l _ w h
  have Np:(⟨t,df⟩:Act).eval=(⟨t,[]⟩:Act).eval:=funext fun x=>by cases x <;> rfl
  simp only [wpOps] at h;simp only [wpOpsIn];cases ho:ops[i]? with
  |none=>rw [ho] at h; exact yB ro df hQ l t w h
  |some o =>
   rw [ho] at h;simp only at h ⊢;by_cases hw:Region.wanted o (yielded ops t)=true
   ·rw [if_pos hw] at h ⊢;rcases h with h | ⟨_,a',w',h⟩
    case inr=>have:=(hQ _ _ _ h).1; cases this
    refine ⟨fun _ _=>trivial,?_⟩;rw [Np];unfold Oper.wp at h;cases hr:(execOp (⟨t,[]⟩:Act).eval o).run P w with
    |ok n w' =>
     rw [hr] at h;cases n with
     |value v=>rw [pb hr (by simp)]; exact next _ _ _ h
     |skip=>rw [pb hr (by simp)]; exact next _ _ _ h
     |defer d=>have:=pM hQ l _ _ h; rw [pL] at this; cases this
     |enter f args =>
      rw [pb hr (by simp)];refine ⟨fun e=>by simp [tB,Fence.wide] at e,?_⟩;have h2:Calls P f args w' fun e vZ=>match e with
        | .returned v=>wpOpsIn (tB ro) 0 P ops (fun e a w=>a.defers=df∧Q e ⟨a.tmps,[]⟩ w) l ((⟨t,df⟩:Act).put o.dst v) vZ
        | .panicked chain=>df=df∧Q (.panic chain) ⟨t,[]⟩ vZ
        | .outgrown=>LetsOut (fun e a w=>a.defers=df∧Q e ⟨a.tmps,[]⟩ w):=Calls.mono h (fun e vZ he=>by
       cases e with
       |returned v=>exact next _ _ _ he
       |panicked c=>have:=(hQ _ _ _ he).1; cases this
       |outgrown=>obtain ⟨a',w',he⟩:=he; have:=(hQ _ _ _ he).1; cases this)
      have h3:=callsIn_wide (n:=0).2 h2;refine ⟨trivial,fun cs jT=>?_⟩;obtain ⟨e,w2,fr,k1,k2,k3⟩:=h3.2 cs (room_wide _);refine ⟨e,w2,fr,?_,k2,k3⟩;cases e <;> exact k1
     |row cK args =>
      rw [pb hr (by simp)];refine ⟨fun e=>by simp [tB,Fence.wide] at e,fun c cs _=>?_⟩;obtain ⟨v,w2,k1,k2⟩:=h c cs;exact ⟨v,w2,next _ _ _ k1,stepsIn_wide.2 k2⟩
     |_=>exact h.elim
    |halt x w' =>
     rw [hr] at h;cases x with
     |panic v=>have:=(hQ _ _ _ h).1; cases this
     |_=>exact h.elim
   ·rw [if_neg hw] at h ⊢;exact ⟨fun _ _=>trivial,next _ _ _ h⟩
end
section
variable {E:Env} {ops:Array Oper} {af:FuncId} {R:cu} {s:List AV} {h:List ab} {lits:List Nat}
theorem AW.Nq {id:Nat} {k:List aH} (hm:E.P.follows .mixedOrders=true)
  (H:∀ (c:Cx) (t:Array Value) (Q:Exit→Act→World→Prop),(∀ (a:Act) (c':Cx) (s':List AV) (h':List ab),AW E R.fx.f0 ⟨⟨af,R.fx.cy,R.fx.aA⟩,k,s'⟩ R.fx.cls h' R→aC E.G c'→c'.heap=h'→a.defers=[]→VS c' s' a.tmps→Step c c'→Q .normal a c'.w)→aC E.G c→c.heap=h→VS c s t→wpAny E.P .any ops Q ops.size (Array.replicate ops.size false) ⟨t,[]⟩ c.w) :
  AW E R.fx.f0 ⟨⟨af,R.fx.cy,R.fx.aA⟩,.code (.region id ops true)::k,s⟩ R.fx.cls h R:=by
 unfold AW;intro c0 c t ts h0 h1 h2 h3 hr bE h4 h5 cs;have hx:Proofs.YtfmdaiojokniiaaGreatDoor.Ext c.w { c.w with drawn:=c.w.drawn+1 }:=⟨rfl,rfl,rfl,Nat.le_refl _,fun _ _=>rfl⟩;obtain ⟨g1,g2⟩:=h3.grow hx
 let Q:Exit→Act→World→Prop:=fun e a w=>(e = .normal∧a.defers=[])∧∃ (c':Cx) (s':List AV) (h':List ab),AW E R.fx.f0 ⟨⟨af,R.fx.cy,R.fx.aA⟩,k,s'⟩ R.fx.cls h' R∧aC E.G c'∧c'.heap=h'∧VS c' s' a.tmps∧Step c c'∧w=c'.w
 have Nr:(Code.region id ops true).wpIn (tB R.fx.cy) 0 E.P (fun e a w=>a.defers=marks R.fx.aA∧Q e ⟨a.tmps,[]⟩ w) ⟨t,marks R.fx.aA⟩ c.w:=by
  refine wpIn_region_draw fun tt=>?_;simp only [Region.schedule,hm,Bool.true_or,if_true];refine yB R.fx.cy (marks R.fx.aA) (fun e a w he=>he.1) _ t _ (wpAny_sound ops.size tt _ _ _ ?_);exact H (c.dL { c.w with drawn:=c.w.drawn+1 }) t Q (fun a c' s' h' hK r1 r2 r3 r4 r5=>⟨⟨rfl,r3⟩,c',s',h',hK,r1,r2,r4,g2.trans r5,rfl⟩) g1 h2 (g2.vs h4)
 obtain ⟨e,a',w',⟨hd,⟨⟨rfl,-⟩,c',s',h',hA,r1,r2,r4,r5,rfl⟩⟩,Ns⟩:=Nr (bf ⟨af,R.fx.cy,R.fx.aA⟩) (k.map aH.bA) (ev R.fx.cls ts++cs) rfl trivial (fun d hd=>by cases hd);unfold AW at hA;obtain ⟨c2,fr,r,v,q1,q2,q3,uS,q4,q5,q6⟩:=hA c0 c' a'.tmps ts h0 (dE h1) r2 r1 (hr.step r5) (bE.step h3 r5) r4 (r5.cr h5) cs;refine ⟨c2,fr,r,v,q1,q2,q3,uS,?_,q5,q6⟩;have Bq:a'=⟨a'.tmps,marks R.fx.aA⟩:=by cases a'; simp only at hd; subst hd; rfl
 have:Steps E.P (lone ((bf ⟨af,R.fx.cy,R.fx.aA⟩).atR ⟨t,marks R.fx.aA⟩ (.code (.region id ops true)::k.map aH.bA)) (ev R.fx.cls ts++cs) c.w) (lone ((bf ⟨af,R.fx.cy,R.fx.aA⟩).atR a' (k.map aH.bA)) (ev R.fx.cls ts++cs) c'.w):=StepsIn.steps Ns;rw [Bq] at this;exact this.trans q4
end
section
variable {E:Env} {ops:Array Oper} {J:List Nat} {h:List ab} {c:Cx}
theorem VS.v7 {s:List AV} {t:Array Value} {H:List ab} (hv:VS c s t) (hh:c.heap=H) (hs:∀ j∈J,H[j]? = h[j]?):VS (c.dN J) (s.map (eO J h)) t:=by
 subst hh;refine ⟨by rw [List.length_map]; exact hv.1,fun i x v hx hu=>?_⟩;rw [List.getElem?_map] at hx;cases hy:s[i]? with
 |none=>rw [hy] at hx; cases hx
 |some y =>
  rw [hy] at hx;cases hx;rw [← FH hs];exact Fu (hv.2 i y v hy hu)
structure Seen (J:List Nat) (h h1 H:List ab):Prop where
 nodup:J.Nodup
 lt:∀ j∈J,j<h.length
 len:h.length+(h1.length - J.length)≤H.length
 same:∀ j∈J,H[j]? = h[j]?
 new:∀ j∈dg J h h1,H[j]? = some .hole
theorem iw.v7 {o:Oper} {s:List AV} {H h1:List ab} {v:AV} (hw:ig ops o (dy (ew ops o) 0 s) true) (ho:bw E o.op ((dy (ew ops o) 0 s).map (eO J h)) (dH J h) v h1) (hs:Seen J h h1 H):iw E ops o s H (gz J h v) (eR (J++dg J h h1) (ee J h h1) H):=fun c a k1 h2 _ h4 j hj K Q hK=>by
 obtain ⟨c1,u,d1,rfl,k3,r1,st⟩:=ho o (c.dN J) a rfl (by rw [← Bw hs.same,← h2]; rfl) (k1.dN hs.nodup) (h4.v7 h2 hs.same);subst h2;have hb:js c c1 J h:=⟨hs.nodup,hs.lt,hs.len,hs.same,hs.new,(Rel.refl _ MF).step st,fun i b n hi=>(k3.bk i b n hi).2⟩;have:=hK (c.take c1 J h) u (k1.take k3 hb) rfl (x8 k1 hb) (Bt k1 hb r1);unfold wpOp;simp only [hj,hw c a.tmps h4,if_true];left;unfold Oper.wp;rcases d1 with d1 | ⟨d1,rfl⟩
 ·rw [show c.w=(c.dN J).w from rfl,d1]; exact this
 ·rw [show c.w=(c.dN J).w from rfl,d1]; exact this
theorem iw.B1 {o:Oper} {s:List AV} {H h1:List ab} {fx:Operand} {args:Array Operand} {ts:Array TypeId} {f:FuncId} {a1 a2 av:List AV} {r:AV} (hw:ig ops o (dy (ew ops o) 0 s) true) (ho:o.op = .call { callee := .value fx,args:=args,argTypes:=ts })
  (hf:aQ E.G (dy (ew ops o) 0 s) fx (.fn (.func f) a1 a2)) (ha:gS E.G (dy (ew ops o) 0 s) args.toList av) (hc:aq E f (dH J h) ((a1++av++a2).map (eO J h)) (fun a b=>a=r∧b=h1)) (hs:Seen J h h1 H):iw E ops o s H (gz J h r) (eR (J++dg J h h1) (ee J h h1) H):=fun c a k1 h2 _ h4 j hj K Q hK=>by
 unfold wpOp;simp only [hj,hw c a.tmps h4,if_true];left;obtain ⟨v1,v2,e1,e2,e3⟩:=jn (hf c a k1 h4);have e5:=(e2.append (ha c a k1 h4)).append e3;have hb:pf E.P f:=by unfold aq at hc; exact hc.1
 subst h2;have fB:=hc.ML (c:=c) hs.nodup hs.lt hs.same (fun r' h' ⟨_,q⟩=>by subst q; exact ⟨hs.len,hs.new⟩) k1 e5;have cn:=uQ (P:=E.P) (w:=c.w) (a:=a) ho e1 hb;have gq:(v1.toArray++args.map a.eval++v2.toArray)=(v1++args.toList.map a.eval++v2).toArray:=by
  apply Array.ext';simp
 rw [gq] at cn;unfold Oper.wp;rw [cn,Oper.upon_enter];refine fB.mono fun e w' he=>?_;obtain ⟨c',r',Fc,v,rfl,rfl,⟨rfl,rfl⟩,q1,q2,q3,q4⟩:=he;exact hK c' v q3 q1 q4 q2
def tC (x y:AV):Bool:=match y with
 | .any=>match x with
  | .any=>true
  |_=>false
 |_=>true
def v8 {β:Type} (f:β→Bool):List β→Bool
 | []=>true
 |a::l=>match f a with
  |true=>v8 f l
  |false=>false
theorem B2 {β:Type} {f:β→Bool}:∀ {l:List β},v8 f l=true→∀ x∈l,f x=true
 | [],_,_,h=>by simp at h
 |a::l,H,x,h=>by
  unfold v8 at H;split at H
  ·rename_i q;rcases List.mem_cons.1 h with rfl | h
   ·exact q
   ·exact B2 H x h
  ·cases H
def tD (J:List Nat) (h:List ab):Bool:=v8 (fun j=>match db h j with
 |some (.cells cs)=>v8 (fun x=>tC x (fo J h x)) cs
 |_=>true) J
theorem Nt {x:AV} (H:tC x (fo J h x)=true):iR J h (fo J h x)=x:=by
 have ri:∀ {j i:Nat},cI J j=some i→eQ J h i=j∧lD J h i=kE h j:=fun hi=>by simp only [eQ,lD,dA,iq hi,and_self]
 cases x;all_goals (try (simp only [fo] at H ⊢))
 all_goals first
  |rfl
  |(simp only [tC] at H; cases H; done)
  |(split at H
    · rename_i hi;split at H
      · rename_i hb;first
          | (split at H
             · rename_i q;have := Nat.eq_of_beq_eq_true q;simp only [iR, ri hi, kE, hb, this, Nat.add_zero]
             · simp only [tC] at H; cases H)
          | simp only [iR, ri hi]
      · simp only [tC] at H; cases H
    · simp only [tC] at H; cases H)
theorem Gs (hc:tD J h=true):ee J h (dH J h)=h:=by
 refine List.ext_getElem? fun j=>?_;rcases Nat.lt_or_ge j h.length with hl | hl
 ·cases hx:cI J j with
  |none=>exact Bn hl hx
  |some i =>
   have hj:h[j]? = some h[j]:=List.getElem?_eq_getElem hl;rw [Fq hl hx (pv (iq hx) hj),hj];have hq:=B2 hc j (List.mem_of_getElem? (iq hx));simp only [dA,hj] at hq;cases hb:h[j] with
   |cells cs =>
    rw [hb] at hq;have:(cs.map (fo J h)).map (iR J h)=cs:=by
     rw [List.map_map];exact (List.map_congr_left fun x hx=>Nt (B2 hq x hx)).trans (List.map_id _)
    simp only [ma,jU,this]
   |arr g ts l=>simp only [ma,jU,kE,dA,hj,hb,Nat.add_zero]
   |map es=>rfl
   |gone=>rfl
   |hole=>rfl
 ·rw [List.getElem?_eq_none hl,List.getElem?_eq_none (by rw [pt]; simp [dH]; exact hl)]
end
def jX (h:List ab) (b:Nat):Option ab:=if b<h.length then h[b]? else some .hole
structure ow (E:Env) (ops:Array Oper) (o:Oper) (s:List AV) (h:List ab) (v:AV) (h':List ab) (t w:List Nat):Prop where
 len:h.length≤h'.length
 old:∀ b,b<h.length→b ∉ w→h'[b]? = h[b]?
 new:∀ b,h.length≤b→b<h'.length→b∈w
 sub:∀ b∈w,b∈t
 lt:∀ b∈t,b<h'.length
 act:∀ H:List ab,h'.length≤H.length→(∀ b∈t,H[b]? = jX h b)→iw E ops o s H v (eR w h' H)
section
variable {E:Env} {ops:Array Oper} {o:Oper} {s:List AV} {h:List ab} {v:AV}
theorem ow.same {t:List Nat} (hl:∀ b∈t,b<h.length) (H:∀ H:List ab,h.length≤H.length→(∀ b∈t,H[b]? = h[b]?)→iw E ops o s H v H):ow E ops o s h v h t [] where
 len:=Nat.le_refl _
 old:=fun _ _ _=>rfl
 new:=fun b h1 h2=>by omega
 sub:=fun b h=>by simp at h
 lt:=hl
 act:=fun X h1 h2=>by
  rw [show eR [] h X=X from List.ext_getElem? fun j=>na (by simp)];exact H X h1 fun b hb=>by rw [h2 b hb,jX,if_pos (hl b hb)]
theorem Gt {J:List Nat} {h1 H:List ab} (hn:J.Nodup) (ah:∀ j∈J,j<h.length) (h2:(ee J h h1).length≤H.length) (h3:∀ b∈J++dg J h h1,H[b]? = jX h b):Seen J h h1 H :=
 ⟨hn,ah,by rwa [pt] at h2,fun j hj=>by rw [h3 j (List.mem_append_left _ hj),jX,if_pos (ah j hj)],fun j hj=>by rw [h3 j (List.mem_append_right _ hj),jX,if_neg (by have:=mb.1 hj; omega)]⟩
theorem ow.of {J:List Nat} {h1:List ab} (hn:J.Nodup) (ah:∀ j∈J,j<h.length) (H:∀ H,Seen J h h1 H→iw E ops o s H v (eR (J++dg J h h1) (ee J h h1) H)):ow E ops o s h v (ee J h h1) (J++dg J h h1) (J++dg J h h1) where
 len:=by rw [pt]; omega
 old:=fun b hb hm=>Bn hb (by
  cases hx:cI J b with
  |none=>rfl
  |some i=>exact absurd (List.mem_append_left _ (List.mem_of_getElem? (iq hx))) hm)
 new:=fun b h2 h3=>List.mem_append_right _ (mb.2 ⟨h2,by rwa [pt] at h3⟩)
 sub:=fun _ h=>h
 lt:=fun b hb=>by
  rw [pt];rcases List.mem_append.1 hb with h | h
  ·have:=ah b h; omega
  ·exact (mb.1 h).2
 act:=fun X h2 h3=>H X (Gt hn ah h2 h3)
theorem ow.read {J:List Nat} (hn:J.Nodup) (ah:∀ j∈J,j<h.length) (hc:tD J h=true) (H:∀ H,Seen J h (dH J h) H→iw E ops o s H v (eR (J++dg J h (dH J h)) (ee J h (dH J h)) H)):ow E ops o s h v h J []:=by
 have e:dg J h (dH J h)=[]:=by simp [dg,dH]
 refine .same ah fun X h1 h2=>?_;have:=H X (Gt hn ah (by rw [Gs hc]; exact h1) (fun b hb=>by rw [e,List.append_nil] at hb; rw [h2 b hb,jX,if_pos (ah b hb)]));rw [e,List.append_nil,Gs hc] at this
 rwa [show eR J h X=X from List.ext_getElem? fun j=>by
  by_cases hj:j∈J
  ·rw [vt hj (by have:=ah j hj; omega) (List.getElem?_eq_getElem (ah j hj)),h2 j hj,List.getElem?_eq_getElem (ah j hj)]
  ·exact na hj] at this
end
def mg:List Nat→List Nat→Bool
 | [],_=>false
 |a::l,m=>match qY a m with
  |true=>true
  |false=>mg l m
theorem yC:∀ {l m:List Nat},mg l m=true↔∃ b,b∈l∧b∈m
 | [],m=>by simp [mg]
 |a::l,m=>by
  simp only [mg];split
  ·rename_i q; simp [yf.1 q]
  ·rename_i q;rw [yC];have:a ∉ m:=fun h=>by rw [yf.2 h] at q; cases q
   simp [this]
abbrev fC:=List Nat × List Nat
def tE (a b:fC):Prop:=(∃ x,x∈a.2∧x∈b.1)∨∃ x,x∈b.2∧x∈a.1
def jY (j:Nat) (t w:List Nat):List (Nat × fC)→List (Nat × Nat)→List (Nat × Nat)
 | [],aL=>aL
 |(i,t',w')::r,aL=>match mg w' t with
  |true=>jY j t w r ((i,j)::aL)
  |false=>match mg w t' with
   |true=>jY j t w r ((i,j)::aL)
   |false=>jY j t w r aL
def dI (j:Nat) (t w:List Nat):List (Nat × fC)→List (Nat × Nat)→(List (Nat × Nat)→Prop)→Prop
 | [],aL,k=>k aL
 |(i,t',w')::r,aL,k=>match mg w' t with
  |true=>dI j t w r ((i,j)::aL) k
  |false=>match mg w t' with
   |true=>dI j t w r ((i,j)::aL) k
   |false=>dI j t w r aL k
theorem kL {j:Nat} {t w:List Nat}:∀ {acc:List (Nat × fC)} {aL:List (Nat × Nat)} {k:List (Nat × Nat)→Prop},dI j t w acc aL k=k (jY j t w acc aL)
 | [],_,_=>rfl
 |(i,t',w')::r,aL,k=>by
  simp only [dI,jY];split
  ·exact kL
  ·split <;> exact kL
theorem B3 {j:Nat} {t w:List Nat} {P:Nat→Nat→Prop}:∀ {acc:List (Nat × fC)} {aL:List (Nat × Nat)},(∀ p∈jY j t w acc aL,P p.1 p.2)→(∀ p∈aL,P p.1 p.2)∧∀ x∈acc,tE x.2 (t,w)→P x.1 j
 | [],aL,H=>⟨H,fun x hx=>by simp at hx⟩
 |(i,t',w')::r,aL,H=>by
  simp only [jY] at H;have yes:(∀ p∈jY j t w r ((i,j)::aL),P p.1 p.2)→(∀ p∈aL,P p.1 p.2)∧∀ x∈(i,t',w')::r,tE x.2 (t,w)→P x.1 j:=fun H=>by
   obtain ⟨h1,h2⟩:=B3 H;exact ⟨fun p hp=>h1 p (List.mem_cons_of_mem _ hp),fun x hx hc=>(List.mem_cons.1 hx).elim (fun e=>by subst e; exact h1 (i,j) (List.mem_cons_self ..)) fun h=>h2 x h hc⟩
  split at H
  ·exact yes H
  ·rename_i q1;split at H
   ·exact yes H
   ·rename_i q2;obtain ⟨h1,h2⟩:=B3 H;refine ⟨h1,fun x hx hc=>(List.mem_cons.1 hx).elim (fun e=>?_) fun h=>h2 x h hc⟩;subst e;rcases hc with hc | hc
    ·rw [yC.2 hc] at q1; cases q1
    ·rw [yC.2 hc] at q2; cases q2
def dh (j:Nat) (t w:List Nat) (acc:List (Nat × fC)):List (Nat × fC):=match t with
 | []=>acc
 |_::_=>(j,t,w)::acc
def fN (E:Env) (ops:Array Oper) (K:List AV→List ab→Prop):Nat→List Oper→List (Nat × fC)→List (Nat × Nat)→List AV→List ab→Prop
 |_,[],_,aL,s,h=>(∀ p∈aL,iv ops p.1 p.2)∧K s h
 |j,o::l,acc,aL,s,h=>∃ v h' t w,ow E ops o s h v h' t w∧fN E ops K (j+1) l (dh j t w acc) (jY j t w acc aL) (bX s o.dst v) h'
section
variable {E:Env} {ops:Array Oper}
theorem fN.lay {K:List AV→List ab→Prop}:∀ {l:List Oper} {j:Nat} {acc:List (Nat × fC)} {aL:List (Nat × Nat)} {s:List AV} {h:List ab},fN E ops K j l acc aL s h →
  ∃ (pl:List (Oper × AV)) (hp:Nat→List ab) (tw:Nat→fC),pl.map (·.1)=l∧hp 0=h∧K (cur pl (fun k=>decide (k<pl.length)) 0 s) (hp pl.length)∧(∀ p∈aL,iv ops p.1 p.2) ∧
   (∀ k o v,pl[k]? = some (o,v)→ow E ops o (cur pl (fun i=>decide (i<k)) 0 s) (hp k) v (hp (k+1)) (tw k).1 (tw k).2) ∧
   (∀ x∈acc,∀ k,k<pl.length→tE x.2 (tw k)→iv ops x.1 (j+k))∧(∀ i k,i<k→k<pl.length→tE (tw i) (tw k)→iv ops (j+i) (j+k))∧h.length≤(hp pl.length).length
 | [],j,acc,aL,s,h,H=>⟨[],fun _=>h,fun _=>([],[]),rfl,rfl,H.2,H.1,fun k o v hk=>by simp at hk,fun x _ k hk=>by simp at hk,fun i k _ hk=>by simp at hk,Nat.le_refl _⟩
 |o::l,j,acc,aL,s,h,H=>by
  obtain ⟨v,h',t,w,hf,H⟩:=H;obtain ⟨pl,hp,tw,k1,k2,k3,k4,k5,k6,k7,k9⟩:=fN.lay H;obtain ⟨k4,k8⟩:=B3 (P:=iv ops) k4;have shift:∀ (pl:List (Oper × AV)) (n:Nat) (s:List AV),cur pl (fun k=>decide (k<n+1)) (0+1) s=cur pl (fun k=>decide (k<n)) 0 s:=fun pl n s=>by
   rw [Gi 1]
   congr 1
   funext k;simp
  have mono:∀ x∈acc,x∈dh j t w acc:=fun x hx=>by unfold dh; split; exact hx; exact List.mem_cons_of_mem _ hx
  refine ⟨(o,v)::pl,fun n=>match n with | 0=>h | n+1=>hp n,fun n=>match n with | 0=>(t,w) | n+1=>tw n,by simp [k1],rfl,?_,k4,fun k o' v' hk=>?_,fun x hx k hk hc=>?_,fun i k eD hk hc=>?_,Nat.le_trans hf.len k9⟩
  ·rw [cur];simp only [List.length_cons,Nat.zero_lt_succ,decide_true,if_true];rw [shift];exact k3
  ·cases k with
   |zero =>
    simp at hk;obtain ⟨rfl,rfl⟩:=hk;rw [vY _ _ _ _ (fun k _=>decide_eq_false (by omega))];simp only [k2];exact hf
   |succ k =>
    have:=k5 k o' v' (by simpa using hk);rw [cur];simp only [Nat.zero_lt_succ,decide_true,if_true];rw [shift];exact this
  ·cases k with
   |zero=>exact k8 x hx hc
   |succ k=>have:=k6 x (mono x hx) k (by simpa using hk) hc; rwa [show j+1+k=j+(k+1) by omega] at this
  ·cases k with
   |zero=>omega
   |succ k =>
    have il:k<pl.length:=by simpa using hk
    cases i with
    |zero =>
     refine (?_:iv ops j (j+(k+1)));have hm:(j,t,w)∈dh j t w acc:=by
      unfold dh;split
      ·rcases hc with ⟨x,hx,-⟩ | ⟨x,-,hx⟩
       ·exact absurd (hf.sub x hx) (by simp)
       ·exact absurd hx (by simp)
      ·exact List.mem_cons_self ..
     have:=k6 _ hm k il hc
     rwa [show j+1+k=j+(k+1) by omega] at this
    |succ i=>have:=k7 i k (by omega) il hc; rwa [show j+1+i=j+(i+1) by omega,show j+1+k=j+(k+1) by omega] at this
def gC (w:Nat→List Nat) (hp:Nat→List ab) (L:Nat→Bool) (H:List ab):Nat→List ab
 | 0=>H
 |n+1=>if L n then eR (w n) (hp (n+1)) (gC w hp L H n) else gC w hp L H n
variable {w:Nat→List Nat} {hp:Nat→List ab} {L L':Nat→Bool} {H:List ab}
theorem wa:∀ n,(gC w hp L H n).length=H.length
 | 0=>rfl
 |n+1=>by
  rw [gC];split
  ·rw [Fs,wa n]
  ·exact wa n
theorem B4 {b:Nat}:∀ n,(∀ i,i<n→b∈w i→L i=L' i)→(gC w hp L H n)[b]? = (gC w hp L' H n)[b]?
 | 0,_=>rfl
 |n+1,h=>by
  have ih:=B4 n (fun i hi=>h i (by omega));rw [gC,gC];by_cases hb:b∈w n
  ·rw [h n (by omega) hb];split
   ·rw [oe,oe,ih]
   ·exact ih
  ·have e:∀ (q:Bool) (X:List ab),(if q then eR (w n) (hp (n+1)) X else X)[b]? = X[b]? := fun q X=>by
    cases q
    ·rfl
    ·exact na hb
   rw [e,e];exact ih
theorem B5 {j:Nat} (h:∀ i,j≤i→L i=false):∀ n,j≤n→gC w hp L H n=gC w hp L H j
 | 0,hn=>by rw [show j=0 by omega]
 |n+1,hn=>by
  rcases Nat.lt_or_ge n j with hl | hl
  ·rw [show j=n+1 by omega]
  ·rw [gC,h n hl];exact B5 h n hl
theorem Nu {a b:List Nat} {x y z:List ab} (h:∀ i∈a,i ∉ b):eR a x (eR b y z)=eR b y (eR a x z):=by
 refine List.ext_getElem? fun j=>?_;by_cases ha:j∈a
 ·rw [oe,na (h j ha),na (h j ha),oe]
 ·rw [na ha,oe,oe,na ha]
theorem Gu {j:Nat} (hj:L j=false) (dC:L' j=true) (ho:∀ i,i≠j→L' i=L i) (hc:∀ i,j<i→L i=true→∀ b∈w j,b ∉ w i):∀ n,j<n→eR (w j) (hp (j+1)) (gC w hp L H n)=gC w hp L' H n
 | 0,h=>by omega
 |n+1,h=>by
  rw [gC,gC];rcases Nat.lt_or_ge j n with hl | hl
  ·rw [ho n (by omega),← Gu hj dC ho hc n hl];split
   ·rename_i q; exact Nu (hc n hl q)
   ·rfl
  ·obtain rfl:j=n:=by omega
   rw [hj,dC];simp only [Bool.false_eq_true,if_false,if_true]
   congr 1
   exact List.ext_getElem? fun b=>B4 j fun i hi _=>(ho i (by omega)).symm
theorem B6 {t:Nat→List Nat} {m:Nat} (h0:∀ b,b<H.length→H[b]? = jX (hp 0) b) (hlen:∀ k,k<m→(hp k).length≤(hp (k+1)).length∧(∀ b,b<(hp k).length→b ∉ w k→(hp (k+1))[b]? = (hp k)[b]?)∧(∀ b,(hp k).length≤b→b<(hp (k+1)).length→b∈w k)∧(∀ b∈w k,b∈t k)∧∀ b∈t k,b<(hp (k+1)).length) (hL:∀ i,i<m→L i=true) :
  ∀ n,n≤m→∀ b,b<H.length→(gC w hp L H n)[b]? = jX (hp n) b
 | 0,_,b,hb=>h0 b hb
 |n+1,hn,b,hb=>by
  have ih:=B6 h0 hlen hL n (by omega) b hb;obtain ⟨h1,h2,h3,h4,h5⟩:=hlen n (by omega);rw [gC,hL n (by omega),if_pos rfl];by_cases hm:b∈w n
  ·have hl:=h5 b (h4 b hm);rw [vt hm (by rw [wa]; exact hb) (List.getElem?_eq_getElem hl),jX,if_pos hl,List.getElem?_eq_getElem hl]
  ·rw [na hm,ih];unfold jX;by_cases hl:b<(hp n).length
   ·rw [if_pos hl,if_pos (by omega),h2 b hl hm]
   ·rw [if_neg hl,if_neg (fun h=>hm (h3 b (by omega) h))]
theorem Nv (hc:BY ops) {s0:List AV} {pl:List (Oper × AV)} {hp:Nat→List ab} {tw:Nat→fC} (nW:pl.map (·.1)=ops.toList)
  (hx:∀ k o v,pl[k]? = some (o,v)→ow E ops o (cur pl (fun i=>decide (i<k)) 0 s0) (hp k) v (hp (k+1)) (tw k).1 (tw k).2) (dS:∀ i k,i<k→k<pl.length→tE (tw i) (tw k)→iv ops i k)
  {H:List ab} (hH:H.length=(hp pl.length).length) (h0:∀ b,b<H.length→H[b]? = jX (hp 0) b)
  {Q:Exit→Act→World→Prop} {Kf:List AV→List ab→Prop} {c0:Cx} (kv:Kf (cur pl (fun k=>decide (k<pl.length)) 0 s0) (hp pl.length))
  (hQ:∀ (a:Act) (c:Cx) (s:List AV) (h:List ab),Kf s h→aC E.G c→c.heap=h→a.defers=[]→VS c s a.tmps→Step c0 c→Q .normal a c.w) :
  ∀ (f:Nat) (listed:Array Bool) (a:Act) (c:Cx),aC E.G c→c.heap=gC (fun k=>(tw k).2) hp (cE listed) H ops.size→a.defers=[]→VS c (cur pl (cE listed) 0 s0) a.tmps→Step c0 c→DC ops listed →
   (∀ i,ops.size≤i→cE listed i=false)→kK (cE listed) ops.size≤f→wpAny E.P .any ops Q f listed a c.w:=by
 obtain ⟨hlen,mf⟩:=Nf nW;have Gv:∀ k,k<ops.size→∃ o v,pl[k]? = some (o,v):=fun k hk=>⟨(pl[k]'(by omega)).1,(pl[k]'(by omega)).2,by rw [List.getElem?_eq_getElem]⟩;have lF:∀ k,k<ops.size→(hp k).length≤(hp (k+1)).length∧(∀ b,b<(hp k).length→b ∉ (tw k).2→(hp (k+1))[b]? = (hp k)[b]?)∧(∀ b,(hp k).length≤b→b<(hp (k+1)).length→b∈(tw k).2)∧(∀ b∈(tw k).2,b∈(tw k).1)∧∀ b∈(tw k).1,b<(hp (k+1)).length:=fun k hk=>by
  obtain ⟨o,v,h⟩:=Gv k hk;have:=hx k o v h;exact ⟨this.len,this.old,this.new,this.sub,this.lt⟩
 have Nw:∀ n,n≤ops.size→∀ d,d≤n→(hp (n - d)).length≤(hp n).length:=by
  intro n hn d
  induction d with
  |zero=>intro _; exact Nat.le_refl _
  |succ d ih =>
   intro hd;have h1:=(lF (n - (d+1)) (by omega)).1;rw [show n - (d+1)+1=n - d by omega] at h1;exact Nat.le_trans h1 (ih (by omega))
 have hle:∀ k,k≤ops.size→(hp k).length≤H.length:=fun k hk=>by
  have:=Nw ops.size (Nat.le_refl _) (ops.size - k) (by omega);rw [show ops.size - (ops.size - k)=k by omega] at this;rw [hH,hlen];exact this
 have done:∀ (listed:Array Bool) (a:Act) (c:Cx),aC E.G c→c.heap=gC (fun k=>(tw k).2) hp (cE listed) H ops.size→a.defers=[]→VS c (cur pl (cE listed) 0 s0) a.tmps→Step c0 c→(∀ i,ops.size≤i→cE listed i=false)→(∀ i,i<ops.size→cE listed i=true)→Q .normal a c.w:=by
  intro listed a c h1 h2 h3 h4 h5 ho a7;have e:cur pl (cE listed) 0 s0=cur pl (fun k=>decide (k<pl.length)) 0 s0:=by
   congr 1
   funext i;rcases Nat.lt_or_ge i ops.size with h | h
   ·rw [a7 i h]; simp [hlen,h]
   ·rw [ho i h]; simp [hlen]; omega
  rw [e] at h4;refine hQ a c _ _ kv h1 (h2.trans ?_) h3 h4 h5;refine List.ext_getElem? fun b=>?_;rcases Nat.lt_or_ge b H.length with hb | hb
  ·rw [B6 h0 lF a7 ops.size (Nat.le_refl _) b hb,hlen,jX,if_pos (by rw [← hlen,← hH]; exact hb)]
  ·rw [List.getElem?_eq_none (by rw [wa]; exact hb),List.getElem?_eq_none (by omega)]
 intro f
 induction f with
 |zero =>
  intro listed a c h1 h2 h3 h4 h5 hd ho Gw;have a7:∀ i,i<ops.size→cE listed i=true:=fun i hi=>Ng Gw hi;refine ⟨?_,done listed a c h1 h2 h3 h4 h5 ho a7⟩;apply List.eq_nil_iff_forall_not_mem.2;intro i hi;obtain ⟨k1,k2⟩:=BZ hd hi;rw [a7 i k2] at k1;cases k1
 |succ f ih =>
  intro listed a c h1 h2 h3 h4 h5 hd ho Gw;refine ⟨fun hr=>?_,fun i hi=>?_⟩
  ·refine done listed a c h1 h2 h3 h4 h5 ho (fun i hi=>?_);cases hl:cE listed i with
   |true=>rfl
   |false =>
    obtain ⟨k,-,hk⟩:=Na hc hd hi hl;rw [hr] at hk;cases hk
  obtain ⟨pJ,ix⟩:=BZ hd hi;obtain ⟨o,v,rq⟩:=Gv i ix;have nZ:=mf i o v rq;obtain ⟨Nx,Ny⟩:=Nc hc.pair mf hd hi rq h4;have jW:=fun q=>Gl (i:=q) (show i<listed.size by rw [hd.1]; exact ix);have Nz:kK (cE (listed.setIfInBounds i true)) ops.size≤f:=by
   have:=(Gm (L:=cE listed) (L':=cE (listed.setIfInBounds i true)) (j:=i) (fun q hq=>by rw [jW]; simp [hq]) pJ (by rw [jW]; simp) ops.size).1 ix;omega
  have hF:=hx i o v rq;have later:∀ k,i<k→cE listed k=true→¬ tE (tw i) (tw k):=fun k hk hl ni=>by
   have x5:k<ops.size:=Nat.lt_of_not_le fun h=>by rw [ho k h] at hl; cases hl
   rw [hd.dep (dS i k hk (by omega) ni) hl] at pJ;cases pJ
  have agree:∀ b∈(tw i).1,(c.heap)[b]? = jX (hp i) b:=fun b hb=>by
   have eo:b<H.length:=Nat.lt_of_lt_of_le (hF.lt b hb) (hle (i+1) ix);rw [h2,← B6 (L:=fun k=>decide (k<i)) h0 (fun k hk=>lF k (by omega)) (fun k hk=>by simp [hk]) i (Nat.le_refl i) b eo,← B5 (L:=fun k=>decide (k<i)) (fun k hk=>by simp; omega) ops.size (Nat.le_of_lt ix)];refine B4 _ fun k hk hw=>?_;rcases Nat.lt_trichotomy k i with ah | rfl | qP
   ·rw [hd.ready hi (dS k i ah (by omega) (.inl ⟨b,hw,hb⟩))]; simp [ah]
   ·rw [pJ]; simp
   ·have:cE listed k=false:=by
     cases hl:cE listed k with
     |false=>rfl
     |true=>exact absurd (.inr ⟨b,hw,hb⟩) (later k qP hl)
    rw [this]; simp; omega
  refine hF.act c.heap (by rw [h2,wa]; exact hle (i+1) ix) agree c a h1 rfl h3 Ny i nZ _ _ (fun c' u k1 k2 k3 k4=>?_);refine ih _ _ c' k1 ?_ (by rw [pL]; exact h3) (Nx c' u (fun _ _=>k3.vr) k4) (h5.trans k3) (hd.set hi) (fun q hq=>by rw [jW,ho q hq]; simp; omega) Nz;rw [k2,h2];exact Gu (w:=fun k=>(tw k).2) pJ (by rw [jW]; simp) (fun q hq=>by rw [jW]; simp [hq]) (fun k hk hl b hb bT=>later k hk hl (.inr ⟨b,bT,hF.sub b hb⟩)) ops.size ix
end
@[irreducible] def bF (E : Env) (af : FuncId) (R : cu) (ops : Array Oper) (k : List aH) (MS : List Nat) (j : Nat) (eE : List Oper) (acc : List (Nat × fC)) (aL : List (Nat × Nat)) (s : List AV) (h : List ab) : Prop :=
 fN E ops (fun s2 h2=>I E af R [] k s2 h2) j eE acc aL s h
@[irreducible] def tF (E : Env) (f : FuncId) (h0 : List ab) (args : List AV) (K1 : AV → List ab → Prop) (K2 : AV → Prop) : Prop :=
 (∃ r h1,aq E f h0 args (fun a b=>a=r∧b=h1)∧K1 r h1)∨∃ r,aq E f h0 args (fun a b=>a=r∧b=h0)∧K2 r
theorem B7 {E:Env} {f:FuncId} {h0:List ab} {args:List AV} {K1:AV→List ab→Prop} {K2:AV→Prop} {r:AV} {h1:List ab} (H:aq E f h0 args (fun a b=>a=r∧b=h1)) (hk:K1 r h1):tF E f h0 args K1 K2:=by unfold tF; exact .inl ⟨r,h1,H,hk⟩
theorem iy {E:Env} {f:FuncId} {h0:List ab} {args:List AV} {K1:AV→List ab→Prop} {K2:AV→Prop} {r:AV} (H:aq E f h0 args (fun a b=>a=r∧b=h0)) (hk:K2 r):tF E f h0 args K1 K2:=by unfold tF; exact .inr ⟨r,H,hk⟩
def yD:Nat→Nat→(List Nat→Prop)→Prop
 |_,0,k=>k []
 |n,m+1,k=>yD (n+1) m fun l=>k (n::l)
theorem Gx:∀ {m n:Nat} {k:List Nat→Prop},yD n m k=k (List.range' n m)
 | 0,_,_=>rfl
 |m+1,n,k=>by rw [yD,Gx]; rfl
def iz (J:List Nat) (h h':List ab) (k:List Nat→Prop):Prop:=mc h 0 fun n=>mc h' 0 fun m=>yD n (m - n) fun l=>pz J l k
theorem ru {J:List Nat} {h h1:List ab} {k:List Nat→Prop}:iz J h (ee J h h1) k=k (J++dg J h h1):=by
 simp only [iz,qW,Nat.zero_add,Gx,s8,dg,pt,Nat.add_sub_cancel_left]
def wb (E:Env) (f:FuncId) (fM:List AV) (h:List ab) (stop:Prop) (k1:List Nat→AV→List ab→Prop) (k2:List Nat→AV→Prop):Prop :=
 om h fM [] fun vF=>pD h 20 0 vF fun J=>mc h 0 fun n=>match tc n J with
  |true=>vC J h fun h0=>gZ (vB J h) fM fun BF=>tF E f h0 BF (fun r h1=>eC J h r fun v=>hI J h h1 fun h'=>iz J h h' fun ws=>k1 ws v h') fun r=>tD J h=true∧eC J h r fun v=>k2 J v
  |false=>stop
theorem NA {E:Env} {f:FuncId} {fM:List AV} {h:List ab} {stop:Prop} {k1:List Nat→AV→List ab→Prop} {k2:List Nat→AV→Prop} (H:wb E f fM h stop k1 k2):stop∨∃ (J:List Nat),J.Nodup∧(∀ j∈J,j<h.length) ∧
  ((∃ r h1,aq E f (dH J h) (fM.map (eO J h)) (fun a b=>a=r∧b=h1)∧k1 (J++dg J h h1) (gz J h r) (ee J h h1))∨∃ r,aq E f (dH J h) (fM.map (eO J h)) (fun a b=>a=r∧b=dH J h)∧tD J h=true∧k2 J (gz J h r)):=by
 unfold wb at H;obtain ⟨s0,H⟩:=ra H;obtain ⟨J,H⟩:=tf H;rw [qW,Nat.zero_add] at H;split at H
 ·rename_i q;obtain ⟨h1,h2⟩:=yg q;rw [BD,nd (BA J h)] at H;unfold tF at H;refine .inr ⟨J,h1,h2,?_⟩;rcases H with ⟨r,hp,h3,h4⟩ | ⟨r,h3,h4,h5⟩
  ·rw [kF,oh,ru] at h4;exact .inl ⟨r,hp,h3,h4⟩
  ·rw [kF] at h5;exact .inr ⟨r,h3,h4,h5⟩
 ·exact .inl H
def we (s:List AV) (h:List ab):List Nat→List Nat→(List Nat→Prop)→Prop
 | [],J,k=>k J
 |d::l,J,k=>aI s d (we s h l J k) fun x=>om h [x] J fun kG=>we s h l kG k
theorem B8 {s:List AV} {h:List ab}:∀ {l:List Nat} {J:List Nat} {k:List Nat→Prop},we s h l J k→∃ l,k l
 | [],_,_,H=>⟨_,H⟩
 |_::_,_,_,H=>by
  simp only [we] at H;rcases aS H with H | ⟨x,-,H⟩
  ·exact B8 H
  ·obtain ⟨_,H⟩:=ra (l:=[x]) H;exact B8 H
def wg (J:List Nat) (h:List ab) (keep:List Nat):Nat→List AV→(List AV→Prop)→Prop
 |_,[],k=>k []
 |i,x::s,k=>match ir i keep with
  |true=>vB J h x fun y=>wg J h keep (i+1) s fun s'=>k (y::s')
  |false=>wg J h keep (i+1) s fun s'=>k (.any::s')
theorem B9 {J:List Nat} {h:List ab} {keep:List Nat}:∀ {i:Nat} {s:List AV} {k:List AV→Prop},wg J h keep i s k=k ((dy keep i s).map (eO J h))
 |_,[],_=>rfl
 |i,x::s,k=>by
  simp only [wg,dy,List.map_cons];split
  ·rw [BA,B9]
  ·rw [B9]; rfl
def wh (ops:Array Oper) (o:Oper) (s:List AV) (h:List ab) (stop:Prop) (k:List Nat→List AV→List ab→Prop):Prop :=
 we s h (ew ops o) [] fun vF=>pD h 20 0 vF fun J=>mc h 0 fun n=>match tc n J with
  |true=>wg J h (ew ops o) 0 s fun sC=>vC J h fun hC=>k J sC hC
  |false=>stop
theorem Gy {ops:Array Oper} {o:Oper} {s:List AV} {h:List ab} {stop:Prop} {k:List Nat→List AV→List ab→Prop} (H:wh ops o s h stop k):stop∨∃ J,J.Nodup∧(∀ j∈J,j<h.length)∧k J ((dy (ew ops o) 0 s).map (eO J h)) (dH J h):=by
 unfold wh at H;obtain ⟨s0,H⟩:=B8 H;obtain ⟨J,H⟩:=tf H;rw [qW,Nat.zero_add] at H;split at H
 ·rename_i q;obtain ⟨h1,h2⟩:=yg q;rw [B9,BD] at H;exact .inr ⟨J,h1,h2,H⟩
 ·exact .inl H
def Gz:Op→Bool
 | .call { callee := .value _,.. }=>true
 |_=>false
section
variable (E:Env) (af:FuncId) (R:cu) (ops:Array Oper) (k:List aH)
def iA:Nat→List Nat→Nat→List Oper→List (Nat × fC)→List (Nat × Nat)→List AV→List ab→Prop
 | 0,lits,j,eE,acc,aL,s,h=>bF E af R ops k lits j eE acc aL s h
 |m+1,lits,j,eE,acc,aL,s,h =>
  match eE with
  | []=>match aL with
   | []=>I E af R [] k s h
   |_::_=>Gg ops aL=true∧I E af R [] k s h
  |o::l =>
   let stop:Prop:=bF E af R ops k lits j eE acc aL s h
   let skip:Prop:=bY s o.dst (.d .undef) fun s'=>iA m lits (j+1) l acc aL s' h
   let go:Prop:=match Gz o.op with
    |true=>tA (ew ops o) 0 s fun so=>vI E.G so o stop fun f fM=>nQ fM
     (wb E f fM h stop (fun ws v h'=>dI j ws ws acc aL fun cb=>bY s o.dst v fun s'=>bF E af R ops k lits (j+1) l (dh j ws ws acc) cb s' h') fun J v=>dI j J [] acc aL fun cb=>bY s o.dst v fun s'=>bF E af R ops k lits (j+1) l (dh j J [] acc) cb s' h)
     fun ds=>pK E f ds h (fun v=>bY s o.dst (.d v) fun s'=>bF E af R ops k lits (j+1) l acc aL s' h) fun v h'=>iz [] h h' fun ws=>dI j ws ws acc aL fun cb=>bY s o.dst v fun s'=>bF E af R ops k lits (j+1) l (dh j ws ws acc) cb s' h'
    |false=>wh ops o s h stop fun J sC hC=>match ov o.op with
     |true=>match tD J h with
      |true=>jL E.T E.G o.op sC hC (ve E o.op sC (mY E o.op sC hC (vf E o.op sC hC stop fun x h1=>eC J h x fun v=>hI J h h1 fun h'=>iz J h h' fun ws=>dI j ws ws acc aL fun cb=>bY s o.dst v fun s'=>bF E af R ops k lits (j+1) l (dh j ws ws acc) cb s' h') fun x _=>eC J h x fun v=>dI j J [] acc aL fun cb=>bY s o.dst v fun s'=>bF E af R ops k lits (j+1) l (dh j J [] acc) cb s' h)
       fun x=>eC J h x fun v=>dI j J [] acc aL fun cb=>bY s o.dst v fun s'=>iA m lits (j+1) l (dh j J [] acc) cb s' h)
       fun x _=>eC J h x fun v=>dI j J [] acc aL fun cb=>bY s o.dst v fun s'=>iA m lits (j+1) l (dh j J [] acc) cb s' h
      |false=>stop
     |false=>jL E.T E.G o.op sC hC (vg E o.op sC hC (mY E o.op sC hC stop fun x h1=>eC J h x fun v=>hI J h h1 fun h'=>iz J h h' fun ws=>dI j ws ws acc aL fun cb=>bY s o.dst v fun s'=>bF E af R ops k lits (j+1) l (dh j ws ws acc) cb s' h')
      fun x h1=>eC J h x fun v=>hI J h h1 fun h'=>iz J h h' fun ws=>dI j ws ws acc aL fun cb=>bY s o.dst v fun s'=>iA m lits (j+1) l (dh j ws ws acc) cb s' h')
      fun x h1=>eC J h x fun v=>hI J h h1 fun h'=>iz J h h' fun ws=>dI j ws ws acc aL fun cb=>bY s o.dst v fun s'=>iA m lits (j+1) l (dh j ws ws acc) cb s' h'
   yk ops o.guard go stop fun d b=>aI s d stop fun
    | .d (.bool t)=>match ir d lits with
     |false=>kH t (fe s d (.d (.bool true)) fun s'=>bF E af R ops k (d::lits) j eE acc aL s' h) (fe s d (.d (.bool false)) fun s'=>bF E af R ops k (d::lits) j eE acc aL s' h)
     |true=>match FQ t b with
      |true=>go
      |false=>skip
    | .d .undef=>skip
    |_=>stop
end
section
variable {E:Env} {af:FuncId} {R:cu} {ops:Array Oper} {k:List aH} {lits:List Nat} {j:Nat} {eE:List Oper} {acc:List (Nat × fC)} {aL:List (Nat × Nat)} {s:List AV} {h:List ab}
theorem bF.is (H:bF E af R ops k lits j eE acc aL s h):bF E af R ops k lits j eE acc aL s h:=H
theorem bF.to (H:bF E af R ops k lits j eE acc aL s h):fN E ops (fun s2 h2=>I E af R [] k s2 h2) j eE acc aL s h:=by unfold bF at H; exact H
theorem GA:∀ {acc:List (Nat × fC)} {aL:List (Nat × Nat)},jY j [] [] acc aL=aL
 | [],_=>rfl
 |(i,t',w')::r,aL=>by
  have h1:mg w' []=false:=by
   cases q:mg w' [] with
   |false=>rfl
   |true=>obtain ⟨b,-,hb⟩:=yC.1 q; simp at hb
  simp only [jY,h1,mg];exact GA
theorem GB {keep:List Nat}:∀ {i d:Nat} {s:List AV},i+d∈keep→(dy keep i s)[d]? = s[d]?
 |_,_,[],_=>rfl
 |i,0,x::s,h=>by
  rw [Nat.add_zero] at h;simp only [dy,vX.2 h,List.getElem?_cons_zero]
 |i,d+1,x::s,h=>by
  simp only [dy,List.getElem?_cons_succ];exact GB (by rwa [show i+1+d=i+(d+1) by omega])
variable {o:Oper} {l:List Oper} {K:List AV→List ab→Prop}
theorem B' {v:AV} (hf:∀ H,iw E ops o s H v H) (H:fN E ops K (j+1) l acc aL (bX s o.dst v) h):fN E ops K j (o::l) acc aL s h :=
 ⟨v,h,[],[],.same (fun b hb=>by simp at hb) fun X _ _=>hf X,by rw [GA]; exact H⟩
theorem iw.any {v:AV} {H:List ab} (hw:ig ops o (dy (ew ops o) 0 s) true) (ho:bw E o.op (dy (ew ops o) 0 s) H v H):iw E ops o s H v H:=fun c a h1 h2 _ h4 j hj K Q hK=>by
 obtain ⟨c',u,k1,k2,k3,k4,k5⟩:=ho o c a rfl h2 h1 h4;unfold wpOp;simp only [hj,hw c a.tmps h4,if_true];left;have:=hK c' u k3 k2 k5 k4;unfold Oper.wp;rcases k1 with k1 | ⟨k1,rfl⟩
 ·rw [k1]; exact this
 ·rw [k1]; exact this
theorem GC (hE:E.OK):∀ (m:Nat) (lits:List Nat) (j:Nat) (eE:List Oper) (acc:List (Nat × fC)) (aL:List (Nat × Nat)) (s:List AV) (h:List ab),
  iA E af R ops k m lits j eE acc aL s h→fN E ops (fun s2 h2=>I E af R [] k s2 h2) j eE acc aL s h:=by
 intro m
 induction m with
 |zero=>intro lits j eE acc aL s h H; exact bF.to H
 |succ m ih =>
  intro lits j eE acc aL s h H;unfold iA at H;split at H
  ·split at H
   ·exact ⟨fun p hp=>by simp at hp,H⟩
   ·exact ⟨M8 H.1,H.2⟩
  rename_i o l;dsimp only at H;have skip:ig ops o (dy (ew ops o) 0 s) false→(bY s o.dst (.d .undef) fun s'=>iA E af R ops k m lits (j+1) l acc aL s' h)→fN E ops (fun s2 h2=>I E af R [] k s2 h2) j (o::l) acc aL s h:=fun hw H=>by
   rw [dF] at H;exact B' (fun X=>iw.skip hw) (ih _ _ _ _ _ _ _ H)
  generalize qV:(match Gz o.op with
    |true=>tA (ew ops o) 0 s fun so=>vI E.G so o (bF E af R ops k lits j (o::l) acc aL s h) fun f fM=>nQ fM
     (wb E f fM h (bF E af R ops k lits j (o::l) acc aL s h) (fun ws v h'=>dI j ws ws acc aL fun cb=>bY s o.dst v fun s'=>bF E af R ops k lits (j+1) l (dh j ws ws acc) cb s' h') fun J v=>dI j J [] acc aL fun cb=>bY s o.dst v fun s'=>bF E af R ops k lits (j+1) l (dh j J [] acc) cb s' h)
     fun ds=>pK E f ds h (fun v=>bY s o.dst (.d v) fun s'=>bF E af R ops k lits (j+1) l acc aL s' h) fun v h'=>iz [] h h' fun ws=>dI j ws ws acc aL fun cb=>bY s o.dst v fun s'=>bF E af R ops k lits (j+1) l (dh j ws ws acc) cb s' h'
    |false=>wh ops o s h (bF E af R ops k lits j (o::l) acc aL s h) fun J sC hC=>match ov o.op with
     |true=>match tD J h with
      |true=>jL E.T E.G o.op sC hC (ve E o.op sC (mY E o.op sC hC (vf E o.op sC hC (bF E af R ops k lits j (o::l) acc aL s h) fun x h1=>eC J h x fun v=>hI J h h1 fun h'=>iz J h h' fun ws=>dI j ws ws acc aL fun cb=>bY s o.dst v fun s'=>bF E af R ops k lits (j+1) l (dh j ws ws acc) cb s' h') fun x _=>eC J h x fun v=>dI j J [] acc aL fun cb=>bY s o.dst v fun s'=>bF E af R ops k lits (j+1) l (dh j J [] acc) cb s' h)
       fun x=>eC J h x fun v=>dI j J [] acc aL fun cb=>bY s o.dst v fun s'=>iA E af R ops k m lits (j+1) l (dh j J [] acc) cb s' h)
       fun x _=>eC J h x fun v=>dI j J [] acc aL fun cb=>bY s o.dst v fun s'=>iA E af R ops k m lits (j+1) l (dh j J [] acc) cb s' h
      |false=>bF E af R ops k lits j (o::l) acc aL s h
     |false=>jL E.T E.G o.op sC hC (vg E o.op sC hC (mY E o.op sC hC (bF E af R ops k lits j (o::l) acc aL s h) fun x h1=>eC J h x fun v=>hI J h h1 fun h'=>iz J h h' fun ws=>dI j ws ws acc aL fun cb=>bY s o.dst v fun s'=>bF E af R ops k lits (j+1) l (dh j ws ws acc) cb s' h')
      fun x h1=>eC J h x fun v=>hI J h h1 fun h'=>iz J h h' fun ws=>dI j ws ws acc aL fun cb=>bY s o.dst v fun s'=>iA E af R ops k m lits (j+1) l (dh j ws ws acc) cb s' h')
      fun x h1=>eC J h x fun v=>hI J h h1 fun h'=>iz J h h' fun ws=>dI j ws ws acc aL fun cb=>bY s o.dst v fun s'=>iA E af R ops k m lits (j+1) l (dh j ws ws acc) cb s' h')=NB at H
  have go:ig ops o (dy (ew ops o) 0 s) true→NB→fN E ops (fun s2 h2=>I E af R [] k s2 h2) j (o::l) acc aL s h:=by
   subst qV;intro hw H;split at H
   ·rw [Gr] at H;rcases FP H with H | ⟨fx,args,ts,f,a1,av,a2,bZ,hv,lE,H⟩
    ·exact bF.to H
    rcases uB (a1++av++a2) (wb E f (a1++av++a2) h (bF E af R ops k lits j (o::l) acc aL s h) (fun ws v h'=>dI j ws ws acc aL fun cb=>bY s o.dst v fun s'=>bF E af R ops k lits (j+1) l (dh j ws ws acc) cb s' h') fun J v=>dI j J [] acc aL fun cb=>bY s o.dst v fun s'=>bF E af R ops k lits (j+1) l (dh j J [] acc) cb s' h)
     (fun ds=>pK E f ds h (fun v=>bY s o.dst (.d v) fun s'=>bF E af R ops k lits (j+1) l acc aL s' h) fun v h'=>iz [] h h' fun ws=>dI j ws ws acc aL fun cb=>bY s o.dst v fun s'=>bF E af R ops k lits (j+1) l (dh j ws ws acc) cb s' h') with ⟨ds,e1,e2⟩ | e2
    ·rw [e2] at H;unfold pK at H;rcases H with ⟨r,hc,hk⟩ | ⟨r,h1,hc,hk⟩
     ·rw [dF] at hk;exact B' (fun X=>iw.call hw bZ hv lE e1 hc) hk.to
     ·rw [ru,kL,dF] at hk;have e3:(a1++av++a2).map (eO [] h)=ds.map .d:=by rw [e1,List.map_map]; rfl
      exact ⟨_,_,_,_,.of List.nodup_nil (fun j hj=>by simp at hj) fun X hs => .B1 hw bZ hv lE (by rw [e3]; exact hc) hs,hk.to⟩
    ·rw [e2] at H;rcases NA H with H | ⟨J,hn,ah,⟨r,h1,hc,hk⟩ | ⟨r,hc,dS,hk⟩⟩
     ·exact bF.to H
     ·rw [kL,dF] at hk;exact ⟨_,_,_,_,.of hn ah fun X hs => .B1 hw bZ hv lE hc hs,hk.to⟩
     ·rw [kL,dF] at hk;exact ⟨_,_,_,_,.read hn ah dS fun X hs => .B1 hw bZ hv lE hc hs,hk.to⟩
   ·rcases Gy H with H | ⟨J,hn,ah,H⟩
    ·exact bF.to H
    have yE:∀ x h1,bw E o.op ((dy (ew ops o) 0 s).map (eO J h)) (dH J h) x h1→fN E ops (fun s2 h2=>I E af R [] k s2 h2) (j+1) l (dh j (J++dg J h h1) (J++dg J h h1) acc) (jY j (J++dg J h h1) (J++dg J h h1) acc aL) (bX s o.dst (gz J h x)) (ee J h h1)→fN E ops (fun s2 h2=>I E af R [] k s2 h2) j (o::l) acc aL s h :=
      fun x h1 ho H=>⟨_,_,_,_,.of hn ah fun X hs => .v7 hw ho hs,H⟩
    split at H
    ·rename_i aV;split at H
     ·rename_i dS;have fin:∀ x,bw E o.op ((dy (ew ops o) 0 s).map (eO J h)) (dH J h) x (dH J h)→fN E ops (fun s2 h2=>I E af R [] k s2 h2) (j+1) l (dh j J [] acc) (jY j J [] acc aL) (bX s o.dst (gz J h x)) h→fN E ops (fun s2 h2=>I E af R [] k s2 h2) j (o::l) acc aL s h :=
       fun x ho H=>⟨_,_,_,_,.read hn ah dS fun X hs => .v7 hw ho hs,H⟩
      rcases AB hE (Nj (K:=fun x=>eC J h x fun v=>dI j J [] acc aL fun cb=>bY s o.dst v fun s'=>iA E af R ops k m lits (j+1) l (dh j J [] acc) cb s' h) aV H) with H | ⟨x,h',⟨rfl,H⟩,ho⟩
      ·rcases Fb hE H with H | ⟨x,H,ho⟩
       case inr =>
        rw [kF,kL,dF] at H;exact fin x (ho _) (ih _ _ _ _ _ _ _ H)
       rcases Bk hE (Nn (K:=fun x=>eC J h x fun v=>dI j J [] acc aL fun cb=>bY s o.dst v fun s'=>bF E af R ops k lits (j+1) l (dh j J [] acc) cb s' h) aV H) with H | ⟨x,h',⟨rfl,H⟩,ho⟩
       ·rcases Fe hE H with H | ⟨x,h1,H,ho⟩
        ·exact bF.to H
        ·rw [kF,oh,ru,kL,dF] at H;exact yE x h1 ho H.to
       ·rw [kF,kL,dF] at H;exact fin x ho H.to
      ·rw [kF,kL,dF] at H;exact fin x ho (ih _ _ _ _ _ _ _ H)
     ·exact bF.to H
    ·rcases AB hE H with H | ⟨x,h1,H,ho⟩
     ·rcases Ff hE H with H | ⟨x,h1,H,ho⟩
      case inr =>
       rw [kF,oh,ru,kL,dF] at H;exact yE x h1 ho (ih _ _ _ _ _ _ _ H)
      rcases Bk hE H with H | ⟨x,h1,H,ho⟩
      ·exact bF.to H
      ·rw [kF,oh,ru,kL,dF] at H;exact yE x h1 ho H.to
     ·rw [kF,oh,ru,kL,dF] at H;exact yE x h1 ho (ih _ _ _ _ _ _ _ H)
  unfold yk at H;split at H
  ·rename_i hg;exact go (fA hg) H
  ·rename_i jj b hg;rcases aS H with H | ⟨oj,tg,H⟩
   ·exact bF.to H
   split at H
   ·rename_i d hd;rcases aS H with H | ⟨x,hx,H⟩
    ·exact bF.to H
    have hm:(dy (ew ops o) 0 s)[d]? = some x:=by
     rw [GB,hx];rw [Nat.zero_add];refine List.mem_append_right _ ?_;have:ops[jj]? = some oj:=by simpa using tg
     simp [Ge,hg,this,hd]
    split at H
    ·rename_i t;split at H
     ·refine BG H (fun e H2=>?_) (fun e H2=>?_)
      ·subst e;rw [fK,vL hx] at H2;exact bF.to H2
      ·subst e;rw [fK,vL hx] at H2;exact bF.to H2
     ·have hw:=AH hg tg hd hm;split at H
      ·rename_i q;have:(t==b)=true:=by cases t <;> cases b <;> first | rfl | cases q
       rw [this] at hw;exact go hw H
      ·rename_i q;have:(t==b)=false:=by cases t <;> cases b <;> first | rfl | cases q
       rw [this] at hw;exact skip hw H
    ·exact skip (EI hg tg hd hm) H
    ·exact bF.to H
   ·exact bF.to H
theorem bF.run (hE:E.OK) (m:Nat) (H:iA E af R ops k m lits j eE acc aL s h):bF E af R ops k lits j eE acc aL s h:=by unfold bF; exact GC hE m lits j eE acc aL s h H
@[irreducible] def jx (E : Env) (af : FuncId) (R : cu) (ops : Array Oper) (k : List aH) (lits : List Nat) (j : Nat) (o : Oper) (l : List Oper) (acc : List (Nat × fC)) (aL : List (Nat × Nat)) (s : List AV) (h : List ab) (J : List Nat) (sC : List AV) (hC : List ab) : Prop :=
 ∃ x h1,bw E o.op sC hC x h1∧fN E ops (fun s2 h2=>I E af R [] k s2 h2) (j+1) l (dh j (J++dg J h h1) (J++dg J h h1) acc) (jY j (J++dg J h h1) (J++dg J h h1) acc aL) (bX s o.dst (gz J h x)) (ee J h h1)
theorem bF.at (hg:o.guard=none) (H:wh ops o s h False fun J sC hC=>jx E af R ops k lits j o l acc aL s h J sC hC):bF E af R ops k lits j (o::l) acc aL s h:=by
 unfold bF;rcases Gy H with H | ⟨J,hn,ah,H⟩
 ·exact H.elim
 unfold jx at H;obtain ⟨x,h1,ho,H⟩:=H;exact ⟨_,_,_,_,.of hn ah fun X hs => .v7 (fA hg) ho hs,H⟩
theorem jx.op {J:List Nat} {sC:List AV} {hC h1:List ab} {x:AV} (ho:bw E o.op sC hC x h1) (H:eC J h x fun v=>hI J h h1 fun h'=>iz J h h' fun ws=>dI j ws ws acc aL fun cb=>bY s o.dst v fun s'=>bF E af R ops k lits (j+1) l (dh j ws ws acc) cb s' h'):jx E af R ops k lits j o l acc aL s h J sC hC:=by
 unfold jx;rw [kF,oh,ru,kL,dF] at H;exact ⟨x,h1,ho,H.to⟩
theorem bF.pure {v:AV} (hg:o.guard=none) (ho:∀ H,bw E o.op (dy (ew ops o) 0 s) H v H) (H:bY s o.dst v fun s'=>bF E af R ops k lits (j+1) l acc aL s' h):bF E af R ops k lits j (o::l) acc aL s h:=by
 rw [dF] at H;unfold bF;exact B' (fun X => .any (fA hg) (ho X)) H.to
theorem fN.conv {K K':List AV→List ab→Prop} (hk:∀ s h,K s h→K' s h):∀ {l:List Oper} {j:Nat} {acc:List (Nat × fC)} {aL:List (Nat × Nat)} {s:List AV} {h:List ab},fN E ops K j l acc aL s h→fN E ops K' j l acc aL s h
 | [],_,_,_,_,_,H=>⟨H.1,hk _ _ H.2⟩
 |_::_,_,_,_,_,_,H=>by
  obtain ⟨v,h',t,w,hf,H⟩:=H;exact ⟨v,h',t,w,hf,H.conv hk⟩
theorem I.bU (hE:E.OK) (hm:E.P.follows .mixedOrders=true) (m:Nat) {id:Nat} (NC:Gf ops=true) (H:iA E af R ops k m [] 0 ops.toList [] [] s h):I E af R lits (.code (.region id ops true)::k) s h:=by
 obtain ⟨pl,hp,tw,p1,p2,p3,-,p5,-,p7,p8⟩:=fN.lay (fN.conv (fun s2 h2=>I.to) (GC hE m _ _ _ _ _ _ _ H));refine .of (AW.Nq hm fun c t Q hQ h1 h2 h4=>?_);subst h2;have hn:(c.pad ((hp pl.length).length - c.heap.length)).heap.length=(hp pl.length).length:=by
  show (c.heap++_).length=_;rw [List.length_append,List.length_replicate];omega
 refine Nv (M7 NC) p1 p5 (fun i k h1 h2 h3=>by simpa using p7 i k h1 h2 h3) hn (fun b hb=>?_) p3 hQ ops.size _ ⟨t,[]⟩ (c.pad ((hp pl.length).length - c.heap.length)) (h1.pad _) (B5 (j:=0) (fun i _=>yA _ i) ops.size (Nat.zero_le _)).symm rfl ?_ (ya h1 _) ⟨by simp,fun j o e _ hl=>by rw [yA] at hl; cases hl⟩ (fun i _=>yA _ i) (Nh _ _)
 ·rw [p2];unfold jX;split
  ·rename_i hl; rw [x9 (List.getElem?_eq_getElem hl),List.getElem?_eq_getElem hl]
  ·exact Bx (by omega) (by rw [hn] at hb; omega)
 ·rw [vY _ 0 s _ (fun i _=>yA _ _)];exact (ya h1 _).vs h4
end
end Go.aw
end
section
namespace Go.aw
open Go Go.RowKit
section
variable {E:Env} {s:List AV} {h:List ab} {c:Cx} {G:List (Nat × DV)}
theorem GD (hE:E.OK) {t e len:Nat} {i ei:bh} (hi:E.T[t]? = some i) (bL:E.T[e]? = some ei) (hk:i.k = .slice e) {parts:Array (Nat × Operand)} {ps:List (Nat × AV)} (fz:uJ E.G s parts.toList ps)
  (hz:ei.zero.length=ei.size) (cB:0<ei.size) (hlen:0<len) (xO:len*ei.size≤16777216) {z:DV} (qz:z.cells=ei.zero) (gT:∀ y∈ei.zero,y.ek=true) {stop:Prop} {k:List DV→Prop} (H:l3 ei.size ps (List.replicate len z) stop k) :
  stop∨∃ l,k l∧bw E (.buildSlice t len parts) s h (.own h.length 0) (h++[.arr 0 (e,ei.size) l]):=by
 have dB:fW ei.size (List.replicate len z):=fun j e' h'=>by
  rw [List.getElem?_replicate] at h';split at h'
  ·cases h'; rw [qz,hz]
  ·cases h'
 have gj:mQ (List.replicate len z):=fun j e' h'=>by
  rw [List.getElem?_replicate] at h';split at h'
  ·cases h'; rw [qz]; exact gT
  ·cases h'
 rcases AA dB gj H with h' | ⟨l,h1,h2,gU,h3,h4⟩
 ·exact .inl h'
 refine .inr ⟨l,h1,fun o c ac e1 e2 e3 e4=>?_⟩;subst e2;obtain ⟨ti,zv,g1,g2,g3,g4⟩:=zeroOf (hE.types e ei bL) hz cB;obtain ⟨zs,uL,gh⟩:=g4 c;obtain ⟨p1,p2⟩:=fz c ac e3 e4;have jQ:zs.length=ei.size:=by rw [← gh.1]; simpa using hz
 have uM:VL c ((flat (List.replicate len z)).map .d) ((Array.range (len*ti.size)).map (zv.cells[· % zv.cells.size]!)).toList:=by
  refine .qx (by rw [lp dB]; simp [g3]) (fun j x v hx hv=>?_);have hj:j<len*ei.size:=by
   have:=lp dB;rw [List.length_replicate] at this;rw [← this];rcases Nat.lt_or_ge j (flat (List.replicate len z)).length with h | h
   ·exact h
   ·rw [List.getElem?_eq_none h] at hx; cases hx
  have hd:j / ei.size<len:=Nat.div_lt_of_lt_mul (by rw [Nat.mul_comm]; exact hj);have hm:j % ei.size<ei.size:=Nat.mod_lt _ cB;have h5:=flat_get dB (i:=j / ei.size) (j:=j % ei.size) (e:=z) (by simp [hd]) hm;rw [Nat.mul_comm,Nat.div_add_mod,hx,qz] at h5;have eA:v=zs[j % ei.size]'(by omega):=by
   have dC:j<len*ti.size:=by rw [← g3]; exact hj
   simp [dC,uL,jQ] at hv;rw [← hv];simp [jQ,hm]
  rw [eA];exact gh.mN (j % ei.size) x _ h5.symm (by simp [jQ,hm])
 obtain ⟨vs',f1,f2⟩:=h4 c _ _ uM p2;obtain ⟨uN,d,q1,q2,q3,-⟩:=cg (hE.types t i hi);obtain rfl:=jO (hk.symm.trans q3);have eq:(parts.map fun (i,x)=>(i,ac.eval x)).toList=(ps.map (·.1)).zip (parts.toList.map fun p=>ac.eval p.2):=by
  rw [p1,Array.toList_map];generalize parts.toList=q
  induction q with
  |nil=>rfl
  |cons a q ih=>simp only [List.map_cons,List.zip_cons_cons,ih]
 have qA:Instr.fill (fun i=>some (i*ti.size,ti.size)) ((Array.range (len*ti.size)).map (zv.cells[· % zv.cells.size]!)) (parts.map fun (i,x)=>(i,ac.eval x)).toList=some vs'.toArray:=by
  rw [eq,← f1,g3]
 have cn:=run_buildSlice (P:=E.P) c.w t e len (parts.map fun (i,x)=>(i,ac.eval x)) vs'.toArray ti zv q2 g1 g2 (by rw [← g3]; omega) (by rw [← g3]; have:=Nat.mul_pos hlen cB; omega) qA;have qB:l.length=len:=by rw [h3]; simp
 obtain ⟨k1,k2⟩:=e3.add (.arr 0 (e,ei.size) l) len (.cells vs'.toArray e);have bz:(c.add (.arr 0 (e,ei.size) l) len (.cells vs'.toArray e)).own c.heap.length=some (c.w.heap.size,len):=by simp [Cx.add]
 have kA:(c.add (.arr 0 (e,ei.size) l) len (.cells vs'.toArray e)).heap[c.heap.length]? = some (.arr 0 (e,ei.size) l):=by simp [Cx.add]
 have bK:vs'.length=len*ei.size:=by
  have:=f2.1;simp only [List.length_map] at this;rw [← this,lp h2,qB]
 have cM:ia (c.add (.arr 0 (e,ei.size) l) len (.cells vs'.toArray e)) c.heap.length (.arr 0 (e,ei.size) l):=by
  refine ⟨cB,h2,.inr ⟨c.w.heap.size,len,vs'.toArray,bz,heap_alloc_new _ _,by simpa using bK,by omega,by unfold maxLen; have:=Nat.le_mul_of_pos_right len cB; omega,fun i j e' x he hx=>?_⟩⟩;have hj:j<ei.size:=by
   have:=aP hx;rw [h2 i e' he] at this;exact this
  have hf:=flat_get h2 he hj;rw [hx] at hf;have ah:i*ei.size+j<vs'.length:=by
   have:=f2.1;simp only [List.length_map] at this;rw [← this];exact aP hf
  refine ⟨vs'[i*ei.size+j],by simp [ah],uE (f2.mN _ x _ hf (by simp [ah])) (gU i e' he x (List.mem_of_getElem? hx)),k1.vd (f2.mN _ x _ hf (by simp [ah]))⟩
 refine ⟨_,.slice (some ⟨c.w.heap.size,0,none⟩) len len,.inl (by simp only [execOp,e1,Sem.run_bind,cn,Result.andThen_ok,Sem.run_pure]; rfl),rfl,k2 cM,?_,k1⟩;have:=VR.own (c:=c.add (.arr 0 (e,ei.size) l) len (.cells vs'.toArray e)) c.heap.length 0 (e,ei.size) l c.w.heap.size len kA bz;rw [qB] at this;exact this
def yF (E:Env) (o:Op) (s:List AV) (h:List ab) (stop:Prop) (k:AV→List ab→Prop):Prop :=
 match o with
 | .buildSlice t len parts=>aI E.T t stop fun i=>match i.k with
  | .slice e=>aI E.T e stop fun ei=>match Nat.beq ei.zero.length ei.size,Nat.blt 0 ei.size,Nat.blt 0 len,Nat.ble (len*ei.size) 16777216,ei.zero.all DV.ek with
   |true,true,true,true,true=>qv E.G s parts.toList stop fun ps =>
    match ei.zero with
    | [z]=>qu len z fun zs=>l3 ei.size ps zs stop fun l=>lg h (.arr 0 (e,ei.size) l) 0 fun h' n=>k (.own n 0) h'
    |zl=>qu len (.agg zl) fun zs=>l3 ei.size ps zs stop fun l=>lg h (.arr 0 (e,ei.size) l) 0 fun h' n=>k (.own n 0) h'
   |_,_,_,_,_=>stop
  |_=>stop
 |_=>stop
theorem GF (hE:E.OK) {o:Op} {stop:Prop} {k:AV→List ab→Prop} (H:yF E o s h stop k):stop∨∃ v h',k v h'∧bw E o s h v h':=by
 unfold yF at H;split at H
 ·rcases aS H with h | ⟨i,hi,H⟩
  ·exact .inl h
  split at H
  ·rename_i e hk;rcases aS H with h | ⟨ei,bL,H⟩
   ·exact .inl h
   split at H
   ·rename_i q1 q2 q3 q4 q5;rcases uK H with h | ⟨ps,fz,H⟩
    ·exact .inl h
    simp only [o3,Nat.zero_add] at H;split at H
    ·rename_i z jl;rw [xN] at H;have gT:z.ek=true:=by rw [jl] at q5; simpa using q5
     rcases GD hE hi bL hk fz (Nat.eq_of_beq_eq_true q1) (fX q2) (fX q3) (Nat.le_of_ble_eq_true q4) (z:=z) (by rw [jl]; cases z <;> first | rfl | cases gT) (fun y hy=>List.all_eq_true.1 q5 y hy) H with h | ⟨l,H,hl⟩
     ·exact .inl h
     exact .inr ⟨_,_,H,hl⟩
    ·rw [xN] at H;rcases GD hE hi bL hk fz (Nat.eq_of_beq_eq_true q1) (fX q2) (fX q3) (Nat.le_of_ble_eq_true q4) (z := .agg ei.zero) rfl (fun y hy=>List.all_eq_true.1 q5 y hy) H with h | ⟨l,H,hl⟩
     ·exact .inl h
     exact .inr ⟨_,_,H,hl⟩
   ·exact .inl H
  ·exact .inl H
 ·exact .inl H
theorem I.ox (hE:E.OK) {af:FuncId} {R:cu} {lits:List Nat} {ops:Array Oper} {o:Oper} {l:List Oper} {r:List aH} (hg:o.guard=none)
  (H:yF E o.op s h False fun v h'=>bY s o.dst v fun s'=>I E af R lits (.a8 ops l::r) s' h'):I E af R lits (.a8 ops (o::l)::r) s h:=by
 rcases GF hE H with h | ⟨v,h',H,ho⟩
 ·exact h.elim
 ·rw [dF] at H;exact .of (.op (fA hg) ho H.to)
end
mutual
def norm:DV→DV
 | .aD => .sl []
 | .agg c => .agg (rv c)
 | .az c => .az (rv c)
 |x=>x
def rv:List DV→List DV
 | []=>[]
 |x::l=>norm x::rv l
end
theorem Ca:∀ (l:List DV),rv l=l.map norm
 | []=>rfl
 |x::l=>by rw [rv,Ca l]; rfl
theorem GG {bad:Nat→Prop} {w:World} {x:DV} {v:Value} (h:VD bad w x v):VD bad w (norm x) v:=by
 induction h with
 |aD=>exact .slnil
 |agg c vs hlen bH ih =>
  rw [norm,Ca];refine .agg _ _ (by simpa using hlen) fun j y v hy hv=>?_;rw [List.getElem?_map] at hy;cases hc:c[j]? with
  |none=>rw [hc] at hy; cases hy
  |some z=>rw [hc] at hy; cases hy; exact ih j z v hc hv
 |az c vs hlen bH ih =>
  rw [norm,Ca];refine .az _ _ (by simpa using hlen) fun j y v hy hv=>?_;rw [List.getElem?_map] at hy;cases hc:c[j]? with
  |none=>rw [hc] at hy; cases hy
  |some z=>rw [hc] at hy; cases hy; exact ih j z v hc hv
 |undef=>exact .undef
 |bool b=>exact .bool b
 |int k n=>exact .int k n
 |str l=>exact .str l
 |slnil=>exact .slnil
 |ji a=>exact .ji a
 |sl l blk off cap sz f hb bK hX hlen cT bH cd ih=>exact .sl l blk off cap sz f hb bK hX hlen cT bH cd
 |du=>exact .du
 |ao=>exact .ao
 |gP=>exact .gP
 |lY=>exact .lY
 |fn f=>exact .fn f
 |raw v h=>exact .raw v h
theorem au.norm {E:Env} {f:FuncId} {args:List DV} {y:DV} (H:au E f args (fun r=>aw.norm r=y)):au E f args (· = y):=by
 unfold au at H ⊢;exact ⟨H.1,fun ax w vs h1 h2 h3=>(H.2 ax w vs h1 h2 h3).mono fun e w' ⟨v,r,k1,k2,k3,k4⟩=>⟨v,y,k1,rfl,k2 ▸ GG k3,k4⟩⟩
end Go.aw
end
section
namespace Go.aw
open Go Go.RowKit
def cZ (n:Nat) (B:List Nat) (i:Nat):Bool:=match Nat.ble n i with
 |true=>true
 |false=>ir i B
def iU (n:Nat) (B:List Nat):Nat→List ab→List ab
 |_,[]=>[]
 |i,b::r=>match Nat.ble n i with
  |true=>[]
  |false=>(match ir i B with | true => .gone | false=>b)::iU n B (i+1) r
theorem tG {n:Nat} {B:List Nat}:∀ (i k:Nat) (h:List ab),cZ n B (i+k)=false→(iU n B i h)[k]? = h[k]?
 |_,_,[],_=>rfl
 |i,0,b::r,hh=>by
  simp only [cZ,Nat.add_zero] at hh;split at hh
  ·cases hh
  ·rename_i q; simp only [iU,q,hh]; rfl
 |i,k+1,b::r,hh=>by
  have hn:Nat.ble n i=false:=by
   cases q:Nat.ble n i with
   |false=>rfl
   |true =>
    have h1:=Nat.le_of_ble_eq_true q;have h2:Nat.ble n (i+(k+1))=true:=Nat.ble_eq_true_of_le (by omega);simp only [cZ,h2] at hh;cases hh
  simp only [iU,hn,List.getElem?_cons_succ];exact tG (i+1) k r (by rwa [show i+1+k=i+(k+1) by omega])
theorem GH {n:Nat} {B:List Nat}:∀ (i k:Nat) (h:List ab) (b:ab),cZ n B (i+k)=true→(iU n B i h)[k]? = some b→b = .gone
 |_,_,[],_,_,h=>by simp [iU] at h
 |i,k,b'::r,b,hh,h=>by
  simp only [iU] at h;split at h
  ·simp at h
  ·rename_i q;cases k with
   |zero =>
    simp only [cZ,Nat.add_zero,q] at hh;simp only [hh,List.getElem?_cons_zero,Option.some.injEq] at h;exact h.symm
   |succ k=>exact GH (i+1) k r b (by rwa [show i+1+k=i+(k+1) by omega]) (by simpa using h)
def eU (n:Nat) (B:List Nat):AV→Bool
 | .any=>true
 | .d _=>true
 | .bD _ _=>true
 | .own b _=>match cZ n B b with | true=>false | false=>true
 | .ptr b _=>match cZ n B b with | true=>false | false=>true
 | .cA b _ _ _=>match cZ n B b with | true=>false | false=>true
 | .cut b _ _ _=>match cZ n B b with | true=>false | false=>true
 | .map b=>match cZ n B b with | true=>false | false=>true
 |_=>false
def nj {β:Type} (f:β→Bool):List β→Bool
 | []=>true
 |a::l=>match f a with
  |true=>nj f l
  |false=>false
theorem yG {β:Type} {f:β→Bool}:∀ {l:List β},nj f l=true→∀ (j:Nat) (x:β),l[j]? = some x→f x=true
 | [],_,_,_,h=>by simp at h
 |a::l,H,j,x,h=>by
  unfold nj at H;split at H
  ·rename_i q;cases j with
   |zero=>simp at h; subst h; exact q
   |succ j=>exact yG H j x (by simpa using h)
  ·cases H
def iV (n:Nat) (B:List Nat):AV→Bool
 | .agg l=>nj (eU n B) l
 | .az l=>nj (eU n B) l
 | .fn _ a b=>match nj (eU n B) a with
  |true=>nj (eU n B) b
  |false=>false
 |x=>eU n B x
def GI (n:Nat) (B:List Nat):ab→Bool
 | .cells cs=>nj (iV n B) cs
 |_=>true
section
variable {G:List (Nat × DV)} {c c':Cx} {n:Nat} {B:List Nat}
theorem GJ (hk:∀ b,b<c.w.heap.size→¬ c.bad b→¬ c'.bad b∧c'.w.heap[b]? = c.w.heap[b]?) (hb:∀ i bx,cZ n B i=false→c.heap[i]? = some bx→c'.heap[i]? = some bx∧c'.own i=c.own i)
  {x:AV} {v:Value} (hf:eU n B x=true) (hv:VR c x v):VR c' x v:=by
 cases hv with
 |any v=>exact .any v
 |d x v hx=>exact .d x v (hx.mono hk)
 |own b g sz l blk cap h1 h2 =>
  have hh:cZ n B b=false:=by simp only [eU] at hf; split at hf <;> first | assumption | cases hf
  obtain ⟨k1,k2⟩:=hb _ _ hh h1;exact .own b g sz l blk cap k1 (k2.trans h2)
 |fU b g sz h1 h2 =>
  have hh:cZ n B b=false:=by simp only [eU] at hf; split at hf <;> first | assumption | cases hf
  obtain ⟨k1,k2⟩:=hb _ _ hh h1;exact .fU b g sz k1 (k2.trans h2)
 |iN b g g1 sz l v h1 h2 h3 =>
  have hh:cZ n B b=false:=by simp only [eU] at hf; split at hf <;> first | assumption | cases hf
  obtain ⟨k1,k2⟩:=hb _ _ hh h1;exact .iN b g g1 sz l _ k1 h2 h3
 |hY b g v h1 h2 =>
  have hh:cZ n B b=false:=by simp only [eU] at hf; split at hf <;> first | assumption | cases hf
  exact .hY b g _ (hb _ _ hh h1).1 h2
 |kn b g cs blk cap m h1 h2 h3 =>
  have hh:cZ n B b=false:=by simp only [eU] at hf; split at hf <;> first | assumption | cases hf
  obtain ⟨k1,k2⟩:=hb _ _ hh h1;exact .kn b g cs blk cap m k1 (k2.trans h2) h3
 |cut b g k q sz l blk cap o h1 h2 h3 h4 h5 =>
  have hh:cZ n B b=false:=by simp only [eU] at hf; split at hf <;> first | assumption | cases hf
  obtain ⟨k1,k2⟩:=hb _ _ hh h1;exact .cut b g k q sz l blk cap o k1 (k2.trans h2) h3 h4 h5
 |kZ b g g1 k q sz l v h1 h2 h3 =>
  have hh:cZ n B b=false:=by simp only [eU] at hf; split at hf <;> first | assumption | cases hf
  exact .kZ b g g1 k q sz l _ (hb _ _ hh h1).1 h2 h3
 |la b g k q v h1 h2 =>
  have hh:cZ n B b=false:=by simp only [eU] at hf; split at hf <;> first | assumption | cases hf
  exact .la b g k q _ (hb _ _ hh h1).1 h2
 |ptr b off cs blk cap h1 h2 =>
  have hh:cZ n B b=false:=by simp only [eU] at hf; split at hf <;> first | assumption | cases hf
  obtain ⟨k1,k2⟩:=hb _ _ hh h1;exact .ptr b off cs blk cap k1 (k2.trans h2)
 |gQ b off v h1 h2 =>
  have hh:cZ n B b=false:=by simp only [eU] at hf; split at hf <;> first | assumption | cases hf
  exact .gQ b off _ (hb _ _ hh h1).1 h2
 |cA b g i off sz l blk cap h1 h2 h3 =>
  have hh:cZ n B b=false:=by simp only [eU] at hf; split at hf <;> first | assumption | cases hf
  obtain ⟨k1,k2⟩:=hb _ _ hh h1;exact .cA b g i off sz l blk cap k1 (k2.trans h2) h3
 |jJ b g g1 i off sz l v h1 h2 h3 =>
  have hh:cZ n B b=false:=by simp only [eU] at hf; split at hf <;> first | assumption | cases hf
  exact .jJ b g g1 i off sz l _ (hb _ _ hh h1).1 h2 h3
 |jK b g i off v h1 h2 =>
  have hh:cZ n B b=false:=by simp only [eU] at hf; split at hf <;> first | assumption | cases hf
  exact .jK b g i off _ (hb _ _ hh h1).1 h2
 |bD e off blk o f h1 h2 h3 h4 =>
  have ah:blk<c.w.heap.size:=by
   obtain ⟨x,r,hx⟩:=List.exists_cons_of_ne_nil h2;exact World.block_lt_of_cell? _ _ (h3 0 x (by rw [hx]; rfl))
  have hk:=hk;have n':=hk blk ah h1;exact .bD e off blk o f n'.1 h2 (fun j x hx=>by rw [World.cell?_of_block n'.2]; exact h3 j x hx) (fun j x hx=>(h4 j x hx).mono hk)
 |map b es blk cap h1 h2 =>
  have hh:cZ n B b=false:=by simp only [eU] at hf; split at hf <;> first | assumption | cases hf
  obtain ⟨k1,k2⟩:=hb _ _ hh h1;exact .map b es blk cap k1 (k2.trans h2)
 |lb b v h1 h2 =>
  have hh:cZ n B b=false:=by simp only [eU] at hf; split at hf <;> first | assumption | cases hf
  exact .lb b _ (hb _ _ hh h1).1 h2
 |agg a vs h1 h2=>simp [eU] at hf
 |az a vs h1 h2=>simp [eU] at hf
 |fn f a1 a2 v1 v2 h1 h2 h3 h4=>simp [eU] at hf
theorem ND (hk:∀ b,b<c.w.heap.size→¬ c.bad b→¬ c'.bad b∧c'.w.heap[b]? = c.w.heap[b]?) (hb:∀ i bx,cZ n B i=false→c.heap[i]? = some bx→c'.heap[i]? = some bx∧c'.own i=c.own i)
  {x:AV} {v:Value} (hf:iV n B x=true) (hv:VR c x v):VR c' x v:=by
 have one:∀ {l:List AV},nj (eU n B) l=true→∀ (vs:List Value),VL c l vs→VL c' l vs:=fun hl vs h=>⟨h.1,fun j x v hx hv=>GJ hk hb (yG hl j x hx) (h.2 j x v hx hv)⟩;unfold iV at hf;split at hf
 ·obtain ⟨vs,rfl,h1⟩:=mO hv; exact sx (one hf _ h1)
 ·obtain ⟨vs,rfl,h1⟩:=vw hv; exact vx (one hf _ h1)
 ·split at hf
  ·rename_i q;obtain ⟨v1,v2,rfl,h1,h2⟩:=jn hv;exact Bp (one q _ h1) (one hf _ h2)
  ·cases hf
 ·exact GJ hk hb hf hv
def Cx.eV (c:Cx) (n:Nat) (B:List Nat):Cx:=⟨fun i=>match cZ n B i with | true=>none | false=>c.own i,iU n B 0 c.heap,fun b=>c.ax b∨∃ j m,cZ n B j=true∧c.own j=some (b,m),c.w⟩
theorem ry {i b m:Nat} (h:(c.eV n B).own i=some (b,m)):cZ n B i=false∧c.own i=some (b,m):=by
 simp only [Cx.eV] at h;split at h
 ·cases h
 ·rename_i q; exact ⟨q,h⟩
theorem wi {i:Nat} (h:cZ n B i=false):(c.eV n B).own i=c.own i:=by simp only [Cx.eV,h]
theorem NF (b:Nat):(c.eV n B).bad b↔c.bad b:=by
 constructor
 ·rintro ((hb | ⟨j,m,-,hj⟩) | ⟨i,m,hi⟩)
  ·exact .inl hb
  ·exact .inr ⟨j,m,hj⟩
  ·exact .inr ⟨i,m,(ry hi).2⟩
 ·rintro (hb | ⟨j,m,hj⟩)
  ·exact .inl (.inl hb)
  ·cases hh:cZ n B j
   ·exact .inr ⟨j,m,(wi hh).trans hj⟩
   ·exact .inl (.inr ⟨j,m,hh,hj⟩)
theorem GK (b:Nat) (_:b<c.w.heap.size) (hn:¬ c.bad b):¬ (c.eV n B).bad b∧(c.eV n B).w.heap[b]? = c.w.heap[b]? := ⟨fun h=>hn ((NF b).1 h),rfl⟩
theorem NG {i:Nat} {bx:ab} (hh:cZ n B i=false) (hi:c.heap[i]? = some bx):(c.eV n B).heap[i]? = some bx∧(c.eV n B).own i=c.own i :=
 ⟨by show (iU n B 0 c.heap)[i]? = _; rw [tG 0 i c.heap (by rwa [Nat.zero_add])]; exact hi,wi hh⟩
theorem yH {x:AV} {v:Value} (hf:iV n B x=true) (hv:VR c x v):VR (c.eV n B) x v:=ND GK (fun _ _=>NG) hf hv
theorem NH {x:DV} {v:Value} (hv:VD c.bad c.w x v):VD (c.eV n B).bad (c.eV n B).w x v:=hv.mono GK
theorem ia.free {i:Nat} {bx:ab} (NI:GI n B bx=true) (jR:∀ x v,iV n B x=true→VR c x v→VR c' x v) (eI:∀ x v,VD c.bad c.w x v→VD c'.bad c'.w x v) (hb:ia c i bx) (ho:c'.own i=c.own i) (hw:∀ b n,c.own i=some (b,n)→c'.w.heap[b]? = c.w.heap[b]?):ia c' i bx:=by
 cases bx with
 |cells cs =>
  obtain ⟨blk,cap,vs,ty,h1,h2,h3,h4⟩:=hb;exact ⟨blk,cap,vs,ty,ho.trans h1,(hw blk cap h1).trans h2,h3,fun j x v hx hv=>jR x v (yG NI j x hx) (h4 j x v hx hv)⟩
 |arr g ts l =>
  obtain ⟨h0,h1,h2⟩:=hb;refine ⟨h0,h1,?_⟩;rcases h2 with ⟨h2,h3⟩ | ⟨blk,cap,vs,h2,h3,h4,h5,h6,h7⟩
  ·exact .inl ⟨ho.trans h2,h3⟩
  ·refine .inr ⟨blk,cap,vs,ho.trans h2,(hw blk cap h2).trans h3,h4,h5,h6,fun i j e x he hx=>?_⟩;obtain ⟨v,h8,uC,h9⟩:=h7 i j e x he hx;exact ⟨v,h8,uC,eI x v h9⟩
 |map es =>
  obtain ⟨blk,cap,en,ck,h1,h2,h3,h4⟩:=hb;exact ⟨blk,cap,en,ck,ho.trans h1,(hw blk cap h1).trans h2,h3,fun j k x m hx hm=>⟨eI _ _ (h4 j k x m hx hm).1,eI _ _ (h4 j k x m hx hm).2⟩⟩
 |gone=>exact ho.trans hb
 |hole=>exact ho.trans hb
def Cb (n:Nat) (B:List Nat) (X:List ab):Bool:=nj (GI n B) X
theorem aC.eV (ho:aC G c) (dS:Cb n B (iU n B 0 c.heap)=true):aC G (c.eV n B) where
 bG:=fun b hb=>hb.elim (ho.bG b) fun ⟨j,m,_,hj⟩=>(ho.bk j b m hj).1
 bk:=fun i b m hi=>by
  obtain ⟨h1,h2⟩:=ry hi;obtain ⟨h3,h4⟩:=ho.bk i b m h2;refine ⟨h3,?_⟩;have:(c.eV n B).heap[i]? = c.heap[i]? := tG 0 i c.heap (by rwa [Nat.zero_add]);have h5:(c.eV n B).heap[i]? = some c.heap[i]:=by rw [this]; simp
  exact aP h5
 inj:=fun i j b m k hi hj=>ho.inj i j b m k (ry hi).2 (ry hj).2
 sep:=fun i b m hi hb=>by
  obtain ⟨h1,h2⟩:=ry hi;rcases hb with hb | ⟨j,k,hj,hk⟩
  ·exact ho.sep i b m h2 hb
  ·have:=ho.inj i j b m k h2 hk;subst this;rw [h1] at hj;cases hj
 box:=fun i bx hi=>by
  cases hh:cZ n B i
  ·have e:(c.eV n B).heap[i]? = c.heap[i]? := tG 0 i c.heap (by rwa [Nat.zero_add]);have hf:=yG dS i bx hi;rw [e] at hi;exact (ho.box i bx hi).free hf (fun _ _=>yH) (fun _ _=>NH) (wi hh) (fun _ _ _=>rfl)
  ·obtain rfl:=GH 0 i c.heap bx (by rwa [Nat.zero_add]) hi;show (c.eV n B).own i=none;simp only [Cx.eV,hh]
 eJ:=fun g e hg=>yH rfl (ho.eJ g e hg)
end
theorem aC.GL {G:List (Nat × DV)} {c:Cx} {ax:Nat→Prop} (ho:aC G c) (hb:∀ b,ax b→c.ax b):aC G ⟨c.own,c.heap,ax,c.w⟩∧(∀ x v,VR c x v→VR ⟨c.own,c.heap,ax,c.w⟩ x v):=by
 have nP:∀ b,b<c.w.heap.size→¬ c.bad b→¬ (⟨c.own,c.heap,ax,c.w⟩:Cx).bad b∧(⟨c.own,c.heap,ax,c.w⟩:Cx).w.heap[b]? = c.w.heap[b]? := fun b _ hn=>⟨fun h=>hn (h.elim (fun h => .inl (hb b h)) .inr),rfl⟩;have jR:∀ x v,VR c x v→VR ⟨c.own,c.heap,ax,c.w⟩ x v:=fun x v=>ql nP (fun _ _ hi=>kq hi rfl rfl);exact ⟨⟨fun b h=>ho.bG b (hb b h),ho.bk,ho.inj,fun i b n hi h=>ho.sep i b n hi (hb b h),fun i bx hx=>(ho.box i bx hx).gen jR (fun _ _ h=>h.mono nP) rfl (fun _ _ _=>rfl),fun g e hg=>jR _ _ (ho.eJ g e hg)⟩,jR⟩
end Go.aw
end
