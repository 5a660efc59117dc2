/- Several texts of mine, one behind the other. Conditions: as each says. -/
import Derived.Test.YtfmdaiojokniiaaGreatDoorV2
import Derived.Orders
import Derived.OrdersIn
set_option linter.unusedVariables false
set_option linter.unusedSimpArgs false
section
namespace Go.aw
open Go Go.RowKit
inductive iU (ops:Array Oper):Nat→Nat→Prop
 |one {j:Nat} {o:Oper} {e:Edge} (hj:ops[j]? = some o) (he:e∈o.after) (hb:Region.binds .any e=true):iU ops e.on j
 |step {i j:Nat} {o:Oper} {e:Edge} (h:iU ops i e.on) (hj:ops[j]? = some o) (he:e∈o.after) (hb:Region.binds .any e=true):iU ops i j
def CO (acc:List Nat) (o:Oper):Nat:=o.after.toList.foldl (fun m e=>if Region.binds .any e then m ||| 2 ^ e.on ||| acc.getD e.on 0 else m) 0
def bits:List Oper→List Nat→List Nat
 | [],acc=>acc
 |o::l,acc=>bits l (acc++[CO acc o])
theorem Oo {acc:List Nat} {o:Oper} {i:Nat} (h:(CO acc o).testBit i=true):∃ e∈o.after,Region.binds .any e=true∧(i=e.on∨(acc.getD e.on 0).testBit i=true):=by
 have gen:∀ (l:List Edge) (m:Nat),(l.foldl (fun m e=>if Region.binds .any e then m ||| 2 ^ e.on ||| acc.getD e.on 0 else m) m).testBit i=true→m.testBit i=true∨∃ e∈l,Region.binds .any e=true∧(i=e.on∨(acc.getD e.on 0).testBit i=true):=by
  intro l
  induction l with
  |nil=>intro m h; exact .inl h
  |cons e l ih =>
   intro m h;rw [List.foldl_cons] at h;rcases ih _ h with h | ⟨e',tQ,hb⟩
   ·split at h
    ·rename_i hb;simp only [Nat.testBit_or,Bool.or_eq_true,Nat.testBit_two_pow,decide_eq_true_eq] at h;rcases h with (h | h) | h
     ·exact .inl h
     ·exact .inr ⟨e,List.mem_cons_self ..,hb,.inl h.symm⟩
     ·exact .inr ⟨e,List.mem_cons_self ..,hb,.inr h⟩
    ·exact .inl h
   ·exact .inr ⟨e',List.mem_cons_of_mem _ tQ,hb⟩
 rcases gen _ _ h with h | ⟨e,he,hb⟩
 ·simp at h
 ·exact ⟨e,by simpa using he,hb⟩
theorem CP (ops:Array Oper):∀ (l:List Oper) (acc:List Nat),ops.toList.drop acc.length=l→(∀ j i,(acc.getD j 0).testBit i=true→iU ops i j)→∀ j i,((bits l acc).getD j 0).testBit i=true→iU ops i j
 | [],acc,_,ha=>ha
 |o::l,acc,hl,ha=>by
  have ho:ops[acc.length]? = some o:=by
   have:=congrArg (·[0]?) hl
   simpa using this
  refine CP ops l (acc++[CO acc o]) (by rw [List.length_append,List.length_singleton,← List.drop_drop,hl]; rfl) (fun j i h=>?_);rcases Nat.lt_trichotomy j acc.length with hj | hj | hj
  ·rw [List.getD,List.getElem?_append_left hj] at h;exact ha j i h
  ·subst hj;rw [List.getD,List.getElem?_append_right (Nat.le_refl _),Nat.sub_self] at h;obtain ⟨e,he,hb,h | h⟩:=Oo (by simpa using h)
   ·subst h; exact .one ho he hb
   ·exact .step (ha _ _ h) ho he hb
  ·rw [List.getD,List.getElem?_eq_none (by simp; omega)] at h;simp at h
def tmpsOf (o:Op):List Nat:=o.operands.toList.filterMap fun | .tmp t=>some t | _=>none
def Hh (ops:Array Oper):Option (Nat × Bool)→List Nat
 |none=>[]
 |some (j,_)=>match (ops[j]?).bind (·.dst) with
  |some d=>[d]
  |none=>[]
def eI (ops:Array Oper) (o:Oper):List Nat:=tmpsOf o.op++Hh ops o.guard
def og (ops:Array Oper) (a b:Oper):Bool:=(match a.dst with | some d=>iS d (b.dst.toList++eI ops b) | none=>false)||(match b.dst with | some d=>iS d (eI ops a) | none=>false)
theorem w8 {d:Nat}:∀ {l:List Nat},iS d l=true↔d∈l
 | []=>by simp [iS]
 |a::l=>by
  simp only [iS];split
  ·rename_i q; simp [Nat.eq_of_beq_eq_true q]
  ·rename_i q;have aJ:d≠a:=fun e=>by rw [e,Nat.beq_refl] at q; cases q
   rw [w8 (l:=l)];simp [aJ]
structure CQ (ops:Array Oper):Prop where
 low:∀ j o e,ops[j]? = some o→e∈o.after→Region.binds .any e=true→e.on<j
 pair:∀ i j oi oj,i<j→ops[i]? = some oi→ops[j]? = some oj→og ops oi oj=true→iU ops i j
def Hi (ops:Array Oper):Bool :=
 let bs:=bits ops.toList []
 (List.range ops.size).all fun j=>match ops[j]? with
  |none=>true
  |some oj=>(oj.after.toList.all fun e => !Region.binds .any e||decide (e.on<j))&&(List.range j).all fun i=>match ops[i]? with
   |none=>true
   |some oi=>(bs.getD j 0).testBit i || !og ops oi oj
theorem Oq {ops:Array Oper} (h:Hi ops=true):CQ ops:=by
 have hb:=CP ops ops.toList [] rfl (fun j i h=>by simp at h);have aW:∀ j oj,ops[j]? = some oj→(oj.after.toList.all fun e => !Region.binds .any e||decide (e.on<j))=true∧∀ i oi,i<j→ops[i]? = some oi→((bits ops.toList []).getD j 0).testBit i=true∨og ops oi oj=false:=fun j oj hj=>by
  have aj:j<ops.size:=(Array.getElem?_eq_some_iff.1 hj).1;have h1:=List.all_eq_true.1 h j (List.mem_range.2 aj);simp only [hj,Bool.and_eq_true] at h1;refine ⟨h1.1,fun i oi hi oS=>?_⟩;have h2:=List.all_eq_true.1 h1.2 i (List.mem_range.2 hi);simp only [oS,Bool.or_eq_true,Bool.not_eq_true'] at h2;exact h2
 refine ⟨fun j o e hj he gb=>?_,fun i j oi oj dj hi hj hc=>?_⟩
 ·have:=List.all_eq_true.1 (aW j o hj).1 e (by simpa using he)
  simpa [gb] using this
 ·rcases (aW j oj hj).2 i oi dj hi with h | h
  ·exact hb j i h
  ·rw [hc] at h; cases h
def Hj (ops:Array Oper) (l:List (Nat × Nat)):Bool :=
 let bs:=bits ops.toList []
 l.all fun p=>(bs.getD p.2 0).testBit p.1
theorem Ot {ops:Array Oper} {l:List (Nat × Nat)} (h:Hj ops l=true):∀ p∈l,iU ops p.1 p.2:=fun p hp =>
 CP ops ops.toList [] rfl (fun j i h=>by simp at h) p.2 p.1 (List.all_eq_true.1 h p hp)
def cur:List (Oper × AV)→(Nat→Bool)→Nat→List AV→List AV
 | [],_,_,s=>s
 |(o,v)::l,L,i,s=>cur l L (i+1) (if L i then b9 s o.dst v else s)
theorem sn:∀ (pl:List (Oper × AV)) (L:Nat→Bool) (i:Nat) (s:List AV),(cur pl L i s).length=s.length
 | [],_,_,_=>rfl
 |(o,v)::l,L,i,s=>by
  rw [cur,sn l];split
  ·cases o.dst <;> simp [b9]
  ·rfl
theorem Ou {s:List AV} {d:Option Nat} {v:AV} {t:Nat} (h:d≠some t):(b9 s d v)[t]? = s[t]? := by
 cases d with
 |none=>rfl
 |some d=>exact List.getElem?_set_ne (fun e=>h (by rw [e]))
theorem Ov {s s':List AV} {d:Option Nat} {v:AV} {t:Nat} (hl:s.length=s'.length) (h:s[t]? = s'[t]?):(b9 s d v)[t]? = (b9 s' d v)[t]? := by
 cases d with
 |none=>exact h
 |some d =>
  by_cases hd:d=t
  ·subst hd;simp only [b9,List.getElem?_set,hl,if_true]
  ·simp only [b9,List.getElem?_set_ne hd,h]
theorem zz {t:Nat}:∀ (pl:List (Oper × AV)) (L L':Nat→Bool) (i:Nat) (s s':List AV),s.length=s'.length→s[t]? = s'[t]? → (∀ k o v,pl[k]? = some (o,v)→o.dst=some t→L (i+k)=L' (i+k))→(cur pl L i s)[t]? = (cur pl L' i s')[t]?
 | [],_,_,_,_,_,_,hs,_=>hs
 |(o,v)::l,L,L',i,s,s',hl,hs,hw=>by
  rw [cur,cur];have hlen:∀ (b:Bool) (q:List AV),(if b then b9 q o.dst v else q).length=q.length:=fun b q=>by cases b <;> cases o.dst <;> simp [b9]
  refine zz l L L' (i+1) _ _ (by rw [hlen,hlen,hl]) ?_ (fun k o' v' hk hd=>by have:=hw (k+1) o' v' (by simpa using hk) hd; rwa [show i+(k+1)=i+1+k by omega] at this);by_cases hd:o.dst=some t
  ·have:=hw 0 o v rfl hd;rw [Nat.add_zero] at this;rw [this];split
   ·exact Ov hl hs
   ·exact hs
  ·split <;> split <;> simp only [Ou hd,hs]
theorem w9:∀ (pl:List (Oper × AV)) (i:Nat) (s:List AV) (L:Nat→Bool),(∀ k,k<pl.length→L (i+k)=false)→cur pl L i s=s
 | [],_,_,_,_=>rfl
 |(o,v)::l,i,s,L,h=>by
  have h0:=h 0 (by simp);rw [Nat.add_zero] at h0;rw [cur,h0];exact w9 l (i+1) s L (fun k hk=>by have:=h (k+1) (by simpa using hk); rwa [show i+(k+1)=i+1+k by omega] at this)
theorem Hk:∀ (pl:List (Oper × AV)) (i j:Nat) (s:List AV) (o:Oper) (v:AV),pl[j]? = some (o,v)→cur pl (fun k=>decide (k<i+j+1)) i s=b9 (cur pl (fun k=>decide (k<i+j)) i s) o.dst v
 | [],_,_,_,_,_,h=>by simp at h
 |(o',v')::l,i,0,s,o,v,h=>by
  simp at h;obtain ⟨rfl,rfl⟩:=h;rw [cur,cur];simp only [Nat.add_zero,Nat.lt_irrefl,decide_false,Bool.false_eq_true,if_false,Nat.lt_succ_self,decide_true,if_true];rw [w9 l (i+1) _ _ (fun k _=>decide_eq_false (by omega)),w9 l (i+1) s _ (fun k _=>decide_eq_false (by omega))]
 |(o',v')::l,i,j+1,s,o,v,h=>by
  rw [cur,cur];have e1:(decide (i<i+(j+1)+1))=true:=decide_eq_true (by omega);have e2:(decide (i<i+(j+1)))=true:=by simp
  simp only [e1,e2,if_true];have:=Hk l (i+1) j (b9 s o'.dst v') o v (by simpa using h);rw [show i+(j+1)+1=i+1+j+1 by omega,show i+(j+1)=i+1+j by omega];exact this
theorem Hl (d:Nat):∀ (a:List (Oper × AV)) (L:Nat→Bool) (i:Nat) (s:List AV),cur a L (i+d) s=cur a (fun k=>L (k+d)) i s
 | [],_,_,_=>rfl
 |(o,v)::a,L,i,s=>by
  rw [cur,cur,show i+d+1=i+1+d by omega,Hl d a L (i+1)]
def dB (keep:List Nat):Nat→List AV→List AV
 |_,[]=>[]
 |i,x::s=>(match iS i keep with | true=>x | false => .any)::dB keep (i+1) s
theorem Hm (keep:List Nat):∀ (i:Nat) (s:List AV),(dB keep i s).length=s.length
 |_,[]=>rfl
 |i,_::s=>by simp [dB,Hm keep (i+1) s]
theorem Hn (keep:List Nat):∀ (i t:Nat) (s:List AV) (x:AV),(dB keep i s)[t]? = some x→x = .any∨(i+t∈keep∧s[t]? = some x)
 |_,_,[],_,h=>by simp [dB] at h
 |i,0,y::s,x,h=>by
  simp only [dB,List.getElem?_cons_zero,Option.some.injEq] at h;split at h
  ·rename_i q; subst h; exact .inr ⟨by simpa using w8.1 q,rfl⟩
  ·exact .inl h.symm
 |i,t+1,y::s,x,h=>by
  simp only [dB,List.getElem?_cons_succ] at h;rcases Hn keep (i+1) t s x h with h | ⟨h1,h2⟩
  ·exact .inl h
  ·exact .inr ⟨by rwa [show i+(t+1)=i+1+t by omega],by simpa using h2⟩
def iV (E:Env) (ops:Array Oper) (o:Oper) (s:List AV) (h:List ae) (v:AV) (h':List ae):Prop :=
 ∀ (c:Cx) (a:Act),aK E.G c→c.heap=h→a.defers=[]→VS c (dB (eI ops o) 0 s) a.tmps→∀ (j:Nat),ops[j]? = some o→∀ (K:Act→World→Prop) (Q:Exit→Act→World→Prop),
  (∀ (c':Cx) (u:Value),aK E.G c'→c'.heap=h'→Step c c'→VR c' v u→K (a.put o.dst u) c'.w)→wpOp E.P ops Q j K a c.w
section
variable {E:Env} {ops:Array Oper}
def cF (listed:Array Bool) (i:Nat):Bool:=listed.getD i false
def DC (ops:Array Oper) (listed:Array Bool):Prop:=listed.size=ops.size∧∀ j o e,ops[j]? = some o→cF listed j=true→e∈o.after→Region.binds .any e=true→cF listed e.on=true
theorem DC.dep {listed:Array Bool} (hd:DC ops listed) {i j:Nat} (h:iU ops i j) (hj:cF listed j=true):cF listed i=true:=by
 induction h with
 |one ho he hb=>exact hd.2 _ _ _ ho hj he hb
 |step h ho he hb ih=>exact ih (hd.2 _ _ _ ho hj he hb)
theorem DC.ready {listed:Array Bool} (hd:DC ops listed) {i j:Nat} (hj:j∈Region.ready .any ops listed) (h:iU ops i j):cF listed i=true:=by
 obtain ⟨-,o,ho,aW⟩:=mem_ready.1 hj;cases h with
 |one cG he hb=>rw [ho] at cG; cases cG; exact aW _ he hb
 |step h cG he hb=>rw [ho] at cG; cases cG; exact hd.dep h (aW _ he hb)
theorem DC.set {listed:Array Bool} (hd:DC ops listed) {j:Nat} (hj:j∈Region.ready .any ops listed):DC ops (listed.setIfInBounds j true):=by
 refine ⟨by simpa using hd.1,fun i o e hi hl he hb=>?_⟩;by_cases dj:j=i
 ·subst dj;obtain ⟨-,o',cG,aW⟩:=mem_ready.1 hj;rw [hi] at cG; cases cG;exact getD_set_true (aW e he hb)
 ·have:cF listed i=true:=by unfold cF at hl ⊢; rwa [getD_set_ne false dj] at hl
  exact getD_set_true (hd.2 i o e hi this he hb)
theorem Ho {listed:Array Bool} {j i:Nat} (hj:j<listed.size):cF (listed.setIfInBounds j true) i=(cF listed i||decide (i=j)):=by
 unfold cF;by_cases h:j=i
 ·subst h; simp [hj]
 ·rw [getD_set_ne false h]; simp [Ne.symm h]
theorem CS {listed:Array Bool} (hd:DC ops listed) {j:Nat} (hj:j∈Region.ready .any ops listed):cF listed j=false∧j<ops.size:=by
 obtain ⟨h1,o,ho,-⟩:=mem_ready.1 hj;have aj:j<ops.size:=(Array.getElem?_eq_some_iff.1 ho).1;refine ⟨?_,aj⟩;have:j<listed.size:=by rw [hd.1]; exact aj
 unfold cF;simp [this] at h1 ⊢;exact h1
theorem Ow (hc:CQ ops) {listed:Array Bool} (hd:DC ops listed) {j:Nat} (hj:j<ops.size) (hn:cF listed j=false):∃ i,i≤j∧i∈Region.ready .any ops listed:=by
 induction j using Nat.strongRecOn with
 |ind j ih =>
  by_cases aW:∀ i,i<j→cF listed i=true
  ·refine ⟨j,Nat.le_refl _,mem_ready.2 ⟨?_,ops[j],by simp [hj],fun e he hb=>aW _ (hc.low j _ e (by simp [hj]) he hb)⟩⟩;have:j<listed.size:=by rw [hd.1]; exact hj
   unfold cF at hn;simp [this] at hn ⊢;exact hn
  ·have:∃ i,i<j∧cF listed i=false:=by
    apply Classical.byContradiction;intro aJ;exact aW fun i hi=>by
     cases hl:cF listed i with
     |true=>rfl
     |false=>exact absurd ⟨i,hi,hl⟩ aJ
   obtain ⟨i,hi,hl⟩:=this;obtain ⟨k,hk,hr⟩:=ih i hi (by omega) hl;exact ⟨k,by omega,hr⟩
def lD (L:Nat→Bool):Nat→Nat
 | 0=>0
 |n+1=>lD L n+if L n then 0 else 1
theorem Hp {L L':Nat→Bool} {j:Nat} (h:∀ i,i≠j→L' i=L i) (hj:L j=false) (dI:L' j=true):∀ n,(j<n→lD L' n+1=lD L n)∧(n≤j→lD L' n=lD L n)
 | 0=>⟨fun h=>by omega,fun _=>rfl⟩
 |n+1=>by
  obtain ⟨h1,h2⟩:=Hp h hj dI n;simp only [lD];by_cases hn:n=j
  ·subst hn;refine ⟨fun _=>?_,fun h=>by omega⟩;rw [h2 (Nat.le_refl _),hj,dI];simp
  ·rw [h n hn];exact ⟨fun hl=>by have:=h1 (by omega); omega,fun hl=>by rw [h2 (by omega)]⟩
theorem Hq {L:Nat→Bool} {j:Nat} (hj:L j=false):∀ n,j<n→0<lD L n
 | 0,h=>by omega
 |n+1,h=>by
  simp only [lD];by_cases hn:n=j
  ·subst hn; rw [hj]; simp
  ·have:=Hq hj n (by omega); omega
theorem CT {a b:Oper} {d:Nat} (ha:a.dst=some d) (hb:d∈b.dst.toList++eI ops b):og ops a b=true:=by
 simp only [og,ha,w8.2 hb,Bool.true_or]
theorem Ox {a b:Oper} {d:Nat} (hb:b.dst=some d) (ha:d∈eI ops a):og ops a b=true:=by
 simp only [og,hb,w8.2 ha,Bool.or_true]
theorem Oy (Hr:∀ i j oi oj,i<j→ops[i]? = some oi→ops[j]? = some oj→og ops oi oj=true→iU ops i j) {q:List (Oper × AV)} (kD:∀ (k:Nat) (o:Oper) (v:AV),q[k]? = some (o,v)→ops[k]? = some o) {listed:Array Bool} (hd:DC ops listed) {i:Nat} (hi:i∈Region.ready .any ops listed)
  {o:Oper} {v:AV} (sq:q[i]? = some (o,v)) {s0:List AV} {c:Cx} {a:Act} (h4:VS c (cur q (cF listed) 0 s0) a.tmps) :
  (∀ (c':Cx) (u:Value),(∀ x v,VR c x v→VR c' x v)→VR c' v u→VS c' (cur q (cF (listed.setIfInBounds i true)) 0 s0) (a.put o.dst u).tmps)∧VS c (dB (eI ops o) 0 (cur q (fun k=>decide (k<i)) 0 s0)) a.tmps:=by
 obtain ⟨qE,fO⟩:=CS hd hi;have oS:=kD i o v sq;have wr:∀ k o' v',q[k]? = some (o',v')→(k<i→og ops o' o=true→cF listed k=true)∧(i<k→og ops o o'=true→cF listed k=false):=fun k o' v' hk=>by
  have aO:=kD k o' v' hk;refine ⟨fun aj lE=>hd.ready hi (Hr k i o' o aj aO oS lE),fun aj lE=>?_⟩;cases hl:cF listed k with
  |false=>rfl
  |true=>have:=hd.dep (Hr i k o o' aj oS aO lE) hl; rw [qE] at this; cases this
 have bQ:i<listed.size:=by rw [hd.1]; exact fO
 have iW:=fun q=>Ho (i:=q) bQ;refine ⟨fun c' u k3 k4=>?_,?_⟩
 ·refine ⟨by rw [sn]; have:=h4.1; rw [sn] at this; cases zA:o.dst <;> simp [Act.put,this],fun t x u' hx vX=>?_⟩;by_cases gS:o.dst=some t
  ·have e1:(cur q (cF (listed.setIfInBounds i true)) 0 s0)[t]? = (cur q (fun k=>decide (k<0+i+1)) 0 s0)[t]? := by
    refine zz _ _ _ 0 s0 s0 rfl rfl (fun k o' v' iP eo=>?_);rw [Nat.zero_add,Nat.zero_add,iW];rcases Nat.lt_trichotomy k i with aj | rfl | rR
    ·rw [(wr k o' v' iP).1 aj (CT eo (List.mem_append_left _ (by simp [gS])))]; simp; omega
    ·simp
    ·rw [(wr k o' v' iP).2 rR (CT gS (List.mem_append_left _ (by simp [eo])))]; simp; omega
   rw [e1,Hk _ 0 i s0 o v sq,gS] at hx;have Hs:t<(cur q (fun k=>decide (k<0+i)) 0 s0).length:=by
    have:=aR hx
    simpa [b9] using this
   rw [b9,List.getElem?_set_self Hs] at hx;cases hx;have Oz:t<a.tmps.size:=by rw [← h4.1,sn]; rwa [sn] at Hs
   have zB:(a.tmps.setIfInBounds t u)[t]? = some u':=by simpa [Act.put,gS] using vX
   rw [Array.getElem?_setIfInBounds_self_of_lt Oz] at zB;cases zB;exact k4
  ·have e1:(cur q (cF (listed.setIfInBounds i true)) 0 s0)[t]? = (cur q (cF listed) 0 s0)[t]? := by
    refine zz _ _ _ 0 s0 s0 rfl rfl (fun k o' v' iP eo=>?_);rw [Nat.zero_add,iW];have:k≠i:=fun e=>by
     subst e;rw [sq] at iP;cases iP;exact gS eo
    simp [this]
   rw [e1] at hx;refine k3 _ _ (h4.2 t x u' hx ?_);cases zA:o.dst with
   |none=>simpa [Act.put,zA] using vX
   |some d =>
    rw [zA] at gS;have aJ:d≠t:=fun e=>gS (by rw [e])
    simpa [Act.put,zA,Array.getElem?_setIfInBounds_ne aJ] using vX
 ·refine ⟨by rw [Hm,sn]; have:=h4.1; rwa [sn] at this,fun t x u hx hu=>?_⟩;rcases Hn _ 0 t _ x hx with rfl | ⟨hk,hx⟩
  ·exact .any u
  ·rw [Nat.zero_add] at hk;refine h4.2 t x u ?_ hu;rw [← hx];refine zz _ _ _ 0 s0 s0 rfl rfl (fun k o' v' iP eo=>?_);rw [Nat.zero_add];rcases Nat.lt_trichotomy k i with aj | rfl | rR
   ·rw [(wr k o' v' iP).1 aj (CT eo (List.mem_append_right _ hk))]; simp [aj]
   ·rw [qE]; simp
   ·rw [(wr k o' v' iP).2 rR (Ox eo hk)]; simp; omega
theorem OA {pl:List (Oper × AV)} (oP:pl.map (·.1)=ops.toList):pl.length=ops.size∧∀ (k:Nat) (o:Oper) (v:AV),pl[k]? = some (o,v)→ops[k]? = some o:=by
 refine ⟨by have:=congrArg List.length oP; simpa using this,fun k o v hk=>?_⟩;have:=congrArg (·[k]?) oP;simp only [List.getElem?_map,hk,Option.map_some] at this
 simpa using this.symm
theorem OB {L:Nat→Bool} {n i:Nat} (h:lD L n≤0) (hi:i<n):L i=true:=by
 cases hl:L i with
 |true=>rfl
 |false=>have:=Hq hl n hi; omega
theorem zC (n i:Nat):cF (Array.replicate n false) i=false:=by
 unfold cF;simp [Array.getElem?_replicate];split <;> rfl
theorem OC (n:Nat):∀ k,lD (cF (Array.replicate n false)) k≤k:=by
 intro k
 induction k with
 |zero=>exact Nat.le_refl _
 |succ k ih=>simp only [lD]; split <;> omega
end
section
variable {E:Env} {ag:FuncId} {R:cw} {ops:Array Oper} {s:List AV} {h:List ae}
theorem iV.skip {o:Oper} (hw:iN ops o (dB (eI ops o) 0 s) false):iV E ops o s h (.d .undef) h:=fun c a h1 h2 _ h4 j hj K Q hK=>by
 unfold wpOp;simp only [hj,hw c a.tmps h4,Bool.false_eq_true,if_false];exact hK c Go.undef h1 h2 (Step.refl c h1.bN) (.d _ _ .undef)
theorem OD {s:List AV} {o:Oper} {fx:Operand} {args:Array Operand} {ts:Array TypeId} {f:FuncId} {a1 a2 av:List AV} {ds:List DV} {r:DV} (ho:o.op = .call { callee := .value fx,args:=args,argTypes:=ts })
  (hf:aY E.G s fx (.fn (.func f) a1 a2)) (ha:im E.G s args.toList av) (hd:a1++av++a2=ds.map .d) (hc:aq E f ds (· = r)) {c:Cx} {a:Act} (h1:aK E.G c) (h4:VS c s a.tmps) {K:Act→World→Prop} {Q:Exit→Act→World→Prop}
  (hK:∀ (c':Cx) (u:Value),aK E.G c'→c'.heap=c.heap→Step c c'→VR c' (.d r) u→K (a.put o.dst u) c'.w):o.wp E.P a c.w K Q:=by
 unfold aq at hc;obtain ⟨v1,v2,e1,e2,e3⟩:=jO (hf c a h1 h4);have e4:=ha c a h1 h4;have e5:=(e2.append e4).append e3;rw [hd] at e5;have rK:∀ b,c.bad b→b<c.w.heap.size:=fun b hb=>hb.elim (h1.bN b) fun ⟨j,n,hj⟩=>(h1.br j b n hj).1;have vU:qb E.G c.bad c.w:=fun g e hg=>by
  have hp:∀ p,VR c (.bE e 0) p→VR ⟨fun _=>none,[],c.bad,c.w⟩ (.bE e 0) p:=fun p hp=>by
   cases hp with
   |bE _ _ blk o' fv k1 k2 k3 k4=>exact .bE _ _ blk o' fv (fun hb=>k1 (rH.1 hb)) k2 k3 (fun j x hx=>rI (k4 j x hx))
  exact hp _ (h1.eZ g e hg)
 have fP:=hc.2 c.bad c.w _ rK vU ⟨by simpa using e5.1,e5.nQ⟩;have cn:=vT (P:=E.P) (w:=c.w) (a:=a) ho e1 hc.1;have gT:(v1.toArray++args.map a.eval++v2.toArray)=(v1++args.toList.map a.eval++v2).toArray:=by
  apply Array.ext';simp
 rw [gT] at cn;unfold Oper.wp;rw [cn,Oper.upon_enter];refine fP.mono fun e w' he=>?_;obtain ⟨v,r',rfl,rfl,hv,hx⟩:=he;obtain ⟨k1,k2⟩:=h1.grow hx;exact hK (c.dP w') v k1 rfl k2 (.d _ _ hv)
theorem iV.call {o:Oper} {fx:Operand} {args:Array Operand} {ts:Array TypeId} {f:FuncId} {a1 a2 av:List AV} {ds:List DV} {r:DV} (hw:iN ops o (dB (eI ops o) 0 s) true) (ho:o.op = .call { callee := .value fx,args:=args,argTypes:=ts })
  (hf:aY E.G (dB (eI ops o) 0 s) fx (.fn (.func f) a1 a2)) (ha:im E.G (dB (eI ops o) 0 s) args.toList av) (hd:a1++av++a2=ds.map .d) (hc:aq E f ds (· = r)):iV E ops o s h (.d r) h:=fun c a h1 h2 _ h4 j hj K Q hK=>by
 unfold wpOp;simp only [hj,hw c a.tmps h4,if_true];left;exact OD ho hf ha hd hc h1 h4 fun c' u k1 k2 k3 k4=>hK c' u k1 (k2.trans h2) k3 k4
end
def pb:Op→Bool
 | .box .. => false
 | .alloc .. => false
 | .store .. => false
 | .makeSlice .. => false
 | .makeMap .. => false
 | .mapUpdate .. => false
 | .call { callee := .builtin .append,.. }=>false
 |_=>true
def ux {α:Sort _} (keep:List Nat):Nat→List AV→(List AV→α)→α
 |_,[],k=>k []
 |i,x::s,k=>match iS i keep with
  |true=>ux keep (i+1) s fun s'=>k (x::s')
  |false=>ux keep (i+1) s fun s'=>k (.any::s')
theorem Ht {α:Sort _} (keep:List Nat):∀ (i:Nat) (s:List AV) (k:List AV→α),ux keep i s k=k (dB keep i s)
 |_,[],_=>rfl
 |i,x::s,k=>by
  simp only [ux,dB];split <;> rename_i q <;> rw [Ht keep (i+1)] <;> simp only [q]
theorem OE {T:List bp} {G:List (Nat × DV)} {o:Op} {s:List AV} {h:List ae} {stop:Prop} {K:AV→Prop} (ho:pb o=true) (H:kr T G o s h stop (fun v _=>K v)):kr T G o s h stop (fun v h'=>h'=h∧K v):=by
 cases o
 case box=>cases ho
 case alloc=>cases ho
 case store=>cases ho
 case unOp op t x=>cases op <;> simpa only [kr,true_and] using H
 case call c =>
  obtain ⟨callee,args,ts⟩:=c;cases callee with
  |builtin b=>cases b <;> simpa only [kr,true_and] using H
  |_=>simpa only [kr] using H
 all_goals simpa only [kr,true_and] using H
theorem OF {T:List bp} {G:List (Nat × DV)} {o:Op} {s:List AV} {h:List ae} {stop:Prop} {K:AV→Prop} (ho:pb o=true) (H:oU T G o s h stop (fun v _=>K v)):oU T G o s h stop (fun v h'=>h'=h∧K v):=by
 cases o
 case store=>cases ho
 case makeSlice=>cases ho
 case slice t x lo hi mx=>cases mx <;> simpa only [oU,rN,true_and] using H
 case call c =>
  obtain ⟨callee,args,ts⟩:=c;cases callee with
  |builtin b=>cases b <;> first | (simpa only [oU,rN] using H) | (simp [pb] at ho)
  |_=>simpa only [oU,rN] using H
 all_goals simpa only [oU,rN,true_and] using H
theorem OG {E:Env} {o:Op} {s:List AV} {h:List ae} {stop:Prop} {K:AV→Prop} (ho:pb o=true):tW E o s h stop (fun v h'=>h'=h∧K v)=tW E o s h stop (fun v _=>K v):=by
 unfold tW;split
 ·simp [pb] at ho
 ·simp only [true_and]
 ·simp only [true_and]
 ·simp [pb] at ho
 ·rfl
theorem OH {E:Env} {o:Op} {s:List AV} {h:List ae} {stop:Prop} {K:AV→Prop} (ho:pb o=true) (H:n4 E o s h stop (fun v _=>K v)):n4 E o s h stop (fun v h'=>h'=h∧K v):=by
 unfold n4 at H ⊢;rw [OG ho];have:=OF ho H;have e:(fun v=>h=h∧K v)=K:=by funext v; simp
 rw [e];exact this
@[irreducible] def qF (E : Env) (f : FuncId) (ds : List DV) (h : List ae) (K1 : DV → Prop) (K2 : AV → List ae → Prop) : Prop :=
 (∃ r,aq E f ds (· = r)∧K1 r)∨∃ r h1,au E f [] (ds.map .d) (fun a b=>a=r∧b=h1)∧K2 (gX [] h r) (ek [] h h1)
theorem ay {E:Env} {f:FuncId} {ds:List DV} {h:List ae} {K1:DV→Prop} {K2:AV→List ae→Prop} {r:DV} (H:aq E f ds (· = r)) (hk:K1 r):qF E f ds h K1 K2:=by unfold qF; exact .inl ⟨r,H,hk⟩
theorem OI {E:Env} {f:FuncId} {ds:List DV} {h:List ae} {K1:DV→Prop} {K2:AV→List ae→Prop} {r:AV} {h1:List ae} {args:List AV} (hc:au E f [] args (fun a b=>a=r∧b=h1)) (ha:args=ds.map .d) (hk:eN [] h r fun v=>iy [] h h1 fun h'=>K2 v h'):qF E f ds h K1 K2:=by
 unfold qF;rw [ly,o5] at hk;exact .inr ⟨r,h1,ha ▸ hc,hk⟩
def uy (ro:Option Nat):Fence:={ Fence.wide with round:=ro }
theorem qG (a:Act) (d:Option Nat) (v:Value):(a.put d v).defers=a.defers:=by cases d <;> rfl
section
variable {P:Program} {ops:Array Oper} {Q:Exit→Act→World→Prop}
theorem qH (hQ:∀ e a w,Q e a w→e = .normal∧a.defers=[]):∀ (l:List Nat) (a:Act) (w:World),wpOps P ops Q l a w→a.defers=[]
 | [],a,w,h=>(hQ _ _ _ h).2
 |i::l,a,w,h=>by
  simp only [wpOps] at h;split at h
  ·exact qH hQ l a w h
  ·rename_i o ho;split at h
   ·rcases h with h | ⟨_,a',w',h⟩
    ·unfold Oper.wp at h;generalize (execOp a.eval o).run P w=r at h;cases r with
     |ok n w' =>
      cases n with
      |value v=>have:=qH hQ l _ _ h; rwa [qG] at this
      |skip=>have:=qH hQ l _ _ h; rwa [qG] at this
      |defer d=>have:=qH hQ l _ _ h; rw [qG] at this; cases this
      |enter f args =>
       obtain ⟨e,xb,fr,he,_⟩:=h [];cases e with
       |returned v=>have:=qH hQ l _ _ he; rwa [qG] at this
       |panicked c=>have:=(hQ _ _ _ he).1; cases this
       |outgrown=>obtain ⟨a',w',he⟩:=he; have:=(hQ _ _ _ he).1; cases this
      |row cO args =>
       obtain ⟨v,xb,he,_⟩:=h default [];have:=qH hQ l _ _ he; rwa [qG] at this
      |_=>exact h.elim
     |halt x w'=>cases x with
      |panic v=>have:=(hQ _ _ _ h).1; cases this
      |_=>exact h.elim
    ·have:=(hQ _ _ _ h).1; cases this
   ·have:=qH hQ l _ _ h; rwa [qG] at this
theorem zD (ro:Option Nat) (df:List Deferred) (hQ:∀ e a w,Q e a w→e = .normal∧a.defers=[]):∀ (l:List Nat) (t:Array Value) (w:World),wpOps P ops Q l ⟨t,[]⟩ w →
  wpOpsIn (uy ro) 0 P ops (fun e a w=>a.defers=df∧Q e ⟨a.tmps,[]⟩ w) l ⟨t,df⟩ w
 | [],t,w,h=>⟨rfl,h⟩
 |i::l,t,w,h=>by
  have next:∀ (d:Option Nat) (v:Value) (w:World),wpOps P ops Q l ((⟨t,[]⟩:Act).put d v) w→wpOpsIn (uy ro) 0 P ops (fun e a w=>a.defers=df∧Q e ⟨a.tmps,[]⟩ w) l ((⟨t,df⟩:Act).put d v) w:=fun d v w h=>by
   cases d with
   |none=>exact zD ro df hQ l t w h
   |some d=>exact zD ro df hQ l _ w h
  have OJ:(⟨t,df⟩:Act).eval=(⟨t,[]⟩:Act).eval:=funext fun x=>by cases x <;> rfl
  simp only [wpOps] at h;simp only [wpOpsIn];cases ho:ops[i]? with
  |none=>rw [ho] at h; exact zD ro df hQ l t w h
  |some o =>
   rw [ho] at h;simp only at h ⊢;by_cases hw:Region.wanted o (yielded ops t)=true
   ·rw [if_pos hw] at h ⊢;rcases h with h | ⟨_,a',w',h⟩
    case inr=>have:=(hQ _ _ _ h).1; cases this
    refine ⟨fun _ _=>trivial,?_⟩;rw [OJ];unfold Oper.wp at h;cases hr:(execOp (⟨t,[]⟩:Act).eval o).run P w with
    |ok n w' =>
     rw [hr] at h;cases n with
     |value v=>rw [qa hr (by simp)]; exact next _ _ _ h
     |skip=>rw [qa hr (by simp)]; exact next _ _ _ h
     |defer d=>have:=qH hQ l _ _ h; rw [qG] at this; cases this
     |enter f args =>
      rw [qa hr (by simp)];refine ⟨fun e=>by simp [uy,Fence.wide] at e,?_⟩;have h2:Calls P f args w' fun e xb=>match e with
        | .returned v=>wpOpsIn (uy ro) 0 P ops (fun e a w=>a.defers=df∧Q e ⟨a.tmps,[]⟩ w) l ((⟨t,df⟩:Act).put o.dst v) xb
        | .panicked chain=>df=df∧Q (.panic chain) ⟨t,[]⟩ xb
        | .outgrown=>LetsOut (fun e a w=>a.defers=df∧Q e ⟨a.tmps,[]⟩ w):=Calls.mono h (fun e xb he=>by
       cases e with
       |returned v=>exact next _ _ _ he
       |panicked c=>have:=(hQ _ _ _ he).1; cases this
       |outgrown=>obtain ⟨a',w',he⟩:=he; have:=(hQ _ _ _ he).1; cases this)
      have h3:=callsIn_wide (n:=0).2 h2;refine ⟨trivial,fun cs kB=>?_⟩;obtain ⟨e,w2,fr,k1,k2,k3⟩:=h3.2 cs (room_wide _);refine ⟨e,w2,fr,?_,k2,k3⟩;cases e <;> exact k1
     |row cO args =>
      rw [qa hr (by simp)];refine ⟨fun e=>by simp [uy,Fence.wide] at e,fun c cs _=>?_⟩;obtain ⟨v,w2,k1,k2⟩:=h c cs;exact ⟨v,w2,next _ _ _ k1,stepsIn_wide.2 k2⟩
     |_=>exact h.elim
    |halt x w' =>
     rw [hr] at h;cases x with
     |panic v=>have:=(hQ _ _ _ h).1; cases this
     |_=>exact h.elim
   ·rw [if_neg hw] at h ⊢;exact ⟨fun _ _=>trivial,next _ _ _ h⟩
end
section
variable {E:Env} {ops:Array Oper} {ag:FuncId} {R:cw} {s:List AV} {h:List ae} {lits:List Nat}
theorem AW.OL {id:Nat} {k:List aN} (hm:E.P.follows .mixedOrders=true)
  (H:∀ (c:Cx) (t:Array Value) (Q:Exit→Act→World→Prop),(∀ (a:Act) (c':Cx) (s':List AV) (h':List ae),AW E R.fx.f0 ⟨⟨ag,R.fx.cz,R.fx.aI⟩,k,s'⟩ R.fx.cls h' R→aK E.G c'→c'.heap=h'→a.defers=[]→VS c' s' a.tmps→Step c c'→Q .normal a c'.w)→aK E.G c→c.heap=h→VS c s t→wpAny E.P .any ops Q ops.size (Array.replicate ops.size false) ⟨t,[]⟩ c.w) :
  AW E R.fx.f0 ⟨⟨ag,R.fx.cz,R.fx.aI⟩,.code (.region id ops true)::k,s⟩ R.fx.cls h R:=by
 unfold AW;intro c0 c t ts h0 h1 h2 h3 hr bF h4 h5 cs;have hx:Proofs.YtfmdaiojokniiaaGreatDoor.Ext c.w { c.w with drawn:=c.w.drawn+1 }:=⟨rfl,rfl,rfl,Nat.le_refl _,fun _ _=>rfl⟩;obtain ⟨g1,g2⟩:=h3.grow hx
 let Q:Exit→Act→World→Prop:=fun e a w=>(e = .normal∧a.defers=[])∧∃ (c':Cx) (s':List AV) (h':List ae),AW E R.fx.f0 ⟨⟨ag,R.fx.cz,R.fx.aI⟩,k,s'⟩ R.fx.cls h' R∧aK E.G c'∧c'.heap=h'∧VS c' s' a.tmps∧Step c c'∧w=c'.w
 have OM:(Code.region id ops true).wpIn (uy R.fx.cz) 0 E.P (fun e a w=>a.defers=marks R.fx.aI∧Q e ⟨a.tmps,[]⟩ w) ⟨t,marks R.fx.aI⟩ c.w:=by
  refine wpIn_region_draw fun tt=>?_;simp only [Region.schedule,hm,Bool.true_or,if_true];refine zD R.fx.cz (marks R.fx.aI) (fun e a w he=>he.1) _ t _ (wpAny_sound ops.size tt _ _ _ ?_);exact H (c.dP { c.w with drawn:=c.w.drawn+1 }) t Q (fun a c' s' h' hK r1 r2 r3 r4 r5=>⟨⟨rfl,r3⟩,c',s',h',hK,r1,r2,r4,g2.trans r5,rfl⟩) g1 h2 (g2.vs h4)
 obtain ⟨e,a',w',⟨hd,⟨⟨rfl,-⟩,c',s',h',hA,r1,r2,r4,r5,rfl⟩⟩,ON⟩:=OM (bf ⟨ag,R.fx.cz,R.fx.aI⟩) (k.map aN.bB) (eG R.fx.cls ts++cs) rfl trivial (fun d hd=>by cases hd);unfold AW at hA;obtain ⟨c2,fr,r,v,q1,q2,q3,vV,q4,q5,q6⟩:=hA c0 c' a'.tmps ts h0 (dK h1) r2 r1 (hr.step r5) (bF.step h3 r5) r4 (r5.cr h5) cs;refine ⟨c2,fr,r,v,q1,q2,q3,vV,?_,q5,q6⟩;have Ch:a'=⟨a'.tmps,marks R.fx.aI⟩:=by cases a'; simp only at hd; subst hd; rfl
 have:Steps E.P (lone ((bf ⟨ag,R.fx.cz,R.fx.aI⟩).atR ⟨t,marks R.fx.aI⟩ (.code (.region id ops true)::k.map aN.bB)) (eG R.fx.cls ts++cs) c.w) (lone ((bf ⟨ag,R.fx.cz,R.fx.aI⟩).atR a' (k.map aN.bB)) (eG R.fx.cls ts++cs) c'.w):=StepsIn.steps ON;rw [Ch] at this;exact this.trans q4
end
section
variable {E:Env} {ops:Array Oper} {J:List Nat} {h:List ae} {c:Cx}
theorem VS.xc {s:List AV} {t:Array Value} {H:List ae} (hv:VS c s t) (hh:c.heap=H) (hs:∀ j∈J,H[j]? = h[j]?):VS (c.dS J) (s.map (fe J h)) t:=by
 subst hh;refine ⟨by rw [List.length_map]; exact hv.1,fun i x v hx hu=>?_⟩;rw [List.getElem?_map] at hx;cases hy:s[i]? with
 |none=>rw [hy] at hx; cases hx
 |some y =>
  rw [hy] at hx;cases hx;rw [← GL hs];exact Gx (hv.2 i y v hy hu)
structure Seen (J:List Nat) (h h1 H:List ae):Prop where
 nodup:J.Nodup
 lt:∀ j∈J,j<h.length
 len:h.length+(h1.length - J.length)≤H.length
 same:∀ j∈J,H[j]? = h[j]?
 new:∀ j∈dn J h h1,H[j]? = some .hole
theorem iV.xc {o:Oper} {s:List AV} {H h1:List ae} {v:AV} (hw:iN ops o (dB (eI ops o) 0 s) true) (ho:bC E o.op ((dB (eI ops o) 0 s).map (fe J h)) (dM J h) v h1) (hs:Seen J h h1 H):iV E ops o s H (gX J h v) (fg (J++dn J h h1) (ek J h h1) H):=fun c a k1 h2 _ h4 j hj K Q hK=>by
 obtain ⟨c1,u,d1,rfl,k3,r1,st⟩:=ho o (c.dS J) a rfl (by rw [← Cn hs.same,← h2]; rfl) (k1.dS hs.nodup) (h4.xc h2 hs.same);subst h2;have hb:jS c c1 J h:=⟨hs.nodup,hs.lt,hs.len,hs.same,hs.new,(Rel.refl _ N1).step st,fun i b n hi=>(k3.br i b n hi).2⟩;have:=hK (c.take c1 J h) u (k1.take k3 hb) rfl (y7 k1 hb) (Ck k1 hb r1);unfold wpOp;simp only [hj,hw c a.tmps h4,if_true];left;unfold Oper.wp;rcases d1 with d1 | ⟨d1,rfl⟩
 ·rw [show c.w=(c.dS J).w from rfl,d1]; exact this
 ·rw [show c.w=(c.dS J).w from rfl,d1]; exact this
theorem iV.CU {o:Oper} {s:List AV} {H h1:List ae} {fx:Operand} {args:Array Operand} {ts:Array TypeId} {f:FuncId} {a1 a2 av:List AV} {r:AV} (hw:iN ops o (dB (eI ops o) 0 s) true) (ho:o.op = .call { callee := .value fx,args:=args,argTypes:=ts })
  (hf:aY E.G (dB (eI ops o) 0 s) fx (.fn (.func f) a1 a2)) (ha:im E.G (dB (eI ops o) 0 s) args.toList av) (hc:au E f (dM J h) ((a1++av++a2).map (fe J h)) (fun a b=>a=r∧b=h1)) (hs:Seen J h h1 H):iV E ops o s H (gX J h r) (fg (J++dn J h h1) (ek J h h1) H):=fun c a k1 h2 _ h4 j hj K Q hK=>by
 unfold wpOp;simp only [hj,hw c a.tmps h4,if_true];left;obtain ⟨v1,v2,e1,e2,e3⟩:=jO (hf c a k1 h4);have e5:=(e2.append (ha c a k1 h4)).append e3;have hb:qc E.P f:=by unfold au at hc; exact hc.1
 subst h2;have fP:=hc.N5 (c:=c) hs.nodup hs.lt hs.same (fun r' h' ⟨_,q⟩=>by subst q; exact ⟨hs.len,hs.new⟩) k1 e5;have cn:=vT (P:=E.P) (w:=c.w) (a:=a) ho e1 hb;have gT:(v1.toArray++args.map a.eval++v2.toArray)=(v1++args.toList.map a.eval++v2).toArray:=by
  apply Array.ext';simp
 rw [gT] at cn;unfold Oper.wp;rw [cn,Oper.upon_enter];refine fP.mono fun e w' he=>?_;obtain ⟨c',r',rS,v,rfl,rfl,⟨rfl,rfl⟩,q1,q2,q3,q4⟩:=he;exact hK c' v q3 q1 q4 q2
def uz (x y:AV):Bool:=match y with
 | .any=>match x with
  | .any=>true
  |_=>false
 |_=>true
def xd {β:Type} (f:β→Bool):List β→Bool
 | []=>true
 |a::l=>match f a with
  |true=>xd f l
  |false=>false
theorem CV {β:Type} {f:β→Bool}:∀ {l:List β},xd f l=true→∀ x∈l,f x=true
 | [],_,_,h=>by simp at h
 |a::l,H,x,h=>by
  unfold xd at H;split at H
  ·rename_i q;rcases List.mem_cons.1 h with rfl | h
   ·exact q
   ·exact CV H x h
  ·cases H
def uA (J:List Nat) (h:List ae):Bool:=xd (fun j=>match di h j with
 |some (.cells cs)=>xd (fun x=>uz x (fE J h x)) cs
 |_=>true) J
theorem OO {x:AV} (H:uz x (fE J h x)=true):jv J h (fE J h x)=x:=by
 have ri:∀ {j i:Nat},cM J j=some i→ff J h i=j∧mu J h i=lx h j:=fun hi=>by simp only [ff,mu,dH,iR hi,and_self]
 cases x;all_goals (try (simp only [fE] at H ⊢))
 all_goals first
  |rfl
  |(simp only [uz] at H; cases H; done)
  |(split at H
    · rename_i hi;split at H
      · rename_i hb;first
          | (split at H
             · rename_i q;have := Nat.eq_of_beq_eq_true q;simp only [jv, ri hi, lx, hb, this, Nat.add_zero]
             · simp only [uz] at H; cases H)
          | simp only [jv, ri hi]
      · simp only [uz] at H; cases H
    · simp only [uz] at H; cases H)
theorem Hu (hc:uA J h=true):ek J h (dM J h)=h:=by
 refine List.ext_getElem? fun j=>?_;rcases Nat.lt_or_ge j h.length with hl | hl
 ·cases hx:cM J j with
  |none=>exact Ce hl hx
  |some i =>
   have hj:h[j]? = some h[j]:=List.getElem?_eq_getElem hl;rw [Gu hl hx (qm (iR hx) hj),hj];have hq:=CV hc j (List.mem_of_getElem? (iR hx));simp only [dH,hj] at hq;cases hb:h[j] with
   |cells cs =>
    rw [hb] at hq;have:(cs.map (fE J h)).map (jv J h)=cs:=by
     rw [List.map_map];exact (List.map_congr_left fun x hx=>OO (CV hq x hx)).trans (List.map_id _)
    simp only [ng,kC,this]
   |arr g ts l=>simp only [ng,kC,lx,dH,hj,hb,Nat.add_zero]
   |map es=>rfl
   |gone=>rfl
   |hole=>rfl
 ·rw [List.getElem?_eq_none hl,List.getElem?_eq_none (by rw [ql]; simp [dM]; exact hl)]
end
def kE (h:List ae) (b:Nat):Option ae:=if b<h.length then h[b]? else some .hole
structure pc (E:Env) (ops:Array Oper) (o:Oper) (s:List AV) (h:List ae) (v:AV) (h':List ae) (t w:List Nat):Prop where
 len:h.length≤h'.length
 old:∀ b,b<h.length→b ∉ w→h'[b]? = h[b]?
 new:∀ b,h.length≤b→b<h'.length→b∈w
 sub:∀ b∈w,b∈t
 lt:∀ b∈t,b<h'.length
 act:∀ H:List ae,h'.length≤H.length→(∀ b∈t,H[b]? = kE h b)→iV E ops o s H v (fg w h' H)
section
variable {E:Env} {ops:Array Oper} {o:Oper} {s:List AV} {h:List ae} {v:AV}
theorem pc.same {t:List Nat} (hl:∀ b∈t,b<h.length) (H:∀ H:List ae,h.length≤H.length→(∀ b∈t,H[b]? = h[b]?)→iV E ops o s H v H):pc E ops o s h v h t [] where
 len:=Nat.le_refl _
 old:=fun _ _ _=>rfl
 new:=fun b h1 h2=>by omega
 sub:=fun b h=>by simp at h
 lt:=hl
 act:=fun X h1 h2=>by
  rw [show fg [] h X=X from List.ext_getElem? fun j=>oa (by simp)];exact H X h1 fun b hb=>by rw [h2 b hb,kE,if_pos (hl b hb)]
theorem Hv {J:List Nat} {h1 H:List ae} (hn:J.Nodup) (aj:∀ j∈J,j<h.length) (h2:(ek J h h1).length≤H.length) (h3:∀ b∈J++dn J h h1,H[b]? = kE h b):Seen J h h1 H :=
 ⟨hn,aj,by rwa [ql] at h2,fun j hj=>by rw [h3 j (List.mem_append_left _ hj),kE,if_pos (aj j hj)],fun j hj=>by rw [h3 j (List.mem_append_right _ hj),kE,if_neg (by have:=nh.1 hj; omega)]⟩
theorem pc.of {J:List Nat} {h1:List ae} (hn:J.Nodup) (aj:∀ j∈J,j<h.length) (H:∀ H,Seen J h h1 H→iV E ops o s H v (fg (J++dn J h h1) (ek J h h1) H)):pc E ops o s h v (ek J h h1) (J++dn J h h1) (J++dn J h h1) where
 len:=by rw [ql]; omega
 old:=fun b hb hm=>Ce hb (by
  cases hx:cM J b with
  |none=>rfl
  |some i=>exact absurd (List.mem_append_left _ (List.mem_of_getElem? (iR hx))) hm)
 new:=fun b h2 h3=>List.mem_append_right _ (nh.2 ⟨h2,by rwa [ql] at h3⟩)
 sub:=fun _ h=>h
 lt:=fun b hb=>by
  rw [ql];rcases List.mem_append.1 hb with h | h
  ·have:=aj b h; omega
  ·exact (nh.1 h).2
 act:=fun X h2 h3=>H X (Hv hn aj h2 h3)
theorem pc.read {J:List Nat} (hn:J.Nodup) (aj:∀ j∈J,j<h.length) (hc:uA J h=true) (H:∀ H,Seen J h (dM J h) H→iV E ops o s H v (fg (J++dn J h (dM J h)) (ek J h (dM J h)) H)):pc E ops o s h v h J []:=by
 have e:dn J h (dM J h)=[]:=by simp [dn,dM]
 refine .same aj fun X h1 h2=>?_;have:=H X (Hv hn aj (by rw [Hu hc]; exact h1) (fun b hb=>by rw [e,List.append_nil] at hb; rw [h2 b hb,kE,if_pos (aj b hb)]));rw [e,List.append_nil,Hu hc] at this
 rwa [show fg J h X=X from List.ext_getElem? fun j=>by
  by_cases hj:j∈J
  ·rw [wy hj (by have:=aj j hj; omega) (List.getElem?_eq_getElem (aj j hj)),h2 j hj,List.getElem?_eq_getElem (aj j hj)]
  ·exact oa hj] at this
end
def nn:List Nat→List Nat→Bool
 | [],_=>false
 |a::l,m=>match r9 a m with
  |true=>true
  |false=>nn l m
theorem zE:∀ {l m:List Nat},nn l m=true↔∃ b,b∈l∧b∈m
 | [],m=>by simp [nn]
 |a::l,m=>by
  simp only [nn];split
  ·rename_i q; simp [zg.1 q]
  ·rename_i q;rw [zE];have:a ∉ m:=fun h=>by rw [zg.2 h] at q; cases q
   simp [this]
abbrev fQ:=List Nat × List Nat
def uB (a b:fQ):Prop:=(∃ x,x∈a.2∧x∈b.1)∨∃ x,x∈b.2∧x∈a.1
def kF (j:Nat) (t w:List Nat):List (Nat × fQ)→List (Nat × Nat)→List (Nat × Nat)
 | [],aT=>aT
 |(i,t',w')::r,aT=>match nn w' t with
  |true=>kF j t w r ((i,j)::aT)
  |false=>match nn w t' with
   |true=>kF j t w r ((i,j)::aT)
   |false=>kF j t w r aT
def dN (j:Nat) (t w:List Nat):List (Nat × fQ)→List (Nat × Nat)→(List (Nat × Nat)→Prop)→Prop
 | [],aT,k=>k aT
 |(i,t',w')::r,aT,k=>match nn w' t with
  |true=>dN j t w r ((i,j)::aT) k
  |false=>match nn w t' with
   |true=>dN j t w r ((i,j)::aT) k
   |false=>dN j t w r aT k
theorem lF {j:Nat} {t w:List Nat}:∀ {acc:List (Nat × fQ)} {aT:List (Nat × Nat)} {k:List (Nat × Nat)→Prop},dN j t w acc aT k=k (kF j t w acc aT)
 | [],_,_=>rfl
 |(i,t',w')::r,aT,k=>by
  simp only [dN,kF];split
  ·exact lF
  ·split <;> exact lF
theorem CW {j:Nat} {t w:List Nat} {P:Nat→Nat→Prop}:∀ {acc:List (Nat × fQ)} {aT:List (Nat × Nat)},(∀ p∈kF j t w acc aT,P p.1 p.2)→(∀ p∈aT,P p.1 p.2)∧∀ x∈acc,uB x.2 (t,w)→P x.1 j
 | [],aT,H=>⟨H,fun x hx=>by simp at hx⟩
 |(i,t',w')::r,aT,H=>by
  simp only [kF] at H;have yes:(∀ p∈kF j t w r ((i,j)::aT),P p.1 p.2)→(∀ p∈aT,P p.1 p.2)∧∀ x∈(i,t',w')::r,uB x.2 (t,w)→P x.1 j:=fun H=>by
   obtain ⟨h1,h2⟩:=CW H;exact ⟨fun p hp=>h1 p (List.mem_cons_of_mem _ hp),fun x hx hc=>(List.mem_cons.1 hx).elim (fun e=>by subst e; exact h1 (i,j) (List.mem_cons_self ..)) fun h=>h2 x h hc⟩
  split at H
  ·exact yes H
  ·rename_i q1;split at H
   ·exact yes H
   ·rename_i q2;obtain ⟨h1,h2⟩:=CW H;refine ⟨h1,fun x hx hc=>(List.mem_cons.1 hx).elim (fun e=>?_) fun h=>h2 x h hc⟩;subst e;rcases hc with hc | hc
    ·rw [zE.2 hc] at q1; cases q1
    ·rw [zE.2 hc] at q2; cases q2
def dp (j:Nat) (t w:List Nat) (acc:List (Nat × fQ)):List (Nat × fQ):=match t with
 | []=>acc
 |_::_=>(j,t,w)::acc
def gg (E:Env) (ops:Array Oper) (K:List AV→List ae→Prop):Nat→List Oper→List (Nat × fQ)→List (Nat × Nat)→List AV→List ae→Prop
 |_,[],_,aT,s,h=>(∀ p∈aT,iU ops p.1 p.2)∧K s h
 |j,o::l,acc,aT,s,h=>∃ v h' t w,pc E ops o s h v h' t w∧gg E ops K (j+1) l (dp j t w acc) (kF j t w acc aT) (b9 s o.dst v) h'
section
variable {E:Env} {ops:Array Oper}
theorem gg.lay {K:List AV→List ae→Prop}:∀ {l:List Oper} {j:Nat} {acc:List (Nat × fQ)} {aT:List (Nat × Nat)} {s:List AV} {h:List ae},gg E ops K j l acc aT s h →
  ∃ (pl:List (Oper × AV)) (hp:Nat→List ae) (tw:Nat→fQ),pl.map (·.1)=l∧hp 0=h∧K (cur pl (fun k=>decide (k<pl.length)) 0 s) (hp pl.length)∧(∀ p∈aT,iU ops p.1 p.2) ∧
   (∀ k o v,pl[k]? = some (o,v)→pc E ops o (cur pl (fun i=>decide (i<k)) 0 s) (hp k) v (hp (k+1)) (tw k).1 (tw k).2) ∧
   (∀ x∈acc,∀ k,k<pl.length→uB x.2 (tw k)→iU ops x.1 (j+k))∧(∀ i k,i<k→k<pl.length→uB (tw i) (tw k)→iU ops (j+i) (j+k))∧h.length≤(hp pl.length).length
 | [],j,acc,aT,s,h,H=>⟨[],fun _=>h,fun _=>([],[]),rfl,rfl,H.2,H.1,fun k o v hk=>by simp at hk,fun x _ k hk=>by simp at hk,fun i k _ hk=>by simp at hk,Nat.le_refl _⟩
 |o::l,j,acc,aT,s,h,H=>by
  obtain ⟨v,h',t,w,hf,H⟩:=H;obtain ⟨pl,hp,tw,k1,k2,k3,k4,k5,k6,k7,k9⟩:=gg.lay H;obtain ⟨k4,k8⟩:=CW (P:=iU ops) k4;have shift:∀ (pl:List (Oper × AV)) (n:Nat) (s:List AV),cur pl (fun k=>decide (k<n+1)) (0+1) s=cur pl (fun k=>decide (k<n)) 0 s:=fun pl n s=>by
   rw [Hl 1]
   congr 1
   funext k;simp
  have mono:∀ x∈acc,x∈dp j t w acc:=fun x hx=>by unfold dp; split; exact hx; exact List.mem_cons_of_mem _ hx
  refine ⟨(o,v)::pl,fun n=>match n with | 0=>h | n+1=>hp n,fun n=>match n with | 0=>(t,w) | n+1=>tw n,by simp [k1],rfl,?_,k4,fun k o' v' hk=>?_,fun x hx k hk hc=>?_,fun i k eO hk hc=>?_,Nat.le_trans hf.len k9⟩
  ·rw [cur];simp only [List.length_cons,Nat.zero_lt_succ,decide_true,if_true];rw [shift];exact k3
  ·cases k with
   |zero =>
    simp at hk;obtain ⟨rfl,rfl⟩:=hk;rw [w9 _ _ _ _ (fun k _=>decide_eq_false (by omega))];simp only [k2];exact hf
   |succ k =>
    have:=k5 k o' v' (by simpa using hk);rw [cur];simp only [Nat.zero_lt_succ,decide_true,if_true];rw [shift];exact this
  ·cases k with
   |zero=>exact k8 x hx hc
   |succ k=>have:=k6 x (mono x hx) k (by simpa using hk) hc; rwa [show j+1+k=j+(k+1) by omega] at this
  ·cases k with
   |zero=>omega
   |succ k =>
    have iP:k<pl.length:=by simpa using hk
    cases i with
    |zero =>
     refine (?_:iU ops j (j+(k+1)));have hm:(j,t,w)∈dp j t w acc:=by
      unfold dp;split
      ·rcases hc with ⟨x,hx,-⟩ | ⟨x,-,hx⟩
       ·exact absurd (hf.sub x hx) (by simp)
       ·exact absurd hx (by simp)
      ·exact List.mem_cons_self ..
     have:=k6 _ hm k iP hc
     rwa [show j+1+k=j+(k+1) by omega] at this
    |succ i=>have:=k7 i k (by omega) iP hc; rwa [show j+1+i=j+(i+1) by omega,show j+1+k=j+(k+1) by omega] at this
def gY (w:Nat→List Nat) (hp:Nat→List ae) (L:Nat→Bool) (H:List ae):Nat→List ae
 | 0=>H
 |n+1=>if L n then fg (w n) (hp (n+1)) (gY w hp L H n) else gY w hp L H n
variable {w:Nat→List Nat} {hp:Nat→List ae} {L L':Nat→Bool} {H:List ae}
theorem xe:∀ n,(gY w hp L H n).length=H.length
 | 0=>rfl
 |n+1=>by
  rw [gY];split
  ·rw [Gv,xe n]
  ·exact xe n
theorem CX {b:Nat}:∀ n,(∀ i,i<n→b∈w i→L i=L' i)→(gY w hp L H n)[b]? = (gY w hp L' H n)[b]?
 | 0,_=>rfl
 |n+1,h=>by
  have ih:=CX n (fun i hi=>h i (by omega));rw [gY,gY];by_cases hb:b∈w n
  ·rw [h n (by omega) hb];split
   ·rw [o0,o0,ih]
   ·exact ih
  ·have e:∀ (q:Bool) (X:List ae),(if q then fg (w n) (hp (n+1)) X else X)[b]? = X[b]? := fun q X=>by
    cases q
    ·rfl
    ·exact oa hb
   rw [e,e];exact ih
theorem CY {j:Nat} (h:∀ i,j≤i→L i=false):∀ n,j≤n→gY w hp L H n=gY w hp L H j
 | 0,hn=>by rw [show j=0 by omega]
 |n+1,hn=>by
  rcases Nat.lt_or_ge n j with hl | hl
  ·rw [show j=n+1 by omega]
  ·rw [gY,h n hl];exact CY h n hl
theorem OP {a b:List Nat} {x y z:List ae} (h:∀ i∈a,i ∉ b):fg a x (fg b y z)=fg b y (fg a x z):=by
 refine List.ext_getElem? fun j=>?_;by_cases ha:j∈a
 ·rw [o0,oa (h j ha),oa (h j ha),o0]
 ·rw [oa ha,o0,o0,oa ha]
theorem Hw {j:Nat} (hj:L j=false) (dI:L' j=true) (ho:∀ i,i≠j→L' i=L i) (hc:∀ i,j<i→L i=true→∀ b∈w j,b ∉ w i):∀ n,j<n→fg (w j) (hp (j+1)) (gY w hp L H n)=gY w hp L' H n
 | 0,h=>by omega
 |n+1,h=>by
  rw [gY,gY];rcases Nat.lt_or_ge j n with hl | hl
  ·rw [ho n (by omega),← Hw hj dI ho hc n hl];split
   ·rename_i q; exact OP (hc n hl q)
   ·rfl
  ·obtain rfl:j=n:=by omega
   rw [hj,dI];simp only [Bool.false_eq_true,if_false,if_true]
   congr 1
   exact List.ext_getElem? fun b=>CX j fun i hi _=>(ho i (by omega)).symm
theorem CZ {t:Nat→List Nat} {m:Nat} (h0:∀ b,b<H.length→H[b]? = kE (hp 0) b) (hlen:∀ k,k<m→(hp k).length≤(hp (k+1)).length∧(∀ b,b<(hp k).length→b ∉ w k→(hp (k+1))[b]? = (hp k)[b]?)∧(∀ b,(hp k).length≤b→b<(hp (k+1)).length→b∈w k)∧(∀ b∈w k,b∈t k)∧∀ b∈t k,b<(hp (k+1)).length) (hL:∀ i,i<m→L i=true) :
  ∀ n,n≤m→∀ b,b<H.length→(gY w hp L H n)[b]? = kE (hp n) b
 | 0,_,b,hb=>h0 b hb
 |n+1,hn,b,hb=>by
  have ih:=CZ h0 hlen hL n (by omega) b hb;obtain ⟨h1,h2,h3,h4,h5⟩:=hlen n (by omega);rw [gY,hL n (by omega),if_pos rfl];by_cases hm:b∈w n
  ·have hl:=h5 b (h4 b hm);rw [wy hm (by rw [xe]; exact hb) (List.getElem?_eq_getElem hl),kE,if_pos hl,List.getElem?_eq_getElem hl]
  ·rw [oa hm,ih];unfold kE;by_cases hl:b<(hp n).length
   ·rw [if_pos hl,if_pos (by omega),h2 b hl hm]
   ·rw [if_neg hl,if_neg (fun h=>hm (h3 b (by omega) h))]
theorem OQ (hc:CQ ops) {s0:List AV} {pl:List (Oper × AV)} {hp:Nat→List ae} {tw:Nat→fQ} (oP:pl.map (·.1)=ops.toList)
  (hx:∀ k o v,pl[k]? = some (o,v)→pc E ops o (cur pl (fun i=>decide (i<k)) 0 s0) (hp k) v (hp (k+1)) (tw k).1 (tw k).2) (dm:∀ i k,i<k→k<pl.length→uB (tw i) (tw k)→iU ops i k)
  {H:List ae} (hH:H.length=(hp pl.length).length) (h0:∀ b,b<H.length→H[b]? = kE (hp 0) b)
  {Q:Exit→Act→World→Prop} {Kf:List AV→List ae→Prop} {c0:Cx} (iM:Kf (cur pl (fun k=>decide (k<pl.length)) 0 s0) (hp pl.length))
  (hQ:∀ (a:Act) (c:Cx) (s:List AV) (h:List ae),Kf s h→aK E.G c→c.heap=h→a.defers=[]→VS c s a.tmps→Step c0 c→Q .normal a c.w) :
  ∀ (f:Nat) (listed:Array Bool) (a:Act) (c:Cx),aK E.G c→c.heap=gY (fun k=>(tw k).2) hp (cF listed) H ops.size→a.defers=[]→VS c (cur pl (cF listed) 0 s0) a.tmps→Step c0 c→DC ops listed →
   (∀ i,ops.size≤i→cF listed i=false)→lD (cF listed) ops.size≤f→wpAny E.P .any ops Q f listed a c.w:=by
 obtain ⟨hlen,kD⟩:=OA oP;have Hy:∀ k,k<ops.size→∃ o v,pl[k]? = some (o,v):=fun k hk=>⟨(pl[k]'(by omega)).1,(pl[k]'(by omega)).2,by rw [List.getElem?_eq_getElem]⟩;have my:∀ k,k<ops.size→(hp k).length≤(hp (k+1)).length∧(∀ b,b<(hp k).length→b ∉ (tw k).2→(hp (k+1))[b]? = (hp k)[b]?)∧(∀ b,(hp k).length≤b→b<(hp (k+1)).length→b∈(tw k).2)∧(∀ b∈(tw k).2,b∈(tw k).1)∧∀ b∈(tw k).1,b<(hp (k+1)).length:=fun k hk=>by
  obtain ⟨o,v,h⟩:=Hy k hk;have:=hx k o v h;exact ⟨this.len,this.old,this.new,this.sub,this.lt⟩
 have OR:∀ n,n≤ops.size→∀ d,d≤n→(hp (n - d)).length≤(hp n).length:=by
  intro n hn d
  induction d with
  |zero=>intro _; exact Nat.le_refl _
  |succ d ih =>
   intro hd;have h1:=(my (n - (d+1)) (by omega)).1;rw [show n - (d+1)+1=n - d by omega] at h1;exact Nat.le_trans h1 (ih (by omega))
 have hle:∀ k,k≤ops.size→(hp k).length≤H.length:=fun k hk=>by
  have:=OR ops.size (Nat.le_refl _) (ops.size - k) (by omega);rw [show ops.size - (ops.size - k)=k by omega] at this;rw [hH,hlen];exact this
 have done:∀ (listed:Array Bool) (a:Act) (c:Cx),aK E.G c→c.heap=gY (fun k=>(tw k).2) hp (cF listed) H ops.size→a.defers=[]→VS c (cur pl (cF listed) 0 s0) a.tmps→Step c0 c→(∀ i,ops.size≤i→cF listed i=false)→(∀ i,i<ops.size→cF listed i=true)→Q .normal a c.w:=by
  intro listed a c h1 h2 h3 h4 h5 ho aW;have e:cur pl (cF listed) 0 s0=cur pl (fun k=>decide (k<pl.length)) 0 s0:=by
   congr 1
   funext i;rcases Nat.lt_or_ge i ops.size with h | h
   ·rw [aW i h]; simp [hlen,h]
   ·rw [ho i h]; simp [hlen]; omega
  rw [e] at h4;refine hQ a c _ _ iM h1 (h2.trans ?_) h3 h4 h5;refine List.ext_getElem? fun b=>?_;rcases Nat.lt_or_ge b H.length with hb | hb
  ·rw [CZ h0 my aW ops.size (Nat.le_refl _) b hb,hlen,kE,if_pos (by rw [← hlen,← hH]; exact hb)]
  ·rw [List.getElem?_eq_none (by rw [xe]; exact hb),List.getElem?_eq_none (by omega)]
 intro f
 induction f with
 |zero =>
  intro listed a c h1 h2 h3 h4 h5 hd ho zF;have aW:∀ i,i<ops.size→cF listed i=true:=fun i hi=>OB zF hi;refine ⟨?_,done listed a c h1 h2 h3 h4 h5 ho aW⟩;apply List.eq_nil_iff_forall_not_mem.2;intro i hi;obtain ⟨k1,k2⟩:=CS hd hi;rw [aW i k2] at k1;cases k1
 |succ f ih =>
  intro listed a c h1 h2 h3 h4 h5 hd ho zF;refine ⟨fun hr=>?_,fun i hi=>?_⟩
  ·refine done listed a c h1 h2 h3 h4 h5 ho (fun i hi=>?_);cases hl:cF listed i with
   |true=>rfl
   |false =>
    obtain ⟨k,-,hk⟩:=Ow hc hd hi hl;rw [hr] at hk;cases hk
  obtain ⟨qE,fO⟩:=CS hd hi;obtain ⟨o,v,sq⟩:=Hy i fO;have oS:=kD i o v sq;obtain ⟨OS,OT⟩:=Oy hc.pair kD hd hi sq h4;have iW:=fun q=>Ho (i:=q) (show i<listed.size by rw [hd.1]; exact fO);have OU:lD (cF (listed.setIfInBounds i true)) ops.size≤f:=by
   have:=(Hp (L:=cF listed) (L':=cF (listed.setIfInBounds i true)) (j:=i) (fun q hq=>by rw [iW]; simp [hq]) qE (by rw [iW]; simp) ops.size).1 fO;omega
  have hF:=hx i o v sq;have later:∀ k,i<k→cF listed k=true→¬ uB (tw i) (tw k):=fun k hk hl lE=>by
   have y4:k<ops.size:=Nat.lt_of_not_le fun h=>by rw [ho k h] at hl; cases hl
   rw [hd.dep (dm i k hk (by omega) lE) hl] at qE;cases qE
  have agree:∀ b∈(tw i).1,(c.heap)[b]? = kE (hp i) b:=fun b hb=>by
   have eu:b<H.length:=Nat.lt_of_lt_of_le (hF.lt b hb) (hle (i+1) fO);rw [h2,← CZ (L:=fun k=>decide (k<i)) h0 (fun k hk=>my k (by omega)) (fun k hk=>by simp [hk]) i (Nat.le_refl i) b eu,← CY (L:=fun k=>decide (k<i)) (fun k hk=>by simp; omega) ops.size (Nat.le_of_lt fO)];refine CX _ fun k hk hw=>?_;rcases Nat.lt_trichotomy k i with aj | rfl | rR
   ·rw [hd.ready hi (dm k i aj (by omega) (.inl ⟨b,hw,hb⟩))]; simp [aj]
   ·rw [qE]; simp
   ·have:cF listed k=false:=by
     cases hl:cF listed k with
     |false=>rfl
     |true=>exact absurd (.inr ⟨b,hw,hb⟩) (later k rR hl)
    rw [this]; simp; omega
  refine hF.act c.heap (by rw [h2,xe]; exact hle (i+1) fO) agree c a h1 rfl h3 OT i oS _ _ (fun c' u k1 k2 k3 k4=>?_);refine ih _ _ c' k1 ?_ (by rw [qG]; exact h3) (OS c' u (fun _ _=>k3.vr) k4) (h5.trans k3) (hd.set hi) (fun q hq=>by rw [iW,ho q hq]; simp; omega) OU;rw [k2,h2];exact Hw (w:=fun k=>(tw k).2) qE (by rw [iW]; simp) (fun q hq=>by rw [iW]; simp [hq]) (fun k hk hl b hb bZ=>later k hk hl (.inr ⟨b,bZ,hF.sub b hb⟩)) ops.size fO
end
@[irreducible] def bG (E : Env) (ag : FuncId) (R : cw) (ops : Array Oper) (k : List aN) (Ob : List Nat) (j : Nat) (eQ : List Oper) (acc : List (Nat × fQ)) (aT : List (Nat × Nat)) (s : List AV) (h : List ae) : Prop :=
 gg E ops (fun s2 h2=>I E ag R [] k s2 h2) j eQ acc aT s h
@[irreducible] def uC (E : Env) (f : FuncId) (h0 : List ae) (args : List AV) (K1 : AV → List ae → Prop) (K2 : AV → Prop) : Prop :=
 (∃ r h1,au E f h0 args (fun a b=>a=r∧b=h1)∧K1 r h1)∨∃ r,au E f h0 args (fun a b=>a=r∧b=h0)∧K2 r
theorem C0 {E:Env} {f:FuncId} {h0:List ae} {args:List AV} {K1:AV→List ae→Prop} {K2:AV→Prop} {r:AV} {h1:List ae} (H:au E f h0 args (fun a b=>a=r∧b=h1)) (hk:K1 r h1):uC E f h0 args K1 K2:=by unfold uC; exact .inl ⟨r,h1,H,hk⟩
theorem iX {E:Env} {f:FuncId} {h0:List ae} {args:List AV} {K1:AV→List ae→Prop} {K2:AV→Prop} {r:AV} (H:au E f h0 args (fun a b=>a=r∧b=h0)) (hk:K2 r):uC E f h0 args K1 K2:=by unfold uC; exact .inr ⟨r,H,hk⟩
def zG:Nat→Nat→(List Nat→Prop)→Prop
 |_,0,k=>k []
 |n,m+1,k=>zG (n+1) m fun l=>k (n::l)
theorem Hz:∀ {m n:Nat} {k:List Nat→Prop},zG n m k=k (List.range' n m)
 | 0,_,_=>rfl
 |m+1,n,k=>by rw [zG,Hz]; rfl
def iY (J:List Nat) (h h':List ae) (k:List Nat→Prop):Prop:=nj h 0 fun n=>nj h' 0 fun m=>zG n (m - n) fun l=>qu J l k
theorem sr {J:List Nat} {h h1:List ae} {k:List Nat→Prop}:iY J h (ek J h h1) k=k (J++dn J h h1):=by
 simp only [iY,rZ,Nat.zero_add,Hz,ub,dn,ql,Nat.add_sub_cancel_left]
def xf (E:Env) (f:FuncId) (gd:List AV) (h:List ae) (stop:Prop) (k1:List Nat→AV→List ae→Prop) (k2:List Nat→AV→Prop):Prop :=
 o6 h gd [] fun wK=>qy h 20 0 wK fun J=>nj h 0 fun n=>match ue n J with
  |true=>wH J h fun h0=>ix (wG J h) gd fun Cw=>uC E f h0 Cw (fun r h1=>eN J h r fun v=>iy J h h1 fun h'=>iY J h h' fun ws=>k1 ws v h') fun r=>uA J h=true∧eN J h r fun v=>k2 J v
  |false=>stop
theorem OV {E:Env} {f:FuncId} {gd:List AV} {h:List ae} {stop:Prop} {k1:List Nat→AV→List ae→Prop} {k2:List Nat→AV→Prop} (H:xf E f gd h stop k1 k2):stop∨∃ (J:List Nat),J.Nodup∧(∀ j∈J,j<h.length) ∧
  ((∃ r h1,au E f (dM J h) (gd.map (fe J h)) (fun a b=>a=r∧b=h1)∧k1 (J++dn J h h1) (gX J h r) (ek J h h1))∨∃ r,au E f (dM J h) (gd.map (fe J h)) (fun a b=>a=r∧b=dM J h)∧uA J h=true∧k2 J (gX J h r)):=by
 unfold xf at H;obtain ⟨s0,H⟩:=sd H;obtain ⟨J,H⟩:=ug H;rw [rZ,Nat.zero_add] at H;split at H
 ·rename_i q;obtain ⟨h1,h2⟩:=zh q;rw [Cu,oc (Cr J h)] at H;unfold uC at H;refine .inr ⟨J,h1,h2,?_⟩;rcases H with ⟨r,hp,h3,h4⟩ | ⟨r,h3,h4,h5⟩
  ·rw [ly,o5,sr] at h4;exact .inl ⟨r,hp,h3,h4⟩
  ·rw [ly] at h5;exact .inr ⟨r,h3,h4,h5⟩
 ·exact .inl H
def xg (s:List AV) (h:List ae):List Nat→List Nat→(List Nat→Prop)→Prop
 | [],J,k=>k J
 |d::l,J,k=>aM s d (xg s h l J k) fun x=>o6 h [x] J fun lz=>xg s h l lz k
theorem C1 {s:List AV} {h:List ae}:∀ {l:List Nat} {J:List Nat} {k:List Nat→Prop},xg s h l J k→∃ l,k l
 | [],_,_,H=>⟨_,H⟩
 |_::_,_,_,H=>by
  simp only [xg] at H;rcases a7 H with H | ⟨x,-,H⟩
  ·exact C1 H
  ·obtain ⟨_,H⟩:=sd (l:=[x]) H;exact C1 H
def xi (J:List Nat) (h:List ae) (keep:List Nat):Nat→List AV→(List AV→Prop)→Prop
 |_,[],k=>k []
 |i,x::s,k=>match iS i keep with
  |true=>wG J h x fun y=>xi J h keep (i+1) s fun s'=>k (y::s')
  |false=>xi J h keep (i+1) s fun s'=>k (.any::s')
theorem C2 {J:List Nat} {h:List ae} {keep:List Nat}:∀ {i:Nat} {s:List AV} {k:List AV→Prop},xi J h keep i s k=k ((dB keep i s).map (fe J h))
 |_,[],_=>rfl
 |i,x::s,k=>by
  simp only [xi,dB,List.map_cons];split
  ·rw [Cr,C2]
  ·rw [C2]; rfl
def xj (ops:Array Oper) (o:Oper) (s:List AV) (h:List ae) (stop:Prop) (k:List Nat→List AV→List ae→Prop):Prop :=
 xg s h (eI ops o) [] fun wK=>qy h 20 0 wK fun J=>nj h 0 fun n=>match ue n J with
  |true=>xi J h (eI ops o) 0 s fun sC=>wH J h fun hC=>k J sC hC
  |false=>stop
theorem HA {ops:Array Oper} {o:Oper} {s:List AV} {h:List ae} {stop:Prop} {k:List Nat→List AV→List ae→Prop} (H:xj ops o s h stop k):stop∨∃ J,J.Nodup∧(∀ j∈J,j<h.length)∧k J ((dB (eI ops o) 0 s).map (fe J h)) (dM J h):=by
 unfold xj at H;obtain ⟨s0,H⟩:=C1 H;obtain ⟨J,H⟩:=ug H;rw [rZ,Nat.zero_add] at H;split at H
 ·rename_i q;obtain ⟨h1,h2⟩:=zh q;rw [C2,Cu] at H;exact .inr ⟨J,h1,h2,H⟩
 ·exact .inl H
def HB:Op→Bool
 | .call { callee := .value _,.. }=>true
 |_=>false
section
variable (E:Env) (ag:FuncId) (R:cw) (ops:Array Oper) (k:List aN)
def iZ:Nat→List Nat→Nat→List Oper→List (Nat × fQ)→List (Nat × Nat)→List AV→List ae→Prop
 | 0,lits,j,eQ,acc,aT,s,h=>bG E ag R ops k lits j eQ acc aT s h
 |m+1,lits,j,eQ,acc,aT,s,h =>
  match eQ with
  | []=>match aT with
   | []=>I E ag R [] k s h
   |_::_=>Hj ops aT=true∧I E ag R [] k s h
  |o::l =>
   let stop:Prop:=bG E ag R ops k lits j eQ acc aT s h
   let skip:Prop:=cb s o.dst (.d .undef) fun s'=>iZ m lits (j+1) l acc aT s' h
   let go:Prop:=match HB o.op with
    |true=>ux (eI ops o) 0 s fun so=>wN E.G so o stop fun f gd=>oK gd
     (xf E f gd h stop (fun ws v h'=>dN j ws ws acc aT fun cg=>cb s o.dst v fun s'=>bG E ag R ops k lits (j+1) l (dp j ws ws acc) cg s' h') fun J v=>dN j J [] acc aT fun cg=>cb s o.dst v fun s'=>bG E ag R ops k lits (j+1) l (dp j J [] acc) cg s' h)
     fun ds=>qF E f ds h (fun v=>cb s o.dst (.d v) fun s'=>bG E ag R ops k lits (j+1) l acc aT s' h) fun v h'=>iY [] h h' fun ws=>dN j ws ws acc aT fun cg=>cb s o.dst v fun s'=>bG E ag R ops k lits (j+1) l (dp j ws ws acc) cg s' h'
    |false=>xj ops o s h stop fun J sC hC=>match pb o.op&&uA J h with
     |true=>kr E.T E.G o.op sC hC (wh E o.op sC (n4 E o.op sC hC (wi E o.op sC hC stop fun x h1=>eN J h x fun v=>iy J h h1 fun h'=>iY J h h' fun ws=>dN j ws ws acc aT fun cg=>cb s o.dst v fun s'=>bG E ag R ops k lits (j+1) l (dp j ws ws acc) cg s' h') fun x _=>eN J h x fun v=>dN j J [] acc aT fun cg=>cb s o.dst v fun s'=>bG E ag R ops k lits (j+1) l (dp j J [] acc) cg s' h)
       fun x=>eN J h x fun v=>dN j J [] acc aT fun cg=>cb s o.dst v fun s'=>iZ m lits (j+1) l (dp j J [] acc) cg s' h)
       fun x _=>eN J h x fun v=>dN j J [] acc aT fun cg=>cb s o.dst v fun s'=>iZ m lits (j+1) l (dp j J [] acc) cg s' h
     |false=>kr E.T E.G o.op sC hC (wj E o.op sC hC (n4 E o.op sC hC stop fun x h1=>eN J h x fun v=>iy J h h1 fun h'=>iY J h h' fun ws=>dN j ws ws acc aT fun cg=>cb s o.dst v fun s'=>bG E ag R ops k lits (j+1) l (dp j ws ws acc) cg s' h')
      fun x h1=>eN J h x fun v=>iy J h h1 fun h'=>iY J h h' fun ws=>dN j ws ws acc aT fun cg=>cb s o.dst v fun s'=>iZ m lits (j+1) l (dp j ws ws acc) cg s' h')
      fun x h1=>eN J h x fun v=>iy J h h1 fun h'=>iY J h h' fun ws=>dN j ws ws acc aT fun cg=>cb s o.dst v fun s'=>iZ m lits (j+1) l (dp j ws ws acc) cg s' h'
   zm ops o.guard go stop fun d b=>aM s d stop fun
    | .d (.bool t)=>match iS d lits with
     |false=>lA t (fy s d (.d (.bool true)) fun s'=>bG E ag R ops k (d::lits) j eQ acc aT s' h) (fy s d (.d (.bool false)) fun s'=>bG E ag R ops k (d::lits) j eQ acc aT s' h)
     |true=>match GV t b with
      |true=>go
      |false=>skip
    | .d .undef=>skip
    |_=>stop
end
section
variable {E:Env} {ag:FuncId} {R:cw} {ops:Array Oper} {k:List aN} {lits:List Nat} {j:Nat} {eQ:List Oper} {acc:List (Nat × fQ)} {aT:List (Nat × Nat)} {s:List AV} {h:List ae}
theorem bG.is (H:bG E ag R ops k lits j eQ acc aT s h):bG E ag R ops k lits j eQ acc aT s h:=H
theorem bG.to (H:bG E ag R ops k lits j eQ acc aT s h):gg E ops (fun s2 h2=>I E ag R [] k s2 h2) j eQ acc aT s h:=by unfold bG at H; exact H
theorem HC:∀ {acc:List (Nat × fQ)} {aT:List (Nat × Nat)},kF j [] [] acc aT=aT
 | [],_=>rfl
 |(i,t',w')::r,aT=>by
  have h1:nn w' []=false:=by
   cases q:nn w' [] with
   |false=>rfl
   |true=>obtain ⟨b,-,hb⟩:=zE.1 q; simp at hb
  simp only [kF,h1,nn];exact HC
theorem HD {keep:List Nat}:∀ {i d:Nat} {s:List AV},i+d∈keep→(dB keep i s)[d]? = s[d]?
 |_,_,[],_=>rfl
 |i,0,x::s,h=>by
  rw [Nat.add_zero] at h;simp only [dB,w8.2 h,List.getElem?_cons_zero]
 |i,d+1,x::s,h=>by
  simp only [dB,List.getElem?_cons_succ];exact HD (by rwa [show i+1+d=i+(d+1) by omega])
variable {o:Oper} {l:List Oper} {K:List AV→List ae→Prop}
theorem C3 {v:AV} (hf:∀ H,iV E ops o s H v H) (H:gg E ops K (j+1) l acc aT (b9 s o.dst v) h):gg E ops K j (o::l) acc aT s h :=
 ⟨v,h,[],[],.same (fun b hb=>by simp at hb) fun X _ _=>hf X,by rw [HC]; exact H⟩
theorem iV.any {v:AV} {H:List ae} (hw:iN ops o (dB (eI ops o) 0 s) true) (ho:bC E o.op (dB (eI ops o) 0 s) H v H):iV E ops o s H v H:=fun c a h1 h2 _ h4 j hj K Q hK=>by
 obtain ⟨c',u,k1,k2,k3,k4,k5⟩:=ho o c a rfl h2 h1 h4;unfold wpOp;simp only [hj,hw c a.tmps h4,if_true];left;have:=hK c' u k3 k2 k5 k4;unfold Oper.wp;rcases k1 with k1 | ⟨k1,rfl⟩
 ·rw [k1]; exact this
 ·rw [k1]; exact this
theorem HE (hE:E.OK):∀ (m:Nat) (lits:List Nat) (j:Nat) (eQ:List Oper) (acc:List (Nat × fQ)) (aT:List (Nat × Nat)) (s:List AV) (h:List ae),
  iZ E ag R ops k m lits j eQ acc aT s h→gg E ops (fun s2 h2=>I E ag R [] k s2 h2) j eQ acc aT s h:=by
 intro m
 induction m with
 |zero=>intro lits j eQ acc aT s h H; exact bG.to H
 |succ m ih =>
  intro lits j eQ acc aT s h H;unfold iZ at H;split at H
  ·split at H
   ·exact ⟨fun p hp=>by simp at hp,H⟩
   ·exact ⟨Ot H.1,H.2⟩
  rename_i o l;dsimp only at H;have skip:iN ops o (dB (eI ops o) 0 s) false→(cb s o.dst (.d .undef) fun s'=>iZ E ag R ops k m lits (j+1) l acc aT s' h)→gg E ops (fun s2 h2=>I E ag R [] k s2 h2) j (o::l) acc aT s h:=fun hw H=>by
   rw [dR] at H;exact C3 (fun X=>iV.skip hw) (ih _ _ _ _ _ _ _ H)
  generalize rY:(match HB o.op with
    |true=>ux (eI ops o) 0 s fun so=>wN E.G so o (bG E ag R ops k lits j (o::l) acc aT s h) fun f gd=>oK gd
     (xf E f gd h (bG E ag R ops k lits j (o::l) acc aT s h) (fun ws v h'=>dN j ws ws acc aT fun cg=>cb s o.dst v fun s'=>bG E ag R ops k lits (j+1) l (dp j ws ws acc) cg s' h') fun J v=>dN j J [] acc aT fun cg=>cb s o.dst v fun s'=>bG E ag R ops k lits (j+1) l (dp j J [] acc) cg s' h)
     fun ds=>qF E f ds h (fun v=>cb s o.dst (.d v) fun s'=>bG E ag R ops k lits (j+1) l acc aT s' h) fun v h'=>iY [] h h' fun ws=>dN j ws ws acc aT fun cg=>cb s o.dst v fun s'=>bG E ag R ops k lits (j+1) l (dp j ws ws acc) cg s' h'
    |false=>xj ops o s h (bG E ag R ops k lits j (o::l) acc aT s h) fun J sC hC=>match pb o.op&&uA J h with
     |true=>kr E.T E.G o.op sC hC (wh E o.op sC (n4 E o.op sC hC (wi E o.op sC hC (bG E ag R ops k lits j (o::l) acc aT s h) fun x h1=>eN J h x fun v=>iy J h h1 fun h'=>iY J h h' fun ws=>dN j ws ws acc aT fun cg=>cb s o.dst v fun s'=>bG E ag R ops k lits (j+1) l (dp j ws ws acc) cg s' h') fun x _=>eN J h x fun v=>dN j J [] acc aT fun cg=>cb s o.dst v fun s'=>bG E ag R ops k lits (j+1) l (dp j J [] acc) cg s' h)
       fun x=>eN J h x fun v=>dN j J [] acc aT fun cg=>cb s o.dst v fun s'=>iZ E ag R ops k m lits (j+1) l (dp j J [] acc) cg s' h)
       fun x _=>eN J h x fun v=>dN j J [] acc aT fun cg=>cb s o.dst v fun s'=>iZ E ag R ops k m lits (j+1) l (dp j J [] acc) cg s' h
     |false=>kr E.T E.G o.op sC hC (wj E o.op sC hC (n4 E o.op sC hC (bG E ag R ops k lits j (o::l) acc aT s h) fun x h1=>eN J h x fun v=>iy J h h1 fun h'=>iY J h h' fun ws=>dN j ws ws acc aT fun cg=>cb s o.dst v fun s'=>bG E ag R ops k lits (j+1) l (dp j ws ws acc) cg s' h')
      fun x h1=>eN J h x fun v=>iy J h h1 fun h'=>iY J h h' fun ws=>dN j ws ws acc aT fun cg=>cb s o.dst v fun s'=>iZ E ag R ops k m lits (j+1) l (dp j ws ws acc) cg s' h')
      fun x h1=>eN J h x fun v=>iy J h h1 fun h'=>iY J h h' fun ws=>dN j ws ws acc aT fun cg=>cb s o.dst v fun s'=>iZ E ag R ops k m lits (j+1) l (dp j ws ws acc) cg s' h')=OW at H
  have go:iN ops o (dB (eI ops o) 0 s) true→OW→gg E ops (fun s2 h2=>I E ag R [] k s2 h2) j (o::l) acc aT s h:=by
   subst rY;intro hw H;split at H
   ·rw [Ht] at H;rcases GU H with H | ⟨fx,args,ts,f,a1,av,a2,ca,hv,mv,H⟩
    ·exact bG.to H
    rcases vE (a1++av++a2) (xf E f (a1++av++a2) h (bG E ag R ops k lits j (o::l) acc aT s h) (fun ws v h'=>dN j ws ws acc aT fun cg=>cb s o.dst v fun s'=>bG E ag R ops k lits (j+1) l (dp j ws ws acc) cg s' h') fun J v=>dN j J [] acc aT fun cg=>cb s o.dst v fun s'=>bG E ag R ops k lits (j+1) l (dp j J [] acc) cg s' h)
     (fun ds=>qF E f ds h (fun v=>cb s o.dst (.d v) fun s'=>bG E ag R ops k lits (j+1) l acc aT s' h) fun v h'=>iY [] h h' fun ws=>dN j ws ws acc aT fun cg=>cb s o.dst v fun s'=>bG E ag R ops k lits (j+1) l (dp j ws ws acc) cg s' h') with ⟨ds,e1,e2⟩ | e2
    ·rw [e2] at H;unfold qF at H;rcases H with ⟨r,hc,hk⟩ | ⟨r,h1,hc,hk⟩
     ·rw [dR] at hk;exact C3 (fun X=>iV.call hw ca hv mv e1 hc) hk.to
     ·rw [sr,lF,dR] at hk;have e3:(a1++av++a2).map (fe [] h)=ds.map .d:=by rw [e1,List.map_map]; rfl
      exact ⟨_,_,_,_,.of List.nodup_nil (fun j hj=>by simp at hj) fun X hs => .CU hw ca hv mv (by rw [e3]; exact hc) hs,hk.to⟩
    ·rw [e2] at H;rcases OV H with H | ⟨J,hn,aj,⟨r,h1,hc,hk⟩ | ⟨r,hc,dm,hk⟩⟩
     ·exact bG.to H
     ·rw [lF,dR] at hk;exact ⟨_,_,_,_,.of hn aj fun X hs => .CU hw ca hv mv hc hs,hk.to⟩
     ·rw [lF,dR] at hk;exact ⟨_,_,_,_,.read hn aj dm fun X hs => .CU hw ca hv mv hc hs,hk.to⟩
   ·rcases HA H with H | ⟨J,hn,aj,H⟩
    ·exact bG.to H
    have zH:∀ x h1,bC E o.op ((dB (eI ops o) 0 s).map (fe J h)) (dM J h) x h1→gg E ops (fun s2 h2=>I E ag R [] k s2 h2) (j+1) l (dp j (J++dn J h h1) (J++dn J h h1) acc) (kF j (J++dn J h h1) (J++dn J h h1) acc aT) (b9 s o.dst (gX J h x)) (ek J h h1)→gg E ops (fun s2 h2=>I E ag R [] k s2 h2) j (o::l) acc aT s h :=
      fun x h1 ho H=>⟨_,_,_,_,.of hn aj fun X hs => .xc hw ho hs,H⟩
    split at H
    ·rename_i eM;obtain ⟨bc,dm⟩:=Bool.and_eq_true_iff.1 eM;have fin:∀ x,bC E o.op ((dB (eI ops o) 0 s).map (fe J h)) (dM J h) x (dM J h)→gg E ops (fun s2 h2=>I E ag R [] k s2 h2) (j+1) l (dp j J [] acc) (kF j J [] acc aT) (b9 s o.dst (gX J h x)) h→gg E ops (fun s2 h2=>I E ag R [] k s2 h2) j (o::l) acc aT s h :=
      fun x ho H=>⟨_,_,_,_,.read hn aj dm fun X hs => .xc hw ho hs,H⟩
     rcases BA hE (OE (K:=fun x=>eN J h x fun v=>dN j J [] acc aT fun cg=>cb s o.dst v fun s'=>iZ E ag R ops k m lits (j+1) l (dp j J [] acc) cg s' h) bc H) with H | ⟨x,h',⟨rfl,H⟩,ho⟩
     ·rcases Gi hE H with H | ⟨x,H,ho⟩
      case inr =>
       rw [ly,lF,dR] at H;exact fin x (ho _) (ih _ _ _ _ _ _ _ H)
      rcases Cb hE (OH (K:=fun x=>eN J h x fun v=>dN j J [] acc aT fun cg=>cb s o.dst v fun s'=>bG E ag R ops k lits (j+1) l (dp j J [] acc) cg s' h) bc H) with H | ⟨x,h',⟨rfl,H⟩,ho⟩
      ·rcases Gj hE H with H | ⟨x,h1,H,ho⟩
       ·exact bG.to H
       ·rw [ly,o5,sr,lF,dR] at H;exact zH x h1 ho H.to
      ·rw [ly,lF,dR] at H;exact fin x ho H.to
     ·rw [ly,lF,dR] at H;exact fin x ho (ih _ _ _ _ _ _ _ H)
    ·rcases BA hE H with H | ⟨x,h1,H,ho⟩
     ·rcases Gk hE H with H | ⟨x,h1,H,ho⟩
      case inr =>
       rw [ly,o5,sr,lF,dR] at H;exact zH x h1 ho (ih _ _ _ _ _ _ _ H)
      rcases Cb hE H with H | ⟨x,h1,H,ho⟩
      ·exact bG.to H
      ·rw [ly,o5,sr,lF,dR] at H;exact zH x h1 ho H.to
     ·rw [ly,o5,sr,lF,dR] at H;exact zH x h1 ho (ih _ _ _ _ _ _ _ H)
  unfold zm at H;split at H
  ·rename_i hg;exact go (fZ hg) H
  ·rename_i jj b hg;rcases a7 H with H | ⟨oj,uh,H⟩
   ·exact bG.to H
   split at H
   ·rename_i d hd;rcases a7 H with H | ⟨x,hx,H⟩
    ·exact bG.to H
    have hm:(dB (eI ops o) 0 s)[d]? = some x:=by
     rw [HD,hx];rw [Nat.zero_add];refine List.mem_append_right _ ?_;have:ops[jj]? = some oj:=by simpa using uh
     simp [Hh,hg,this,hd]
    split at H
    ·rename_i t;split at H
     ·refine Cy H (fun e H2=>?_) (fun e H2=>?_)
      ·subst e;rw [fY,wQ hx] at H2;exact bG.to H2
      ·subst e;rw [fY,wQ hx] at H2;exact bG.to H2
     ·have hw:=BF hg uh hd hm;split at H
      ·rename_i q;have:(t==b)=true:=by cases t <;> cases b <;> first | rfl | cases q
       rw [this] at hw;exact go hw H
      ·rename_i q;have:(t==b)=false:=by cases t <;> cases b <;> first | rfl | cases q
       rw [this] at hw;exact skip hw H
    ·exact skip (FO hg uh hd hm) H
    ·exact bG.to H
   ·exact bG.to H
theorem bG.run (hE:E.OK) (m:Nat) (H:iZ E ag R ops k m lits j eQ acc aT s h):bG E ag R ops k lits j eQ acc aT s h:=by unfold bG; exact HE hE m lits j eQ acc aT s h H
@[irreducible] def jX (E : Env) (ag : FuncId) (R : cw) (ops : Array Oper) (k : List aN) (lits : List Nat) (j : Nat) (o : Oper) (l : List Oper) (acc : List (Nat × fQ)) (aT : List (Nat × Nat)) (s : List AV) (h : List ae) (J : List Nat) (sC : List AV) (hC : List ae) : Prop :=
 ∃ x h1,bC E o.op sC hC x h1∧gg E ops (fun s2 h2=>I E ag R [] k s2 h2) (j+1) l (dp j (J++dn J h h1) (J++dn J h h1) acc) (kF j (J++dn J h h1) (J++dn J h h1) acc aT) (b9 s o.dst (gX J h x)) (ek J h h1)
theorem bG.at (hg:o.guard=none) (H:xj ops o s h False fun J sC hC=>jX E ag R ops k lits j o l acc aT s h J sC hC):bG E ag R ops k lits j (o::l) acc aT s h:=by
 unfold bG;rcases HA H with H | ⟨J,hn,aj,H⟩
 ·exact H.elim
 unfold jX at H;obtain ⟨x,h1,ho,H⟩:=H;exact ⟨_,_,_,_,.of hn aj fun X hs => .xc (fZ hg) ho hs,H⟩
theorem jX.op {J:List Nat} {sC:List AV} {hC h1:List ae} {x:AV} (ho:bC E o.op sC hC x h1) (H:eN J h x fun v=>iy J h h1 fun h'=>iY J h h' fun ws=>dN j ws ws acc aT fun cg=>cb s o.dst v fun s'=>bG E ag R ops k lits (j+1) l (dp j ws ws acc) cg s' h'):jX E ag R ops k lits j o l acc aT s h J sC hC:=by
 unfold jX;rw [ly,o5,sr,lF,dR] at H;exact ⟨x,h1,ho,H.to⟩
theorem bG.pure {v:AV} (hg:o.guard=none) (ho:∀ H,bC E o.op (dB (eI ops o) 0 s) H v H) (H:cb s o.dst v fun s'=>bG E ag R ops k lits (j+1) l acc aT s' h):bG E ag R ops k lits j (o::l) acc aT s h:=by
 rw [dR] at H;unfold bG;exact C3 (fun X => .any (fZ hg) (ho X)) H.to
theorem gg.conv {K K':List AV→List ae→Prop} (hk:∀ s h,K s h→K' s h):∀ {l:List Oper} {j:Nat} {acc:List (Nat × fQ)} {aT:List (Nat × Nat)} {s:List AV} {h:List ae},gg E ops K j l acc aT s h→gg E ops K' j l acc aT s h
 | [],_,_,_,_,_,H=>⟨H.1,hk _ _ H.2⟩
 |_::_,_,_,_,_,_,H=>by
  obtain ⟨v,h',t,w,hf,H⟩:=H;exact ⟨v,h',t,w,hf,H.conv hk⟩
theorem I.bH (hE:E.OK) (hm:E.P.follows .mixedOrders=true) (m:Nat) {id:Nat} (OX:Hi ops=true) (H:iZ E ag R ops k m [] 0 ops.toList [] [] s h):I E ag R lits (.code (.region id ops true)::k) s h:=by
 obtain ⟨pl,hp,tw,p1,p2,p3,-,p5,-,p7,p8⟩:=gg.lay (gg.conv (fun s2 h2=>I.to) (HE hE m _ _ _ _ _ _ _ H));refine .of (AW.OL hm fun c t Q hQ h1 h2 h4=>?_);subst h2;have hn:(c.pad ((hp pl.length).length - c.heap.length)).heap.length=(hp pl.length).length:=by
  show (c.heap++_).length=_;rw [List.length_append,List.length_replicate];omega
 refine OQ (Oq OX) p1 p5 (fun i k h1 h2 h3=>by simpa using p7 i k h1 h2 h3) hn (fun b hb=>?_) p3 hQ ops.size _ ⟨t,[]⟩ (c.pad ((hp pl.length).length - c.heap.length)) (h1.pad _) (CY (j:=0) (fun i _=>zC _ i) ops.size (Nat.zero_le _)).symm rfl ?_ (y9 h1 _) ⟨by simp,fun j o e _ hl=>by rw [zC] at hl; cases hl⟩ (fun i _=>zC _ i) (OC _ _)
 ·rw [p2];unfold kE;split
  ·rename_i hl; rw [y8 (List.getElem?_eq_getElem hl),List.getElem?_eq_getElem hl]
  ·exact Co (by omega) (by rw [hn] at hb; omega)
 ·rw [w9 _ 0 s _ (fun i _=>zC _ _)];exact (y9 h1 _).vs h4
end
end Go.aw
end
section
namespace Go.aw
open Go Go.RowKit
section
variable {E:Env} {s:List AV} {h:List ae} {c:Cx} {G:List (Nat × DV)}
theorem HF (hE:E.OK) {t e len:Nat} {i ei:bp} (hi:E.T[t]? = some i) (bR:E.T[e]? = some ei) (hk:i.k = .slice e) {parts:Array (Nat × Operand)} {ps:List (Nat × AV)} (fM:vM E.G s parts.toList ps)
  (hz:ei.zero.length=ei.size) (cC:0<ei.size) (hlen:0<len) (yN:len*ei.size≤16777216) {z:DV} (rC:z.cells=ei.zero) (iq:∀ y∈ei.zero,y.er=true) {stop:Prop} {k:List DV→Prop} (H:mV ei.size ps (List.replicate len z) stop k) :
  stop∨∃ l,k l∧bC E (.buildSlice t len parts) s h (.own h.length 0) (h++[.arr 0 (e,ei.size) l]):=by
 have dx:gE ei.size (List.replicate len z):=fun j e' h'=>by
  rw [List.getElem?_replicate] at h';split at h'
  ·cases h'; rw [rC,hz]
  ·cases h'
 have eM:nS (List.replicate len z):=fun j e' h'=>by
  rw [List.getElem?_replicate] at h';split at h'
  ·cases h'; rw [rC]; exact iq
  ·cases h'
 rcases Bz dx eM H with h' | ⟨l,h1,h2,ir,h3,h4⟩
 ·exact .inl h'
 refine .inr ⟨l,h1,fun o c ac e1 e2 e3 e4=>?_⟩;subst e2;obtain ⟨ti,zv,g1,g2,g3,g4⟩:=zeroOf (hE.types e ei bR) hz cC;obtain ⟨zs,vO,gP⟩:=g4 c;obtain ⟨p1,p2⟩:=fM c ac e3 e4;have ky:zs.length=ei.size:=by rw [← gP.1]; simpa using hz
 have vP:VL c ((flat (List.replicate len z)).map .d) ((Array.range (len*ti.size)).map (zv.cells[· % zv.cells.size]!)).toList:=by
  refine .rA (by rw [mf dx]; simp [g3]) (fun j x v hx hv=>?_);have hj:j<len*ei.size:=by
   have:=mf dx;rw [List.length_replicate] at this;rw [← this];rcases Nat.lt_or_ge j (flat (List.replicate len z)).length with h | h
   ·exact h
   ·rw [List.getElem?_eq_none h] at hx; cases hx
  have hd:j / ei.size<len:=Nat.div_lt_of_lt_mul (by rw [Nat.mul_comm]; exact hj);have hm:j % ei.size<ei.size:=Nat.mod_lt _ cC;have h5:=flat_get dx (i:=j / ei.size) (j:=j % ei.size) (e:=z) (by simp [hd]) hm;rw [Nat.mul_comm,Nat.div_add_mod,hx,rC] at h5;have eL:v=zs[j % ei.size]'(by omega):=by
   have dI:j<len*ti.size:=by rw [← g3]; exact hj
   simp [dI,vO,ky] at hv;rw [← hv];simp [ky,hm]
  rw [eL];exact gP.nQ (j % ei.size) x _ h5.symm (by simp [ky,hm])
 obtain ⟨vs',f1,f2⟩:=h4 c _ _ vP p2;obtain ⟨vQ,d,q1,q2,q3,-⟩:=cj (hE.types t i hi);obtain rfl:=kv (hk.symm.trans q3);have eq:(parts.map fun (i,x)=>(i,ac.eval x)).toList=(ps.map (·.1)).zip (parts.toList.map fun p=>ac.eval p.2):=by
  rw [p1,Array.toList_map];generalize parts.toList=q
  induction q with
  |nil=>rfl
  |cons a q ih=>simp only [List.map_cons,List.zip_cons_cons,ih]
 have rD:Instr.fill (fun i=>some (i*ti.size,ti.size)) ((Array.range (len*ti.size)).map (zv.cells[· % zv.cells.size]!)) (parts.map fun (i,x)=>(i,ac.eval x)).toList=some vs'.toArray:=by
  rw [eq,← f1,g3]
 have cn:=run_buildSlice (P:=E.P) c.w t e len (parts.map fun (i,x)=>(i,ac.eval x)) vs'.toArray ti zv q2 g1 g2 (by rw [← g3]; omega) (by rw [← g3]; have:=Nat.mul_pos hlen cC; omega) rD;have tF:l.length=len:=by rw [h3]; simp
 obtain ⟨k1,k2⟩:=e3.add (.arr 0 (e,ei.size) l) len (.cells vs'.toArray e);have bA:(c.add (.arr 0 (e,ei.size) l) len (.cells vs'.toArray e)).own c.heap.length=some (c.w.heap.size,len):=by simp [Cx.add]
 have lq:(c.add (.arr 0 (e,ei.size) l) len (.cells vs'.toArray e)).heap[c.heap.length]? = some (.arr 0 (e,ei.size) l):=by simp [Cx.add]
 have bQ:vs'.length=len*ei.size:=by
  have:=f2.1;simp only [List.length_map] at this;rw [← this,mf h2,tF]
 have cQ:iJ (c.add (.arr 0 (e,ei.size) l) len (.cells vs'.toArray e)) c.heap.length (.arr 0 (e,ei.size) l):=by
  refine ⟨cC,h2,.inr ⟨c.w.heap.size,len,vs'.toArray,bA,heap_alloc_new _ _,by simpa using bQ,by omega,by unfold maxLen; have:=Nat.le_mul_of_pos_right len cC; omega,fun i j e' x he hx=>?_⟩⟩;have hj:j<ei.size:=by
   have:=aR hx;rw [h2 i e' he] at this;exact this
  have hf:=flat_get h2 he hj;rw [hx] at hf;have aj:i*ei.size+j<vs'.length:=by
   have:=f2.1;simp only [List.length_map] at this;rw [← this];exact aR hf
  refine ⟨vs'[i*ei.size+j],by simp [aj],vH (f2.nQ _ x _ hf (by simp [aj])) (ir i e' he x (List.mem_of_getElem? hx)),k1.vd (f2.nQ _ x _ hf (by simp [aj]))⟩
 refine ⟨_,.slice (some ⟨c.w.heap.size,0,none⟩) len len,.inl (by simp only [execOp,e1,Sem.run_bind,cn,Result.andThen_ok,Sem.run_pure]; rfl),rfl,k2 cQ,?_,k1⟩;have:=VR.own (c:=c.add (.arr 0 (e,ei.size) l) len (.cells vs'.toArray e)) c.heap.length 0 (e,ei.size) l c.w.heap.size len lq bA;rw [tF] at this;exact this
def zI (E:Env) (o:Op) (s:List AV) (h:List ae) (stop:Prop) (k:AV→List ae→Prop):Prop :=
 match o with
 | .buildSlice t len parts=>aM E.T t stop fun i=>match i.k with
  | .slice e=>aM E.T e stop fun ei=>match Nat.beq ei.zero.length ei.size,Nat.blt 0 ei.size,Nat.blt 0 len,Nat.ble (len*ei.size) 16777216,ei.zero.all DV.er with
   |true,true,true,true,true=>ry E.G s parts.toList stop fun ps =>
    match ei.zero with
    | [z]=>rv len z fun zs=>mV ei.size ps zs stop fun l=>l9 h (.arr 0 (e,ei.size) l) 0 fun h' n=>k (.own n 0) h'
    |zl=>rv len (.agg zl) fun zs=>mV ei.size ps zs stop fun l=>l9 h (.arr 0 (e,ei.size) l) 0 fun h' n=>k (.own n 0) h'
   |_,_,_,_,_=>stop
  |_=>stop
 |_=>stop
theorem HG (hE:E.OK) {o:Op} {stop:Prop} {k:AV→List ae→Prop} (H:zI E o s h stop k):stop∨∃ v h',k v h'∧bC E o s h v h':=by
 unfold zI at H;split at H
 ·rcases a7 H with h | ⟨i,hi,H⟩
  ·exact .inl h
  split at H
  ·rename_i e hk;rcases a7 H with h | ⟨ei,bR,H⟩
   ·exact .inl h
   split at H
   ·rename_i q1 q2 q3 q4 q5;rcases vN H with h | ⟨ps,fM,H⟩
    ·exact .inl h
    simp only [pU,Nat.zero_add] at H;split at H
    ·rename_i z jL;rw [yM] at H;have iq:z.er=true:=by rw [jL] at q5; simpa using q5
     rcases HF hE hi bR hk fM (Nat.eq_of_beq_eq_true q1) (gF q2) (gF q3) (Nat.le_of_ble_eq_true q4) (z:=z) (by rw [jL]; cases z <;> first | rfl | cases iq) (fun y hy=>List.all_eq_true.1 q5 y hy) H with h | ⟨l,H,hl⟩
     ·exact .inl h
     exact .inr ⟨_,_,H,hl⟩
    ·rw [yM] at H;rcases HF hE hi bR hk fM (Nat.eq_of_beq_eq_true q1) (gF q2) (gF q3) (Nat.le_of_ble_eq_true q4) (z := .agg ei.zero) rfl (fun y hy=>List.all_eq_true.1 q5 y hy) H with h | ⟨l,H,hl⟩
     ·exact .inl h
     exact .inr ⟨_,_,H,hl⟩
   ·exact .inl H
  ·exact .inl H
 ·exact .inl H
theorem I.pf (hE:E.OK) {ag:FuncId} {R:cw} {lits:List Nat} {ops:Array Oper} {o:Oper} {l:List Oper} {r:List aN} (hg:o.guard=none)
  (H:zI E o.op s h False fun v h'=>cb s o.dst v fun s'=>I E ag R lits (.bq ops l::r) s' h'):I E ag R lits (.bq ops (o::l)::r) s h:=by
 rcases HG hE H with h | ⟨v,h',H,ho⟩
 ·exact h.elim
 ·rw [dR] at H;exact .of (.op (fZ hg) ho H.to)
end
mutual
def norm:DV→DV
 | .aH => .sl []
 | .agg c => .agg (ss c)
 | .aD c => .aD (ss c)
 |x=>x
def ss:List DV→List DV
 | []=>[]
 |x::l=>norm x::ss l
end
theorem C4:∀ (l:List DV),ss l=l.map norm
 | []=>rfl
 |x::l=>by rw [ss,C4 l]; rfl
theorem HH {bad:Nat→Prop} {w:World} {x:DV} {v:Value} (h:VD bad w x v):VD bad w (norm x) v:=by
 induction h with
 |aH=>exact .slnil
 |agg c vs hlen bK ih =>
  rw [norm,C4];refine .agg _ _ (by simpa using hlen) fun j y v hy hv=>?_;rw [List.getElem?_map] at hy;cases hc:c[j]? with
  |none=>rw [hc] at hy; cases hy
  |some z=>rw [hc] at hy; cases hy; exact ih j z v hc hv
 |aD c vs hlen bK ih =>
  rw [norm,C4];refine .aD _ _ (by simpa using hlen) fun j y v hy hv=>?_;rw [List.getElem?_map] at hy;cases hc:c[j]? with
  |none=>rw [hc] at hy; cases hy
  |some z=>rw [hc] at hy; cases hy; exact ih j z v hc hv
 |undef=>exact .undef
 |bool b=>exact .bool b
 |int k n=>exact .int k n
 |str l=>exact .str l
 |slnil=>exact .slnil
 |jJ a=>exact .jJ a
 |sl l blk off cap sz f hb bQ iH hlen cZ bK bX ih=>exact .sl l blk off cap sz f hb bQ iH hlen cZ bK bX
 |dw=>exact .dw
 |ar=>exact .ar
 |ig=>exact .ig
 |mT=>exact .mT
 |fn f=>exact .fn f
 |raw v h=>exact .raw v h
theorem aq.norm {E:Env} {f:FuncId} {args:List DV} {y:DV} (H:aq E f args (fun r=>aw.norm r=y)):aq E f args (· = y):=by
 unfold aq at H ⊢;exact ⟨H.1,fun ax w vs h1 h2 h3=>(H.2 ax w vs h1 h2 h3).mono fun e w' ⟨v,r,k1,k2,k3,k4⟩=>⟨v,y,k1,rfl,k2 ▸ HH k3,k4⟩⟩
end Go.aw
end
section
namespace Go.aw
open Go Go.RowKit
def dc (n:Nat) (B:List Nat) (i:Nat):Bool:=match Nat.ble n i with
 |true=>true
 |false=>iS i B
def jy (n:Nat) (B:List Nat):Nat→List ae→List ae
 |_,[]=>[]
 |i,b::r=>match Nat.ble n i with
  |true=>[]
  |false=>(match iS i B with | true => .gone | false=>b)::jy n B (i+1) r
theorem uD {n:Nat} {B:List Nat}:∀ (i k:Nat) (h:List ae),dc n B (i+k)=false→(jy n B i h)[k]? = h[k]?
 |_,_,[],_=>rfl
 |i,0,b::r,hh=>by
  simp only [dc,Nat.add_zero] at hh;split at hh
  ·cases hh
  ·rename_i q; simp only [jy,q,hh]; rfl
 |i,k+1,b::r,hh=>by
  have hn:Nat.ble n i=false:=by
   cases q:Nat.ble n i with
   |false=>rfl
   |true =>
    have h1:=Nat.le_of_ble_eq_true q;have h2:Nat.ble n (i+(k+1))=true:=Nat.ble_eq_true_of_le (by omega);simp only [dc,h2] at hh;cases hh
  simp only [jy,hn,List.getElem?_cons_succ];exact uD (i+1) k r (by rwa [show i+1+k=i+(k+1) by omega])
theorem HI {n:Nat} {B:List Nat}:∀ (i k:Nat) (h:List ae) (b:ae),dc n B (i+k)=true→(jy n B i h)[k]? = some b→b = .gone
 |_,_,[],_,_,h=>by simp [jy] at h
 |i,k,b'::r,b,hh,h=>by
  simp only [jy] at h;split at h
  ·simp at h
  ·rename_i q;cases k with
   |zero =>
    simp only [dc,Nat.add_zero,q] at hh;simp only [hh,List.getElem?_cons_zero,Option.some.injEq] at h;exact h.symm
   |succ k=>exact HI (i+1) k r b (by rwa [show i+1+k=i+(k+1) by omega]) (by simpa using h)
def fj (n:Nat) (B:List Nat):AV→Bool
 | .any=>true
 | .d _=>true
 | .bE _ _=>true
 | .own b _=>match dc n B b with | true=>false | false=>true
 | .ptr b _=>match dc n B b with | true=>false | false=>true
 | .cB b _ _ _=>match dc n B b with | true=>false | false=>true
 | .cut b _ _ _=>match dc n B b with | true=>false | false=>true
 | .map b=>match dc n B b with | true=>false | false=>true
 |_=>false
def oh {β:Type} (f:β→Bool):List β→Bool
 | []=>true
 |a::l=>match f a with
  |true=>oh f l
  |false=>false
theorem zJ {β:Type} {f:β→Bool}:∀ {l:List β},oh f l=true→∀ (j:Nat) (x:β),l[j]? = some x→f x=true
 | [],_,_,_,h=>by simp at h
 |a::l,H,j,x,h=>by
  unfold oh at H;split at H
  ·rename_i q;cases j with
   |zero=>simp at h; subst h; exact q
   |succ j=>exact zJ H j x (by simpa using h)
  ·cases H
def gh (n:Nat) (B:List Nat):AV→Bool
 | .agg l=>oh (fj n B) l
 | .aD l=>oh (fj n B) l
 | .fn _ a b=>match oh (fj n B) a with
  |true=>oh (fj n B) b
  |false=>false
 |x=>fj n B x
def HJ (n:Nat) (B:List Nat):ae→Bool
 | .cells cs=>oh (gh n B) cs
 |_=>true
section
variable {G:List (Nat × DV)} {c c':Cx} {n:Nat} {B:List Nat}
theorem HK (hk:∀ b,b<c.w.heap.size→¬ c.bad b→¬ c'.bad b∧c'.w.heap[b]? = c.w.heap[b]?) (hb:∀ i bx,dc n B i=false→c.heap[i]? = some bx→c'.heap[i]? = some bx∧c'.own i=c.own i)
  {x:AV} {v:Value} (hf:fj n B x=true) (hv:VR c x v):VR c' x v:=by
 cases hv with
 |any v=>exact .any v
 |d x v hx=>exact .d x v (hx.mono hk)
 |own b g sz l blk cap h1 h2 =>
  have hh:dc n B b=false:=by simp only [fj] at hf; split at hf <;> first | assumption | cases hf
  obtain ⟨k1,k2⟩:=hb _ _ hh h1;exact .own b g sz l blk cap k1 (k2.trans h2)
 |gy b g sz h1 h2 =>
  have hh:dc n B b=false:=by simp only [fj] at hf; split at hf <;> first | assumption | cases hf
  obtain ⟨k1,k2⟩:=hb _ _ hh h1;exact .gy b g sz k1 (k2.trans h2)
 |jn b g g1 sz l v h1 h2 h3 =>
  have hh:dc n B b=false:=by simp only [fj] at hf; split at hf <;> first | assumption | cases hf
  obtain ⟨k1,k2⟩:=hb _ _ hh h1;exact .jn b g g1 sz l _ k1 h2 h3
 |iI b g v h1 h2 =>
  have hh:dc n B b=false:=by simp only [fj] at hf; split at hf <;> first | assumption | cases hf
  exact .iI b g _ (hb _ _ hh h1).1 h2
 |la b g cs blk cap m h1 h2 h3 =>
  have hh:dc n B b=false:=by simp only [fj] at hf; split at hf <;> first | assumption | cases hf
  obtain ⟨k1,k2⟩:=hb _ _ hh h1;exact .la b g cs blk cap m k1 (k2.trans h2) h3
 |cut b g k q sz l blk cap o h1 h2 h3 h4 h5 =>
  have hh:dc n B b=false:=by simp only [fj] at hf; split at hf <;> first | assumption | cases hf
  obtain ⟨k1,k2⟩:=hb _ _ hh h1;exact .cut b g k q sz l blk cap o k1 (k2.trans h2) h3 h4 h5
 |l6 b g g1 k q sz l v h1 h2 h3 =>
  have hh:dc n B b=false:=by simp only [fj] at hf; split at hf <;> first | assumption | cases hf
  exact .l6 b g g1 k q sz l _ (hb _ _ hh h1).1 h2 h3
 |l7 b g k q v h1 h2 =>
  have hh:dc n B b=false:=by simp only [fj] at hf; split at hf <;> first | assumption | cases hf
  exact .l7 b g k q _ (hb _ _ hh h1).1 h2
 |ptr b off cs blk cap h1 h2 =>
  have hh:dc n B b=false:=by simp only [fj] at hf; split at hf <;> first | assumption | cases hf
  obtain ⟨k1,k2⟩:=hb _ _ hh h1;exact .ptr b off cs blk cap k1 (k2.trans h2)
 |ik b off v h1 h2 =>
  have hh:dc n B b=false:=by simp only [fj] at hf; split at hf <;> first | assumption | cases hf
  exact .ik b off _ (hb _ _ hh h1).1 h2
 |cB b g i off sz l blk cap h1 h2 h3 =>
  have hh:dc n B b=false:=by simp only [fj] at hf; split at hf <;> first | assumption | cases hf
  obtain ⟨k1,k2⟩:=hb _ _ hh h1;exact .cB b g i off sz l blk cap k1 (k2.trans h2) h3
 |kp b g g1 i off sz l v h1 h2 h3 =>
  have hh:dc n B b=false:=by simp only [fj] at hf; split at hf <;> first | assumption | cases hf
  exact .kp b g g1 i off sz l _ (hb _ _ hh h1).1 h2 h3
 |kq b g i off v h1 h2 =>
  have hh:dc n B b=false:=by simp only [fj] at hf; split at hf <;> first | assumption | cases hf
  exact .kq b g i off _ (hb _ _ hh h1).1 h2
 |bE e off blk o f h1 h2 h3 h4 =>
  have aj:blk<c.w.heap.size:=by
   obtain ⟨x,r,hx⟩:=List.exists_cons_of_ne_nil h2;exact World.block_lt_of_cell? _ _ (h3 0 x (by rw [hx]; rfl))
  have hk:=hk;have oV:=hk blk aj h1;exact .bE e off blk o f oV.1 h2 (fun j x hx=>by rw [World.cell?_of_block oV.2]; exact h3 j x hx) (fun j x hx=>(h4 j x hx).mono hk)
 |map b es blk cap h1 h2 =>
  have hh:dc n B b=false:=by simp only [fj] at hf; split at hf <;> first | assumption | cases hf
  obtain ⟨k1,k2⟩:=hb _ _ hh h1;exact .map b es blk cap k1 (k2.trans h2)
 |l8 b v h1 h2 =>
  have hh:dc n B b=false:=by simp only [fj] at hf; split at hf <;> first | assumption | cases hf
  exact .l8 b _ (hb _ _ hh h1).1 h2
 |agg a vs h1 h2=>simp [fj] at hf
 |aD a vs h1 h2=>simp [fj] at hf
 |fn f a1 a2 v1 v2 h1 h2 h3 h4=>simp [fj] at hf
theorem OY (hk:∀ b,b<c.w.heap.size→¬ c.bad b→¬ c'.bad b∧c'.w.heap[b]? = c.w.heap[b]?) (hb:∀ i bx,dc n B i=false→c.heap[i]? = some bx→c'.heap[i]? = some bx∧c'.own i=c.own i)
  {x:AV} {v:Value} (hf:gh n B x=true) (hv:VR c x v):VR c' x v:=by
 have one:∀ {l:List AV},oh (fj n B) l=true→∀ (vs:List Value),VL c l vs→VL c' l vs:=fun hl vs h=>⟨h.1,fun j x v hx hv=>HK hk hb (zJ hl j x hx) (h.2 j x v hx hv)⟩;unfold gh at hf;split at hf
 ·obtain ⟨vs,rfl,h1⟩:=nR hv; exact tx (one hf _ h1)
 ·obtain ⟨vs,rfl,h1⟩:=wB hv; exact wC (one hf _ h1)
 ·split at hf
  ·rename_i q;obtain ⟨v1,v2,rfl,h1,h2⟩:=jO hv;exact Cg (one q _ h1) (one hf _ h2)
  ·cases hf
 ·exact HK hk hb hf hv
def Cx.fk (c:Cx) (n:Nat) (B:List Nat):Cx:=⟨fun i=>match dc n B i with | true=>none | false=>c.own i,jy n B 0 c.heap,fun b=>c.ax b∨∃ j m,dc n B j=true∧c.own j=some (b,m),c.w⟩
theorem su {i b m:Nat} (h:(c.fk n B).own i=some (b,m)):dc n B i=false∧c.own i=some (b,m):=by
 simp only [Cx.fk] at h;split at h
 ·cases h
 ·rename_i q; exact ⟨q,h⟩
theorem xk {i:Nat} (h:dc n B i=false):(c.fk n B).own i=c.own i:=by simp only [Cx.fk,h]
theorem OZ (b:Nat):(c.fk n B).bad b↔c.bad b:=by
 constructor
 ·rintro ((hb | ⟨j,m,-,hj⟩) | ⟨i,m,hi⟩)
  ·exact .inl hb
  ·exact .inr ⟨j,m,hj⟩
  ·exact .inr ⟨i,m,(su hi).2⟩
 ·rintro (hb | ⟨j,m,hj⟩)
  ·exact .inl (.inl hb)
  ·cases hh:dc n B j
   ·exact .inr ⟨j,m,(xk hh).trans hj⟩
   ·exact .inl (.inr ⟨j,m,hh,hj⟩)
theorem HL (b:Nat) (_:b<c.w.heap.size) (hn:¬ c.bad b):¬ (c.fk n B).bad b∧(c.fk n B).w.heap[b]? = c.w.heap[b]? := ⟨fun h=>hn ((OZ b).1 h),rfl⟩
theorem O0 {i:Nat} {bx:ae} (hh:dc n B i=false) (hi:c.heap[i]? = some bx):(c.fk n B).heap[i]? = some bx∧(c.fk n B).own i=c.own i :=
 ⟨by show (jy n B 0 c.heap)[i]? = _; rw [uD 0 i c.heap (by rwa [Nat.zero_add])]; exact hi,xk hh⟩
theorem zK {x:AV} {v:Value} (hf:gh n B x=true) (hv:VR c x v):VR (c.fk n B) x v:=OY HL (fun _ _=>O0) hf hv
theorem O1 {x:DV} {v:Value} (hv:VD c.bad c.w x v):VD (c.fk n B).bad (c.fk n B).w x v:=hv.mono HL
theorem iJ.free {i:Nat} {bx:ae} (O2:HJ n B bx=true) (kz:∀ x v,gh n B x=true→VR c x v→VR c' x v) (eH:∀ x v,VD c.bad c.w x v→VD c'.bad c'.w x v) (hb:iJ c i bx) (ho:c'.own i=c.own i) (hw:∀ b n,c.own i=some (b,n)→c'.w.heap[b]? = c.w.heap[b]?):iJ c' i bx:=by
 cases bx with
 |cells cs =>
  obtain ⟨blk,cap,vs,ty,h1,h2,h3,h4⟩:=hb;exact ⟨blk,cap,vs,ty,ho.trans h1,(hw blk cap h1).trans h2,h3,fun j x v hx hv=>kz x v (zJ O2 j x hx) (h4 j x v hx hv)⟩
 |arr g ts l =>
  obtain ⟨h0,h1,h2⟩:=hb;refine ⟨h0,h1,?_⟩;rcases h2 with ⟨h2,h3⟩ | ⟨blk,cap,vs,h2,h3,h4,h5,h6,h7⟩
  ·exact .inl ⟨ho.trans h2,h3⟩
  ·refine .inr ⟨blk,cap,vs,ho.trans h2,(hw blk cap h2).trans h3,h4,h5,h6,fun i j e x he hx=>?_⟩;obtain ⟨v,h8,vF,h9⟩:=h7 i j e x he hx;exact ⟨v,h8,vF,eH x v h9⟩
 |map es =>
  obtain ⟨blk,cap,en,ck,h1,h2,h3,h4⟩:=hb;exact ⟨blk,cap,en,ck,ho.trans h1,(hw blk cap h1).trans h2,h3,fun j k x m hx hm=>⟨eH _ _ (h4 j k x m hx hm).1,eH _ _ (h4 j k x m hx hm).2⟩⟩
 |gone=>exact ho.trans hb
 |hole=>exact ho.trans hb
def C5 (n:Nat) (B:List Nat) (X:List ae):Bool:=oh (HJ n B) X
theorem aK.fk (ho:aK G c) (dm:C5 n B (jy n B 0 c.heap)=true):aK G (c.fk n B) where
 bN:=fun b hb=>hb.elim (ho.bN b) fun ⟨j,m,_,hj⟩=>(ho.br j b m hj).1
 br:=fun i b m hi=>by
  obtain ⟨h1,h2⟩:=su hi;obtain ⟨h3,h4⟩:=ho.br i b m h2;refine ⟨h3,?_⟩;have:(c.fk n B).heap[i]? = c.heap[i]? := uD 0 i c.heap (by rwa [Nat.zero_add]);have h5:(c.fk n B).heap[i]? = some c.heap[i]:=by rw [this]; simp
  exact aR h5
 inj:=fun i j b m k hi hj=>ho.inj i j b m k (su hi).2 (su hj).2
 sep:=fun i b m hi hb=>by
  obtain ⟨h1,h2⟩:=su hi;rcases hb with hb | ⟨j,k,hj,hk⟩
  ·exact ho.sep i b m h2 hb
  ·have:=ho.inj i j b m k h2 hk;subst this;rw [h1] at hj;cases hj
 box:=fun i bx hi=>by
  cases hh:dc n B i
  ·have e:(c.fk n B).heap[i]? = c.heap[i]? := uD 0 i c.heap (by rwa [Nat.zero_add]);have hf:=zJ dm i bx hi;rw [e] at hi;exact (ho.box i bx hi).free hf (fun _ _=>zK) (fun _ _=>O1) (xk hh) (fun _ _ _=>rfl)
  ·obtain rfl:=HI 0 i c.heap bx (by rwa [Nat.zero_add]) hi;show (c.fk n B).own i=none;simp only [Cx.fk,hh]
 eZ:=fun g e hg=>zK rfl (ho.eZ g e hg)
end
theorem aK.HM {G:List (Nat × DV)} {c:Cx} {ax:Nat→Prop} (ho:aK G c) (hb:∀ b,ax b→c.ax b):aK G ⟨c.own,c.heap,ax,c.w⟩∧(∀ x v,VR c x v→VR ⟨c.own,c.heap,ax,c.w⟩ x v):=by
 have oJ:∀ b,b<c.w.heap.size→¬ c.bad b→¬ (⟨c.own,c.heap,ax,c.w⟩:Cx).bad b∧(⟨c.own,c.heap,ax,c.w⟩:Cx).w.heap[b]? = c.w.heap[b]? := fun b _ hn=>⟨fun h=>hn (h.elim (fun h => .inl (hb b h)) .inr),rfl⟩;have kz:∀ x v,VR c x v→VR ⟨c.own,c.heap,ax,c.w⟩ x v:=fun x v=>rm oJ (fun _ _ hi=>lb hi rfl rfl);exact ⟨⟨fun b h=>ho.bN b (hb b h),ho.br,ho.inj,fun i b n hi h=>ho.sep i b n hi (hb b h),fun i bx hx=>(ho.box i bx hx).gen kz (fun _ _ h=>h.mono oJ) rfl (fun _ _ _=>rfl),fun g e hg=>kz _ _ (ho.eZ g e hg)⟩,kz⟩
end Go.aw
end
