/- Several texts of mine, one behind the other. Conditions: as each says. -/
import Derived.Test.YthikfaephakahaaGreatDoorZM3
import Derived.Orders
set_option linter.unusedVariables false
set_option linter.unusedSimpArgs false
section
namespace Go.Eng
open Go Go.RowKit
inductive DepT (ops:Array Oper):Nat→Nat→Prop
 |one {j:Nat} {o:Oper} {e:Edge} (hj:ops[j]? = some o) (he:e∈o.after) (hb:Region.binds .any e=true):DepT ops e.on j
 |step {i j:Nat} {o:Oper} {e:Edge} (h:DepT ops i e.on) (hj:ops[j]? = some o) (he:e∈o.after) (hb:Region.binds .any e=true):DepT ops i j
def bitsStep (acc:List Nat) (o:Oper):Nat:=o.after.toList.foldl (fun m e=>if Region.binds .any e then m ||| 2 ^ e.on ||| acc.getD e.on 0 else m) 0
def bits:List Oper→List Nat→List Nat
 | [],acc=>acc
 |o::l,acc=>bits l (acc++[bitsStep acc o])
theorem bitsStep_spec {acc:List Nat} {o:Oper} {i:Nat} (h:(bitsStep acc o).testBit i=true):∃ e∈o.after,Region.binds .any e=true∧(i=e.on∨(acc.getD e.on 0).testBit i=true):=by
 have gen:∀ (l:List Edge) (m:Nat),(l.foldl (fun m e=>if Region.binds .any e then m ||| 2 ^ e.on ||| acc.getD e.on 0 else m) m).testBit i=true→m.testBit i=true∨∃ e∈l,Region.binds .any e=true∧(i=e.on∨(acc.getD e.on 0).testBit i=true):=by
  intro l
  induction l with
  |nil=>intro m h; exact .inl h
  |cons e l ih =>
   intro m h;rw [List.foldl_cons] at h;rcases ih _ h with h | ⟨e',he',hb⟩
   ·split at h
    ·rename_i hb;simp only [Nat.testBit_or,Bool.or_eq_true,Nat.testBit_two_pow,decide_eq_true_eq] at h;rcases h with (h | h) | h
     ·exact .inl h
     ·exact .inr ⟨e,List.mem_cons_self ..,hb,.inl h.symm⟩
     ·exact .inr ⟨e,List.mem_cons_self ..,hb,.inr h⟩
    ·exact .inl h
   ·exact .inr ⟨e',List.mem_cons_of_mem _ he',hb⟩
 rcases gen _ _ h with h | ⟨e,he,hb⟩
 ·simp at h
 ·exact ⟨e,by simpa using he,hb⟩
theorem bits_spec (ops:Array Oper):∀ (l:List Oper) (acc:List Nat),ops.toList.drop acc.length=l→(∀ j i,(acc.getD j 0).testBit i=true→DepT ops i j)→∀ j i,((bits l acc).getD j 0).testBit i=true→DepT ops i j
 | [],acc,_,ha=>ha
 |o::l,acc,hl,ha=>by
  have ho:ops[acc.length]? = some o:=by
   have:=congrArg (·[0]?) hl
   simpa using this
  refine bits_spec ops l (acc++[bitsStep acc o]) (by rw [List.length_append,List.length_singleton,← List.drop_drop,hl]; rfl) (fun j i h=>?_);rcases Nat.lt_trichotomy j acc.length with hj | hj | hj
  ·rw [List.getD,List.getElem?_append_left hj] at h;exact ha j i h
  ·subst hj;rw [List.getD,List.getElem?_append_right (Nat.le_refl _),Nat.sub_self] at h;obtain ⟨e,he,hb,h | h⟩:=bitsStep_spec (by simpa using h)
   ·subst h; exact .one ho he hb
   ·exact .step (ha _ _ h) ho he hb
  ·rw [List.getD,List.getElem?_eq_none (by simp; omega)] at h;simp at h
def tmpsOf (o:Op):List Nat:=o.operands.toList.filterMap fun | .tmp t=>some t | _=>none
def guardSlot (ops:Array Oper):Option (Nat × Bool)→List Nat
 |none=>[]
 |some (j,_)=>match (ops[j]?).bind (·.dst) with
  |some d=>[d]
  |none=>[]
def keepOf (ops:Array Oper) (o:Oper):List Nat:=tmpsOf o.op++guardSlot ops o.guard
def confB (ops:Array Oper) (a b:Oper):Bool:=(match a.dst with | some d=>memB d (b.dst.toList++keepOf ops b) | none=>false)||(match b.dst with | some d=>memB d (keepOf ops a) | none=>false)
def chk (ops:Array Oper) (m:Nat):Bool :=
 let bs:=bits ops.toList []
 (List.range ops.size).all fun j=>match ops[j]? with
  |none=>true
  |some oj=>(oj.after.toList.all fun e => !Region.binds .any e||decide (e.on<j))&&(List.range j).all fun i=>match ops[i]? with
   |none=>true
   |some oi=>(bs.getD j 0).testBit i||(decide (j<m) && !confB ops oi oj)
theorem memB_iff {d:Nat}:∀ {l:List Nat},memB d l=true↔d∈l
 | []=>by simp [memB]
 |a::l=>by
  simp only [memB];split
  ·rename_i q; simp [Nat.eq_of_beq_eq_true q]
  ·rename_i q;have hne:d≠a:=fun e=>by rw [e,Nat.beq_refl] at q; cases q
   rw [memB_iff (l:=l)];simp [hne]
structure Chk (ops:Array Oper) (m:Nat):Prop where
 low:∀ j o e,ops[j]? = some o→e∈o.after→Region.binds .any e=true→e.on<j
 pair:∀ i j oi oj,i<j→ops[i]? = some oi→ops[j]? = some oj→confB ops oi oj=true→DepT ops i j
 suf:∀ i j oi oj,i<j→m≤j→ops[i]? = some oi→ops[j]? = some oj→DepT ops i j
theorem chk_spec {ops:Array Oper} {m:Nat} (h:chk ops m=true):Chk ops m:=by
 have hb:=bits_spec ops ops.toList [] rfl (fun j i h=>by simp at h);have hall:∀ j oj,ops[j]? = some oj→(oj.after.toList.all fun e => !Region.binds .any e||decide (e.on<j))=true∧∀ i oi,i<j→ops[i]? = some oi→((bits ops.toList []).getD j 0).testBit i=true∨(j<m∧confB ops oi oj=false):=fun j oj hj=>by
  have hlt:j<ops.size:=(Array.getElem?_eq_some_iff.1 hj).1;have h1:=List.all_eq_true.1 h j (List.mem_range.2 hlt);simp only [hj,Bool.and_eq_true] at h1;refine ⟨h1.1,fun i oi hi hoi=>?_⟩;have h2:=List.all_eq_true.1 h1.2 i (List.mem_range.2 hi);simp only [hoi,Bool.or_eq_true,Bool.and_eq_true,decide_eq_true_eq,Bool.not_eq_true'] at h2;exact h2
 refine ⟨fun j o e hj he hbd=>?_,fun i j oi oj hij hi hj hc=>?_,fun i j oi oj hij hm hi hj=>?_⟩
 ·have:=List.all_eq_true.1 (hall j o hj).1 e (by simpa using he)
  simpa [hbd] using this
 ·rcases (hall j oj hj).2 i oi hij hi with h | ⟨-,h⟩
  ·exact hb j i h
  ·rw [hc] at h; cases h
 ·rcases (hall j oj hj).2 i oi hij hi with h | ⟨h,-⟩
  ·exact hb j i h
  ·omega
def cur:List (Oper × AV)→(Nat→Bool)→Nat→List AV→List AV
 | [],_,_,s=>s
 |(o,v)::l,L,i,s=>cur l L (i+1) (if L i then putS s o.dst v else s)
theorem cur_length:∀ (pl:List (Oper × AV)) (L:Nat→Bool) (i:Nat) (s:List AV),(cur pl L i s).length=s.length
 | [],_,_,_=>rfl
 |(o,v)::l,L,i,s=>by
  rw [cur,cur_length l];split
  ·cases o.dst <;> simp [putS]
  ·rfl
theorem putS_other {s:List AV} {d:Option Nat} {v:AV} {t:Nat} (h:d≠some t):(putS s d v)[t]? = s[t]? := by
 cases d with
 |none=>rfl
 |some d=>exact List.getElem?_set_ne (fun e=>h (by rw [e]))
theorem putS_get {s s':List AV} {d:Option Nat} {v:AV} {t:Nat} (hl:s.length=s'.length) (h:s[t]? = s'[t]?):(putS s d v)[t]? = (putS s' d v)[t]? := by
 cases d with
 |none=>exact h
 |some d =>
  by_cases hd:d=t
  ·subst hd;simp only [putS,List.getElem?_set,hl,if_true]
  ·simp only [putS,List.getElem?_set_ne hd,h]
theorem cur_congr {t:Nat}:∀ (pl:List (Oper × AV)) (L L':Nat→Bool) (i:Nat) (s s':List AV),s.length=s'.length→s[t]? = s'[t]? → (∀ k o v,pl[k]? = some (o,v)→o.dst=some t→L (i+k)=L' (i+k))→(cur pl L i s)[t]? = (cur pl L' i s')[t]?
 | [],_,_,_,_,_,_,hs,_=>hs
 |(o,v)::l,L,L',i,s,s',hl,hs,hw=>by
  rw [cur,cur];have hlen:∀ (b:Bool) (q:List AV),(if b then putS q o.dst v else q).length=q.length:=fun b q=>by cases b <;> cases o.dst <;> simp [putS]
  refine cur_congr l L L' (i+1) _ _ (by rw [hlen,hlen,hl]) ?_ (fun k o' v' hk hd=>by have:=hw (k+1) o' v' (by simpa using hk) hd; rwa [show i+(k+1)=i+1+k by omega] at this);by_cases hd:o.dst=some t
  ·have:=hw 0 o v rfl hd;rw [Nat.add_zero] at this;rw [this];split
   ·exact putS_get hl hs
   ·exact hs
  ·split <;> split <;> simp only [putS_other hd,hs]
theorem cur_none:∀ (pl:List (Oper × AV)) (i:Nat) (s:List AV) (L:Nat→Bool),(∀ k,k<pl.length→L (i+k)=false)→cur pl L i s=s
 | [],_,_,_,_=>rfl
 |(o,v)::l,i,s,L,h=>by
  have h0:=h 0 (by simp);rw [Nat.add_zero] at h0;rw [cur,h0];exact cur_none l (i+1) s L (fun k hk=>by have:=h (k+1) (by simpa using hk); rwa [show i+(k+1)=i+1+k by omega] at this)
theorem cur_next:∀ (pl:List (Oper × AV)) (i j:Nat) (s:List AV) (o:Oper) (v:AV),pl[j]? = some (o,v)→cur pl (fun k=>decide (k<i+j+1)) i s=putS (cur pl (fun k=>decide (k<i+j)) i s) o.dst v
 | [],_,_,_,_,_,h=>by simp at h
 |(o',v')::l,i,0,s,o,v,h=>by
  simp at h;obtain ⟨rfl,rfl⟩:=h;rw [cur,cur];simp only [Nat.add_zero,Nat.lt_irrefl,decide_false,Bool.false_eq_true,if_false,Nat.lt_succ_self,decide_true,if_true];rw [cur_none l (i+1) _ _ (fun k _=>decide_eq_false (by omega)),cur_none l (i+1) s _ (fun k _=>decide_eq_false (by omega))]
 |(o',v')::l,i,j+1,s,o,v,h=>by
  rw [cur,cur];have e1:(decide (i<i+(j+1)+1))=true:=decide_eq_true (by omega);have e2:(decide (i<i+(j+1)))=true:=by simp
  simp only [e1,e2,if_true];have:=cur_next l (i+1) j (putS s o'.dst v') o v (by simpa using h);rw [show i+(j+1)+1=i+1+j+1 by omega,show i+(j+1)=i+1+j by omega];exact this
def maskS (keep:List Nat):Nat→List AV→List AV
 |_,[]=>[]
 |i,x::s=>(match memB i keep with | true=>x | false => .any)::maskS keep (i+1) s
theorem maskS_length (keep:List Nat):∀ (i:Nat) (s:List AV),(maskS keep i s).length=s.length
 |_,[]=>rfl
 |i,_::s=>by simp [maskS,maskS_length keep (i+1) s]
theorem maskS_get (keep:List Nat):∀ (i t:Nat) (s:List AV) (x:AV),(maskS keep i s)[t]? = some x→x = .any∨(i+t∈keep∧s[t]? = some x)
 |_,_,[],_,h=>by simp [maskS] at h
 |i,0,y::s,x,h=>by
  simp only [maskS,List.getElem?_cons_zero,Option.some.injEq] at h;split at h
  ·rename_i q; subst h; exact .inr ⟨by simpa using memB_iff.1 q,rfl⟩
  ·exact .inl h.symm
 |i,t+1,y::s,x,h=>by
  simp only [maskS,List.getElem?_cons_succ] at h;rcases maskS_get keep (i+1) t s x h with h | ⟨h1,h2⟩
  ·exact .inl h
  ·exact .inr ⟨by rwa [show i+(t+1)=i+1+t by omega],by simpa using h2⟩
theorem VS.mask {c:Cx} {s:List AV} {t:Array Value} (h:VS c s t) {keep:List Nat}:VS c (maskS keep 0 s) t:=by
 refine ⟨by rw [maskS_length]; exact h.1,fun i x v hx hv=>?_⟩;rcases maskS_get _ 0 i _ x hx with rfl | ⟨-,hx⟩
 ·exact .any v
 ·exact h.2 i x v hx hv
def floatB (o:Oper):Bool:=match o.op,o.guard with
 | .extract _ _,none=>true
 | .move _,none=>true
 | .assign _,none=>true
 |_,_=>false
def OpFact (E:Env) (ops:Array Oper) (o:Oper) (s:List AV) (h:List Box) (v:AV):Prop :=
 ∀ (c:Cx) (a:Act),HOk E.G c→c.heap=h→a.defers=[]→VS c (maskS (keepOf ops o) 0 s) a.tmps→∀ (j:Nat),ops[j]? = some o→∀ (K:Act→World→Prop) (Q:Exit→Act→World→Prop),
  (∀ (c':Cx) (u:Value),HOk E.G c'→c'.heap=h→Step c c'→VR c' v u→K (a.put o.dst u) c'.w)→wpOp E.P ops Q j K a c.w
def SFact (E:Env) (ops:Array Oper) (o:Oper) (s:List AV) (h:List Box) (v:AV) (h':List Box):Prop :=
 ∀ (c:Cx) (a:Act),HOk E.G c→c.heap=h→a.defers=[]→VS c (maskS (keepOf ops o) 0 s) a.tmps→∀ (j:Nat),ops[j]? = some o→∀ (K:Act→World→Prop) (Q:Exit→Act→World→Prop),
  (∀ (c':Cx) (u:Value),HOk E.G c'→c'.heap=h'→Step c c'→VR c' v u→K (a.put o.dst u) c'.w)→wpOp E.P ops Q j K a c.w
def AFact (E:Env) (o:Oper) (h:List Box) (v:AV) (h':List Box):Prop :=
 ∀ t,o.op = .alloc t→o.guard=none→v = .ptr h.length 0∧∃ i:TInfo,E.T[t]? = some i∧i.zero.length=i.size∧0<i.size∧h'=h++[.cells (i.zero.map .d)]
def DPlan (E:Env) (ops:Array Oper) (h:List Box) (K:List AV→Prop):List Oper→List AV→Prop
 | [],s=>K s
 |o::l,s=>∃ v,OpFact E ops o s h v∧(floatB o=true→∀ h',OpFact E ops o s h' v)∧DPlan E ops h K l (putS s o.dst v)
def SPlan (E:Env) (ops:Array Oper) (K:List AV→List Box→Prop):List Oper→List AV→List Box→Prop
 | [],s,h=>K s h
 |o::l,s,h=>∃ v h',SFact E ops o s h v h'∧AFact E o h v h'∧SPlan E ops K l (putS s o.dst v) h'
theorem DPlan.lay {E:Env} {ops:Array Oper} {h:List Box} {K:List AV→Prop}:∀ {l:List Oper} {s:List AV},DPlan E ops h K l s→∃ pl:List (Oper × AV),pl.map (·.1)=l∧K (cur pl (fun k=>decide (k<pl.length)) 0 s)∧∀ j o v,pl[j]? = some (o,v)→OpFact E ops o (cur pl (fun k=>decide (k<j)) 0 s) h v∧(floatB o=true→∀ h',OpFact E ops o (cur pl (fun k=>decide (k<j)) 0 s) h' v)
 | [],s,H=>⟨[],rfl,H,fun j o v hj=>by simp at hj⟩
 |o::l,s,H=>by
  obtain ⟨v,h1,h1',H⟩:=H;obtain ⟨pl,k1,k2,k3⟩:=DPlan.lay H;have shift:∀ (pl:List (Oper × AV)) (n i:Nat) (s:List AV),cur pl (fun k=>decide (k<n+1)) (i+1) s=cur pl (fun k=>decide (k<n)) i s:=by
   intro pl
   induction pl with
   |nil=>intro n i s; rfl
   |cons p pl ih =>
    intro n i s;obtain ⟨o',v'⟩:=p;rw [cur,cur,ih]
    congr 1
    simp
  refine ⟨(o,v)::pl,by simp [k1],?_,fun j o' v' hj=>?_⟩
  ·rw [cur];simp only [List.length_cons,Nat.zero_lt_succ,decide_true,if_true];rw [shift];exact k2
  ·cases j with
   |zero =>
    simp at hj;obtain ⟨rfl,rfl⟩:=hj;rw [cur_none _ _ _ _ (fun k _=>decide_eq_false (by omega))];exact ⟨h1,h1'⟩
   |succ j =>
    have:=k3 j o' v' (by simpa using hj);rw [cur];simp only [Nat.zero_lt_succ,decide_true,if_true];rw [shift];exact this
section
variable {E:Env} {ops:Array Oper} {m:Nat}
def Lst (listed:Array Bool) (i:Nat):Bool:=listed.getD i false
def DC (ops:Array Oper) (listed:Array Bool):Prop:=listed.size=ops.size∧∀ j o e,ops[j]? = some o→Lst listed j=true→e∈o.after→Region.binds .any e=true→Lst listed e.on=true
theorem DC.dep {listed:Array Bool} (hd:DC ops listed) {i j:Nat} (h:DepT ops i j) (hj:Lst listed j=true):Lst listed i=true:=by
 induction h with
 |one ho he hb=>exact hd.2 _ _ _ ho hj he hb
 |step h ho he hb ih=>exact ih (hd.2 _ _ _ ho hj he hb)
theorem DC.ready {listed:Array Bool} (hd:DC ops listed) {i j:Nat} (hj:j∈Region.ready .any ops listed) (h:DepT ops i j):Lst listed i=true:=by
 obtain ⟨-,o,ho,hall⟩:=mem_ready.1 hj;cases h with
 |one ho' he hb=>rw [ho] at ho'; cases ho'; exact hall _ he hb
 |step h ho' he hb=>rw [ho] at ho'; cases ho'; exact hd.dep h (hall _ he hb)
theorem DC.set {listed:Array Bool} (hd:DC ops listed) {j:Nat} (hj:j∈Region.ready .any ops listed):DC ops (listed.setIfInBounds j true):=by
 refine ⟨by simpa using hd.1,fun i o e hi hl he hb=>?_⟩;by_cases hij:j=i
 ·subst hij;obtain ⟨-,o',ho',hall⟩:=mem_ready.1 hj;rw [hi] at ho'; cases ho';exact getD_set_true (hall e he hb)
 ·have:Lst listed i=true:=by unfold Lst at hl ⊢; rwa [getD_set_ne false hij] at hl
  exact getD_set_true (hd.2 i o e hi this he hb)
theorem lst_set {listed:Array Bool} {j i:Nat} (hj:j<listed.size):Lst (listed.setIfInBounds j true) i=(Lst listed i||decide (i=j)):=by
 unfold Lst;by_cases h:j=i
 ·subst h; simp [hj]
 ·rw [getD_set_ne false h]; simp [Ne.symm h]
theorem ready_lst {listed:Array Bool} (hd:DC ops listed) {j:Nat} (hj:j∈Region.ready .any ops listed):Lst listed j=false∧j<ops.size:=by
 obtain ⟨h1,o,ho,-⟩:=mem_ready.1 hj;have hlt:j<ops.size:=(Array.getElem?_eq_some_iff.1 ho).1;refine ⟨?_,hlt⟩;have:j<listed.size:=by rw [hd.1]; exact hlt
 unfold Lst;simp [this] at h1 ⊢;exact h1
theorem ready_some (hc:Chk ops m) {listed:Array Bool} (hd:DC ops listed) {j:Nat} (hj:j<ops.size) (hn:Lst listed j=false):∃ i,i≤j∧i∈Region.ready .any ops listed:=by
 induction j using Nat.strongRecOn with
 |ind j ih =>
  by_cases hall:∀ i,i<j→Lst listed i=true
  ·refine ⟨j,Nat.le_refl _,mem_ready.2 ⟨?_,ops[j],by simp [hj],fun e he hb=>hall _ (hc.low j _ e (by simp [hj]) he hb)⟩⟩;have:j<listed.size:=by rw [hd.1]; exact hj
   unfold Lst at hn;simp [this] at hn ⊢;exact hn
  ·have:∃ i,i<j∧Lst listed i=false:=by
    apply Classical.byContradiction;intro hne;exact hall fun i hi=>by
     cases hl:Lst listed i with
     |true=>rfl
     |false=>exact absurd ⟨i,hi,hl⟩ hne
   obtain ⟨i,hi,hl⟩:=this;obtain ⟨k,hk,hr⟩:=ih i hi (by omega) hl;exact ⟨k,by omega,hr⟩
theorem suffix_ok (hc:Chk ops m) {Q:Exit→Act→World→Prop} {Kf:List AV→List Box→Prop} {c0:Cx}
  (hQ:∀ (a:Act) (c:Cx) (s:List AV) (h:List Box),Kf s h→HOk E.G c→c.heap=h→a.defers=[]→VS c s a.tmps→Step c0 c→Q .normal a c.w) :
  ∀ (l:List Oper) (j:Nat) (s:List AV) (h:List Box),m≤j→ops.toList.drop j=l→j≤ops.size→SPlan E ops Kf l s h→∀ (listed:Array Bool) (a:Act) (c:Cx),HOk E.G c→c.heap=h→a.defers=[]→VS c s a.tmps→Step c0 c →
   DC ops listed→(∀ i,Lst listed i=decide (i<j))→∀ f,ops.size - j≤f→wpAny E.P .any ops Q f listed a c.w
 | [],j,s,h,hm,hl,hj,H,listed,a,c,h1,h2,h3,h4,h5,hd,hli,f,hf=>by
  have hjn:j=ops.size:=by
   have:=congrArg List.length hl;simp at this;omega
  subst hjn;have hnil:Region.ready .any ops listed=[]:=by
   apply List.eq_nil_iff_forall_not_mem.2;intro i hi;obtain ⟨k1,k2⟩:=ready_lst hd hi;rw [hli] at k1;simp at k1;omega
  cases f with
  |zero=>exact ⟨hnil,hQ a c s h H h1 h2 h3 h4 h5⟩
  |succ f=>exact ⟨fun _=>hQ a c s h H h1 h2 h3 h4 h5,fun i hi=>by rw [hnil] at hi; cases hi⟩
 |o::l,j,s,h,hm,hl,hj,H,listed,a,c,h1,h2,h3,h4,h5,hd,hli,f,hff=>by
  have hjn:j<ops.size:=by
   have:=congrArg List.length hl;simp at this;omega
  have ho:ops[j]? = some o:=by
   have:=congrArg (·[0]?) hl
   simpa using this
  have honly:∀ i,i∈Region.ready .any ops listed→i=j:=fun i hi=>by
   obtain ⟨k1,k2⟩:=ready_lst hd hi;rw [hli] at k1;simp at k1;rcases Nat.lt_or_ge j i with hlt | hge
   ·have:=hd.ready hi (hc.suf j i o ops[i] hlt (by omega) ho (by simp [k2]));rw [hli] at this;simp at this
   ·omega
  obtain ⟨v,h',hf,-,H⟩:=H;obtain ⟨f,rfl⟩:∃ g,f=g+1:=⟨f - 1,by omega⟩;refine ⟨fun hr=>?_,fun i hi=>?_⟩
  ·obtain ⟨i,-,hi⟩:=ready_some hc hd hjn (by rw [hli]; simp);rw [hr] at hi;cases hi
  ·obtain rfl:=honly i hi;refine hf c a h1 h2 h3 h4.mask i ho _ _ (fun c' u k1 k2 k3 k4=>?_);refine suffix_ok hc hQ l (i+1) (putS s o.dst v) h' (by omega) (by rw [← List.drop_drop,hl]; rfl) (by omega) H _ _ c' k1 k2 ?_ (VS.putS (k3.vs h4) o.dst k4) (h5.trans k3) (hd.set hi) (fun k=>?_) f (by omega)
   ·cases hdst:o.dst <;> simp [Act.put,h3]
   ·rw [lst_set (by rw [hd.1]; exact hjn),hli];by_cases hk:k=i
    ·subst hk; simp
    ·simp [hk]; omega
def cnt (L:Nat→Bool):Nat→Nat
 | 0=>0
 |n+1=>cnt L n+if L n then 0 else 1
theorem cnt_set {L L':Nat→Bool} {j:Nat} (h:∀ i,i≠j→L' i=L i) (hj:L j=false) (hj':L' j=true):∀ n,(j<n→cnt L' n+1=cnt L n)∧(n≤j→cnt L' n=cnt L n)
 | 0=>⟨fun h=>by omega,fun _=>rfl⟩
 |n+1=>by
  obtain ⟨h1,h2⟩:=cnt_set h hj hj' n;simp only [cnt];by_cases hn:n=j
  ·subst hn;refine ⟨fun _=>?_,fun h=>by omega⟩;rw [h2 (Nat.le_refl _),hj,hj'];simp
  ·rw [h n hn];exact ⟨fun hl=>by have:=h1 (by omega); omega,fun hl=>by rw [h2 (by omega)]⟩
theorem cnt_pos {L:Nat→Bool} {j:Nat} (hj:L j=false):∀ n,j<n→0<cnt L n
 | 0,h=>by omega
 |n+1,h=>by
  simp only [cnt];by_cases hn:n=j
  ·subst hn; rw [hj]; simp
  ·have:=cnt_pos hj n (by omega); omega
theorem cnt_lt (m:Nat):∀ n,m≤n→cnt (fun i=>decide (i<m)) n=n - m
 | 0,h=>by simp [cnt]
 |n+1,h=>by
  simp only [cnt];by_cases hm:m≤n
  ·rw [cnt_lt m n hm]; simp [show ¬ n<m by omega]; omega
  ·obtain rfl:m=n+1:=by omega
   have:∀ k,k≤n→cnt (fun i=>decide (i<n+1)) k=0:=by
    intro k
    induction k with
    |zero=>intro _; rfl
    |succ k ih=>intro hk; simp only [cnt,ih (by omega)]; simp; omega
   rw [this n (Nat.le_refl _)]; simp
theorem cnt_congr {L L':Nat→Bool} (h:∀ i,L i=L' i):∀ n,cnt L n=cnt L' n
 | 0=>rfl
 |n+1=>by simp only [cnt,cnt_congr h n,h n]
theorem conf_left {a b:Oper} {d:Nat} (ha:a.dst=some d) (hb:d∈b.dst.toList++keepOf ops b):confB ops a b=true:=by
 simp only [confB,ha,memB_iff.2 hb,Bool.true_or]
theorem conf_right {a b:Oper} {d:Nat} (hb:b.dst=some d) (ha:d∈keepOf ops a):confB ops a b=true:=by
 simp only [confB,hb,memB_iff.2 ha,Bool.or_true]
theorem prefix_ok (hc:Chk ops m) (hmn:m≤ops.size) {Q:Exit→Act→World→Prop} {Kf:List AV→List Box→Prop} {c0:Cx} {s0:List AV} {h:List Box}
  (hQ:∀ (a:Act) (c:Cx) (s:List AV) (h:List Box),Kf s h→HOk E.G c→c.heap=h→a.defers=[]→VS c s a.tmps→Step c0 c→Q .normal a c.w)
  (pl:List (Oper × AV)) (hpl:pl.map (·.1)=ops.toList.take m) (hfin:SPlan E ops Kf (ops.toList.drop m) (cur pl (fun k=>decide (k<pl.length)) 0 s0) h) (hfact:∀ j o v,pl[j]? = some (o,v)→OpFact E ops o (cur pl (fun k=>decide (k<j)) 0 s0) h v) :
  ∀ (f:Nat) (listed:Array Bool) (a:Act) (c:Cx),HOk E.G c→c.heap=h→a.defers=[]→VS c (cur pl (Lst listed) 0 s0) a.tmps→Step c0 c→DC ops listed→(∀ i,m≤i→Lst listed i=false)→cnt (Lst listed) ops.size≤f→wpAny E.P .any ops Q f listed a c.w:=by
 have hlen:pl.length=m:=by
  have:=congrArg List.length hpl;simp at this;omega
 have hat:∀ j o v,pl[j]? = some (o,v)→ops[j]? = some o∧j<m:=fun j o v hj=>by
  have hjm:j<m:=by rw [← hlen]; exact lt_of_getElem? hj
  have:=congrArg (·[j]?) hpl;simp only [List.getElem?_map,hj,Option.map_some,List.getElem?_take,hjm,if_true] at this;exact ⟨by simpa using this.symm,hjm⟩
 intro f
 induction f with
 |zero =>
  intro listed a c h1 h2 h3 h4 h5 hd hs hcnt;by_cases hall:∀ i,i<ops.size→Lst listed i=true
  ·have hm:m=ops.size:=by
    rcases Nat.lt_or_ge m ops.size with hlt | hge
    ·have:=hs m (Nat.le_refl _); rw [hall m hlt] at this; cases this
    ·omega
   have hli:∀ i,Lst listed i=decide (i<m):=fun i=>by
    rcases Nat.lt_or_ge i m with hi | hi
    ·rw [hall i (by omega)]; simp [hi]
    ·rw [hs i hi]; simp; omega
   refine suffix_ok hc hQ _ m _ h (Nat.le_refl _) rfl hmn hfin listed a c h1 h2 h3 ?_ h5 hd hli 0 (by omega);have:cur pl (Lst listed) 0 s0=cur pl (fun k=>decide (k<pl.length)) 0 s0:=by
    congr 1
    funext i;rw [hli,hlen]
   rw [← this]; exact h4
  ·exfalso;apply hall;intro i hi;cases hl:Lst listed i with
   |true=>rfl
   |false=>have:=cnt_pos hl ops.size hi; omega
 |succ f ih =>
  intro listed a c h1 h2 h3 h4 h5 hd hs hcnt;by_cases hall:∀ i,i<m→Lst listed i=true
  ·have hli:∀ i,Lst listed i=decide (i<m):=fun i=>by
    rcases Nat.lt_or_ge i m with hi | hi
    ·rw [hall i hi]; simp [hi]
    ·rw [hs i hi]; simp; omega
   have hcn:cnt (Lst listed) ops.size=ops.size - m:=by rw [cnt_congr hli,cnt_lt m _ hmn]
   refine suffix_ok hc hQ _ m _ h (Nat.le_refl _) rfl hmn hfin listed a c h1 h2 h3 ?_ h5 hd hli (f+1) (by omega);have:cur pl (Lst listed) 0 s0=cur pl (fun k=>decide (k<pl.length)) 0 s0:=by
    congr 1
    funext i;rw [hli,hlen]
   rw [← this]; exact h4
  ·have:∃ i,i<m∧Lst listed i=false:=by
    apply Classical.byContradiction;intro hne;exact hall fun i hi=>by
     cases hl:Lst listed i with
     |true=>rfl
     |false=>exact absurd ⟨i,hi,hl⟩ hne
   obtain ⟨i0,hi0,hl0⟩:=this;refine ⟨fun hr=>?_,fun i hi=>?_⟩
   ·obtain ⟨i,-,hi⟩:=ready_some hc hd (by omega) hl0;rw [hr] at hi;cases hi
   obtain ⟨hli,hin⟩:=ready_lst hd hi;have him:i<m:=by
    rcases Nat.lt_or_ge i m with h | h
    ·exact h
    ·have:=hd.ready hi (hc.suf i0 i ops[i0] ops[i] (by omega) h (by simp) (by simp [hin]));rw [hl0] at this;cases this
   obtain ⟨⟨o,v⟩,hov⟩:∃ p,pl[i]? = some p:=⟨pl[i]'(by omega),by simp⟩;obtain ⟨hoi,-⟩:=hat i o v hov;have wr:∀ k o' v',pl[k]? = some (o',v')→(k<i→confB ops o' o=true→Lst listed k=true)∧(i<k→confB ops o o'=true→Lst listed k=false):=fun k o' v' hk=>by
    obtain ⟨hok,-⟩:=hat k o' v' hk;refine ⟨fun hlt hcf=>hd.ready hi (hc.pair k i o' o hlt hok hoi hcf),fun hlt hcf=>?_⟩;cases hl:Lst listed k with
    |false=>rfl
    |true=>have:=hd.dep (hc.pair i k o o' hlt hoi hok hcf) hl; rw [hli] at this; cases this
   have hmask:VS c (maskS (keepOf ops o) 0 (cur pl (fun k=>decide (k<i)) 0 s0)) a.tmps:=by
    refine ⟨by rw [maskS_length,cur_length]; have:=h4.1; rwa [cur_length] at this,fun t x u hx hu=>?_⟩;rcases maskS_get _ 0 t _ x hx with rfl | ⟨hk,hx⟩
    ·exact .any u
    ·rw [Nat.zero_add] at hk;refine h4.2 t x u ?_ hu;rw [← hx];refine cur_congr pl _ _ 0 s0 s0 rfl rfl (fun k o' v' hk' hd'=>?_);rw [Nat.zero_add];rcases Nat.lt_trichotomy k i with hlt | rfl | hgt
     ·rw [(wr k o' v' hk').1 hlt (conf_left hd' (List.mem_append_right _ hk))]; simp [hlt]
     ·rw [hli]; simp
     ·rw [(wr k o' v' hk').2 hgt (conf_right hd' hk)]; simp; omega
   refine hfact i o v hov c a h1 h2 h3 hmask i hoi _ _ (fun c' u k1 k2 k3 k4=>?_);have hsz:i<listed.size:=by rw [hd.1]; exact hin
   have hset:=fun q=>lst_set (i:=q) hsz;refine ih _ _ c' k1 k2 ?_ ?_ (h5.trans k3) (hd.set hi) (fun q hq=>by rw [hset,hs q hq]; simp; omega) ?_
   ·cases hdst:o.dst <;> simp [Act.put,h3]
   ·refine ⟨by rw [cur_length]; have:=h4.1; rw [cur_length] at this; cases hdst:o.dst <;> simp [Act.put,this],fun t x u' hx hu'=>?_⟩;by_cases hdt:o.dst=some t
    ·have e1:(cur pl (Lst (listed.setIfInBounds i true)) 0 s0)[t]? = (cur pl (fun k=>decide (k<0+i+1)) 0 s0)[t]? := by
      refine cur_congr pl _ _ 0 s0 s0 rfl rfl (fun k o' v' hk' hd'=>?_);rw [Nat.zero_add,Nat.zero_add,hset];rcases Nat.lt_trichotomy k i with hlt | rfl | hgt
      ·rw [(wr k o' v' hk').1 hlt (conf_left hd' (List.mem_append_left _ (by simp [hdt])))]; simp; omega
      ·simp
      ·rw [(wr k o' v' hk').2 hgt (conf_left hdt (List.mem_append_left _ (by simp [hd'])))]; simp; omega
     rw [e1,cur_next pl 0 i s0 o v hov,hdt] at hx;have htl:t<(cur pl (fun k=>decide (k<0+i)) 0 s0).length:=by
      have:=lt_of_getElem? hx
      simpa [putS] using this
     rw [putS,List.getElem?_set_self htl] at hx;cases hx;have hta:t<a.tmps.size:=by rw [← h4.1,cur_length]; rwa [cur_length] at htl
     have hu2:(a.tmps.setIfInBounds t u)[t]? = some u':=by simpa [Act.put,hdt] using hu'
     rw [Array.getElem?_setIfInBounds_self_of_lt hta] at hu2;cases hu2;exact k4
    ·have e1:(cur pl (Lst (listed.setIfInBounds i true)) 0 s0)[t]? = (cur pl (Lst listed) 0 s0)[t]? := by
      refine cur_congr pl _ _ 0 s0 s0 rfl rfl (fun k o' v' hk' hd'=>?_);rw [Nat.zero_add,hset];have:k≠i:=fun e=>by
       subst e;rw [hov] at hk';cases hk';exact hdt hd'
      simp [this]
     rw [e1] at hx;refine k3.vr (h4.2 t x u' hx ?_);cases hdst:o.dst with
     |none=>simpa [Act.put,hdst] using hu'
     |some d =>
      rw [hdst] at hdt;have hne:d≠t:=fun e=>hdt (by rw [e])
      simpa [Act.put,hdst,Array.getElem?_setIfInBounds_ne hne] using hu'
   ·have:=(cnt_set (L:=Lst listed) (L':=Lst (listed.setIfInBounds i true)) (j:=i) (fun q hq=>by rw [hset]; simp [hq]) hli (by rw [hset]; simp) ops.size).1 hin;omega
end
end Go.Eng
end
section
namespace Go.Eng
open Go Go.RowKit
section
variable {E:Env} {fid:FuncId} {R:Post} {ops:Array Oper} {s:List AV} {h:List Box}
theorem AW.draw {f0:FuncId} {cls:List AFrame} {id m:Nat} {k:List AItem} (hm:E.P.follows .mixedOrders=true) (hchk:chk ops m=true) (hmn:m≤ops.size)
  (H:DPlan E ops h (fun s'=>SPlan E ops (fun s2 h2=>AW E f0 ⟨⟨fid,none,[]⟩,k,s2⟩ cls h2 R) (ops.toList.drop m) s' h) (ops.toList.take m) s):AW E f0 ⟨⟨fid,none,[]⟩,.code (.region id ops true)::k,s⟩ cls h R:=by
 unfold AW;intro c0 c t ts h0 h1 h2 h3 hr hrow h4 h5 cs;obtain ⟨pl,p1,p2,p3⟩:=DPlan.lay H
 let Q:Exit→Act→World→Prop:=fun e a w=>e = .normal∧∃ (c':Cx) (s':List AV) (h':List Box),AW E f0 ⟨⟨fid,none,[]⟩,k,s'⟩ cls h' R∧HOk E.G c'∧c'.heap=h'∧a.defers=[]∧VS c' s' a.tmps∧Step c c'∧w=c'.w
 have hx:Proofs.YthikfaephakahaaGreatDoor.Ext c.w { c.w with drawn:=c.w.drawn+1 }:=⟨rfl,rfl,rfl,Nat.le_refl _,fun _ _=>rfl⟩;obtain ⟨g1,g2⟩:=h3.grow hx;have hwp:(Code.region id ops true).wp E.P Q ⟨t,[]⟩ c.w:=by
  refine wp_region_any hm ?_;refine prefix_ok (E:=E) (chk_spec hchk) hmn (c0:=c) (s0:=s) (h:=h) (Kf:=fun s2 h2=>AW E f0 ⟨⟨fid,none,[]⟩,k,s2⟩ cls h2 R) (fun a c' s' h' hK r1 r2 r3 r4 r5=>⟨rfl,c',s',h',hK,r1,r2,r3,r4,r5,rfl⟩) pl p1 p2 (fun j o v hj=>(p3 j o v hj).1) ops.size (Array.replicate ops.size false) ⟨t,[]⟩ (c.inW { c.w with drawn:=c.w.drawn+1 }) g1 h2 rfl ?_ g2 ?_ ?_ ?_
  ·have:cur pl (Lst (Array.replicate ops.size false)) 0 s=s:=cur_none pl 0 s _ (fun i _=>by unfold Lst; simp [Array.getElem?_replicate]; split <;> rfl);rw [this];exact g2.vs h4
  ·exact ⟨by simp,fun j o e _ hl=>by unfold Lst at hl; simp [Array.getElem?_replicate] at hl; split at hl <;> cases hl⟩
  ·intro i _;unfold Lst;simp [Array.getElem?_replicate];split <;> rfl
  ·have:∀ n,cnt (Lst (Array.replicate ops.size false)) n≤n:=by
    intro n
    induction n with
    |zero=>exact Nat.le_refl _
    |succ n ih=>simp only [cnt]; split <;> omega
   exact this _
 obtain ⟨e,a',w',⟨rfl,c',s',h',hA,r1,r2,r3,r4,r5,rfl⟩,harr⟩:=hwp (bf ⟨fid,none,[]⟩) (k.map AItem.conc) (concs cls ts++cs);unfold AW at hA;obtain ⟨c2,fr,r,v,q1,q2,q3,q3',q4,q5,q6⟩:=hA c0 c' a'.tmps ts h0 (ok_tail h1) r2 r1 (hr.step r5) (hrow.step h3 r5) r4 (r5.cr h5) cs;refine ⟨c2,fr,r,v,q1,q2,q3,q3',?_,q5,q6⟩;have ha':a'=⟨a'.tmps,[]⟩:=by cases a'; simp only at r3; subst r3; rfl
 have:Steps E.P (lone ((bf ⟨fid,none,[]⟩).at ⟨t,[]⟩ (.code (.region id ops true)::k.map AItem.conc)) (concs cls ts++cs) c.w) (lone ((bf ⟨fid,none,[]⟩).at a' (k.map AItem.conc)) (concs cls ts++cs) c'.w):=harr;rw [ha'] at this;exact this.trans q4
theorem OpFact.of {o:Oper} {v:AV} (hw:Wanted ops o (maskS (keepOf ops o) 0 s) true) (ho:OpOK E o.op (maskS (keepOf ops o) 0 s) h v h):OpFact E ops o s h v:=fun c a h1 h2 _ h4 j hj K Q hK=>by
 obtain ⟨c',u,k1,k2,k3,k4,k5⟩:=ho o c a rfl h2 h1 h4;unfold wpOp;simp only [hj,hw c a.tmps h4,if_true];left;have:=hK c' u k3 k2 k5 k4;unfold Oper.wp;rcases k1 with k1 | ⟨k1,rfl⟩
 ·rw [k1]; exact this
 ·rw [k1]; exact this
theorem OpFact.skip {o:Oper} (hw:Wanted ops o (maskS (keepOf ops o) 0 s) false):OpFact E ops o s h (.d .undef):=fun c a h1 h2 _ h4 j hj K Q hK=>by
 unfold wpOp;simp only [hj,hw c a.tmps h4,Bool.false_eq_true,if_false];exact hK c Go.undef h1 h2 (Step.refl c h1.barlt) (.d _ _ .undef)
theorem SFact.of {o:Oper} {v:AV} {h':List Box} (hw:Wanted ops o (maskS (keepOf ops o) 0 s) true) (ho:OpOK E o.op (maskS (keepOf ops o) 0 s) h v h'):SFact E ops o s h v h':=fun c a h1 h2 _ h4 j hj K Q hK=>by
 obtain ⟨c',u,k1,k2,k3,k4,k5⟩:=ho o c a rfl h2 h1 h4;unfold wpOp;simp only [hj,hw c a.tmps h4,if_true];left;have:=hK c' u k3 k2 k5 k4;unfold Oper.wp;rcases k1 with k1 | ⟨k1,rfl⟩
 ·rw [k1]; exact this
 ·rw [k1]; exact this
theorem SFact.skip {o:Oper} (hw:Wanted ops o (maskS (keepOf ops o) 0 s) false):SFact E ops o s h (.d .undef) h:=fun c a h1 h2 _ h4 j hj K Q hK=>by
 unfold wpOp;simp only [hj,hw c a.tmps h4,Bool.false_eq_true,if_false];exact hK c Go.undef h1 h2 (Step.refl c h1.barlt) (.d _ _ .undef)
theorem call_wp {s:List AV} {o:Oper} {fx:Operand} {args:Array Operand} {ts:Array TypeId} {f:FuncId} {a1 a2 av:List AV} {ds:List DV} {r:DV} (ho:o.op = .call { callee := .value fx,args:=args,argTypes:=ts })
  (hf:EvOK E.G s fx (.fn (.func f) a1 a2)) (ha:EvsOK E.G s args.toList av) (hd:a1++av++a2=ds.map .d) (hc:PCalls E f ds (· = r)) {c:Cx} {a:Act} (h1:HOk E.G c) (h4:VS c s a.tmps) {K:Act→World→Prop} {Q:Exit→Act→World→Prop}
  (hK:∀ (c':Cx) (u:Value),HOk E.G c'→c'.heap=c.heap→Step c c'→VR c' (.d r) u→K (a.put o.dst u) c'.w):o.wp E.P a c.w K Q:=by
 unfold PCalls at hc;obtain ⟨v1,v2,e1,e2,e3⟩:=vr_fn (hf c a h1 h4);have e4:=ha c a h1 h4;have e5:=(e2.append e4).append e3;rw [hd] at e5;have hbar:∀ b,c.bad b→b<c.w.heap.size:=fun b hb=>hb.elim (h1.barlt b) fun ⟨j,n,hj⟩=>(h1.ownlt j b n hj).1;have hglob:GlobOK E.G c.bad c.w:=fun g e hg=>by
  have hp:∀ p,VR c (.eptr e 0) p→VR ⟨fun _=>none,[],c.bad,c.w⟩ (.eptr e 0) p:=fun p hp=>by
   cases hp with
   |eptr _ _ blk o' fv k1 k2 k3 k4=>exact .eptr _ _ blk o' fv (fun hb=>k1 (bad_none.1 hb)) k2 k3 (fun j x hx=>vd_none (k4 j x hx))
  exact hp _ (h1.glob g e hg)
 have hcall:=hc.2 c.bad c.w _ hbar hglob ⟨by simpa using e5.1,e5.ofMapD⟩;have hrun:=run_call (P:=E.P) (w:=c.w) (a:=a) ho e1 hc.1;have hargs:(v1.toArray++args.map a.eval++v2.toArray)=(v1++args.toList.map a.eval++v2).toArray:=by
  apply Array.ext';simp
 rw [hargs] at hrun;unfold Oper.wp;rw [hrun,Oper.upon_enter];refine hcall.mono fun e w' he=>?_;obtain ⟨v,r',rfl,rfl,hv,hx⟩:=he;obtain ⟨k1,k2⟩:=h1.grow hx;exact hK (c.inW w') v k1 rfl k2 (.d _ _ hv)
theorem OpFact.call {o:Oper} {fx:Operand} {args:Array Operand} {ts:Array TypeId} {f:FuncId} {a1 a2 av:List AV} {ds:List DV} {r:DV} (hw:Wanted ops o (maskS (keepOf ops o) 0 s) true) (ho:o.op = .call { callee := .value fx,args:=args,argTypes:=ts })
  (hf:EvOK E.G (maskS (keepOf ops o) 0 s) fx (.fn (.func f) a1 a2)) (ha:EvsOK E.G (maskS (keepOf ops o) 0 s) args.toList av) (hd:a1++av++a2=ds.map .d) (hc:PCalls E f ds (· = r)):OpFact E ops o s h (.d r):=fun c a h1 h2 _ h4 j hj K Q hK=>by
 unfold wpOp;simp only [hj,hw c a.tmps h4,if_true];left;exact call_wp ho hf ha hd hc h1 h4 fun c' u k1 k2 k3 k4=>hK c' u k1 (k2.trans h2) k3 k4
theorem SFact.call {o:Oper} {fx:Operand} {args:Array Operand} {ts:Array TypeId} {f:FuncId} {a1 a2 av:List AV} {ds:List DV} {r:DV} (hw:Wanted ops o (maskS (keepOf ops o) 0 s) true) (ho:o.op = .call { callee := .value fx,args:=args,argTypes:=ts })
  (hf:EvOK E.G (maskS (keepOf ops o) 0 s) fx (.fn (.func f) a1 a2)) (ha:EvsOK E.G (maskS (keepOf ops o) 0 s) args.toList av) (hd:a1++av++a2=ds.map .d) (hc:PCalls E f ds (· = r)):SFact E ops o s h (.d r) h:=fun c a h1 h2 _ h4 j hj K Q hK=>by
 unfold wpOp;simp only [hj,hw c a.tmps h4,if_true];left;exact call_wp ho hf ha hd hc h1 h4 fun c' u k1 k2 k3 k4=>hK c' u k1 (k2.trans h2) k3 k4
theorem SFact.acall {o:Oper} {fx:Operand} {args:Array Operand} {ts:Array TypeId} {f:FuncId} {a1 a2 av:List AV} {sel:List Nat} {r:AV} {h1:List Box} (hw:Wanted ops o (maskS (keepOf ops o) 0 s) true) (ho:o.op = .call { callee := .value fx,args:=args,argTypes:=ts })
  (hf:EvOK E.G (maskS (keepOf ops o) 0 s) fx (.fn (.func f) a1 a2)) (ha:EvsOK E.G (maskS (keepOf ops o) 0 s) args.toList av) (hc:ACalls E f (unH sel h) ((a1++av++a2).map (unV sel h)) (fun a b=>a=r∧b=h1)) (hn:sel.Nodup) (hlt:∀ j∈sel,j<h.length):SFact E ops o s h (reV sel h r) (reH sel h h1):=fun c a k1 h2 _ h4 j hj K Q hK=>by
 unfold wpOp;simp only [hj,hw c a.tmps h4,if_true];left;obtain ⟨v1,v2,e1,e2,e3⟩:=vr_fn (hf c a k1 h4);have e4:=ha c a k1 h4;have e5:=(e2.append e4).append e3;have hb:HasBody E.P f:=by unfold ACalls at hc; exact hc.1
 have hcall:=hc.at (c:=c) hn hlt h2 k1 e5;have hrun:=run_call (P:=E.P) (w:=c.w) (a:=a) ho e1 hb;have hargs:(v1.toArray++args.map a.eval++v2.toArray)=(v1++args.toList.map a.eval++v2).toArray:=by
  apply Array.ext';simp
 rw [hargs] at hrun;unfold Oper.wp;rw [hrun,Oper.upon_enter];refine hcall.mono fun e w' he=>?_;obtain ⟨c',r',h1',v,rfl,rfl,⟨rfl,rfl⟩,q1,q2,q3,q4⟩:=he;exact hK c' v q3 q1 q4 q2
end
@[irreducible] def callP1 (E : Env) (f : FuncId) (ds : List DV) (K : DV → Prop) : Prop := ∃ r, PCalls E f ds (· = r) ∧ K r
theorem callP1_eq {E:Env} {f:FuncId} {ds:List DV} {K:DV→Prop} {r:DV} (h:PCalls E f ds (· = r)) (hk:K r):callP1 E f ds K:=by unfold callP1; exact ⟨r,h,hk⟩
@[irreducible] def callS1 (E : Env) (f : FuncId) (h0 : List Box) (args : List AV) (K : AV → List Box → Prop) : Prop := ∃ r h1, ACalls E f h0 args (fun a b => a = r ∧ b = h1) ∧ K r h1
def callB1K (E:Env) (f:FuncId) (avs:List AV) (h:List Box) (stop:Prop) (k:AV→List Box→Prop):Prop :=
 seesV h avs [] fun sel0=>closeK h 20 0 sel0 fun sel=>lenK h 0 fun n=>match okSel n sel with
  |true=>unHK sel h fun h0=>mapsK (unVK sel h) avs fun args0=>callS1 E f h0 args0 fun r h1=>reVK sel h r fun v=>reHK sel h h1 fun h'=>k v h'
  |false=>stop
theorem callB1K_sound {E:Env} {f:FuncId} {avs:List AV} {h:List Box} {stop:Prop} {k:AV→List Box→Prop} (H:callB1K E f avs h stop k):stop∨∃ (sel:List Nat) (r:AV) (h1:List Box),
  ACalls E f (unH sel h) (avs.map (unV sel h)) (fun a b=>a=r∧b=h1)∧sel.Nodup∧(∀ j∈sel,j<h.length)∧k (reV sel h r) (reH sel h h1):=by
 unfold callB1K at H;obtain ⟨s0,H⟩:=seesV_some H;obtain ⟨sel,H⟩:=closeK_some H;rw [lenK_eq,Nat.zero_add] at H;split at H
 ·rename_i q;obtain ⟨h1,h2⟩:=okSel_spec q;rw [unHK_eq,mapsK_eq (unVK_eq sel h)] at H;unfold callS1 at H;obtain ⟨r,hp,h3,h4⟩:=H;rw [reVK_eq,reHK_eq] at h4;exact .inr ⟨sel,r,hp,h3,h1,h2,h4⟩
 ·exact .inl H
def stillOp:Op→Bool
 | .box .. => false
 | .alloc .. => false
 | .store .. => false
 | .makeSlice .. => false
 | .makeMap .. => false
 | .mapUpdate .. => false
 | .call { callee := .builtin .append,.. }=>false
 |_=>true
def maskK {α:Sort _} (keep:List Nat):Nat→List AV→(List AV→α)→α
 |_,[],k=>k []
 |i,x::s,k=>match memB i keep with
  |true=>maskK keep (i+1) s fun s'=>k (x::s')
  |false=>maskK keep (i+1) s fun s'=>k (.any::s')
theorem maskK_eq {α:Sort _} (keep:List Nat):∀ (i:Nat) (s:List AV) (k:List AV→α),maskK keep i s k=k (maskS keep i s)
 |_,[],_=>rfl
 |i,x::s,k=>by
  simp only [maskK,maskS];split <;> rename_i q <;> rw [maskK_eq keep (i+1)] <;> simp only [q]
@[irreducible] def DWL (E : Env) (fid : FuncId) (R : Post) (ops : Array Oper) (k : List AItem) (_lits : List Nat) (pre suf : List Oper) (s : List AV) (h : List Box) : Prop :=
 DPlan E ops h (fun s'=>SPlan E ops (fun s2 h2=>AWL E fid R [] k s2 h2) suf s' h) pre s
@[irreducible] def SWL (E : Env) (fid : FuncId) (R : Post) (ops : Array Oper) (k : List AItem) (_lits : List Nat) (suf : List Oper) (s : List AV) (h : List Box) : Prop :=
 SPlan E ops (fun s2 h2=>AWL E fid R [] k s2 h2) suf s h
def drunK (E:Env) (fid:FuncId) (R:Post) (ops:Array Oper) (k:List AItem):Nat→List Nat→List Oper→List Oper→List AV→List Box→Prop
 | 0,lits,pre,suf,s,h=>DWL E fid R ops k lits pre suf s h
 |n+1,lits,pre,suf,s,h =>
  match pre with
  | []=>SWL E fid R ops k lits suf s h
  |o::l=>maskK (keepOf ops o) 0 s fun so =>
   let go:Prop:=match stillOp o.op with
    |true=>opK E.T E.G o.op so h (plainSK E o.op so (sideMK E o.op so h (callK E.G so o (DWL E fid R ops k lits pre suf s h) fun f avs=>allDK avs (DWL E fid R ops k lits pre suf s h) fun ds=>callP1 E f ds fun v=>putK s o.dst (.d v) fun s'=>DWL E fid R ops k lits l suf s' h)
      fun v _=>putK s o.dst v fun s'=>DWL E fid R ops k lits l suf s' h)
      fun v=>putK s o.dst v fun s'=>drunK E fid R ops k n lits l suf s' h)
     fun v _=>putK s o.dst v fun s'=>drunK E fid R ops k n lits l suf s' h
    |false=>DWL E fid R ops k lits pre suf s h
   guardK ops o.guard go (DWL E fid R ops k lits pre suf s h) fun d b=>getK so d (DWL E fid R ops k lits pre suf s h) fun
    | .d (.bool t)=>match memB d lits with
     |false=>caseB t (setK s d (.d (.bool true)) fun s'=>DWL E fid R ops k (d::lits) pre suf s' h) (setK s d (.d (.bool false)) fun s'=>DWL E fid R ops k (d::lits) pre suf s' h)
     |true=>match sameB t b with
      |true=>go
      |false=>putK s o.dst (.d .undef) fun s'=>drunK E fid R ops k n lits l suf s' h
    | .d .undef=>putK s o.dst (.d .undef) fun s'=>drunK E fid R ops k n lits l suf s' h
    |_=>DWL E fid R ops k lits pre suf s h
theorem opK_still {T:List TInfo} {G:List (Nat × DV)} {o:Op} {s:List AV} {h:List Box} {stop:Prop} {K:AV→Prop} (ho:stillOp o=true) (H:opK T G o s h stop (fun v _=>K v)):opK T G o s h stop (fun v h'=>h'=h∧K v):=by
 cases o
 case box=>cases ho
 case alloc=>cases ho
 case store=>cases ho
 case unOp op t x=>cases op <;> simpa only [opK,true_and] using H
 case call c =>
  obtain ⟨callee,args,ts⟩:=c;cases callee with
  |builtin b=>cases b <;> simpa only [opK,true_and] using H
  |_=>simpa only [opK] using H
 all_goals simpa only [opK,true_and] using H
theorem sideK_still {T:List TInfo} {G:List (Nat × DV)} {o:Op} {s:List AV} {h:List Box} {stop:Prop} {K:AV→Prop} (ho:stillOp o=true) (H:sideK T G o s h stop (fun v _=>K v)):sideK T G o s h stop (fun v h'=>h'=h∧K v):=by
 cases o
 case store=>cases ho
 case makeSlice=>cases ho
 case slice t x lo hi mx=>cases mx <;> simpa only [sideK,appK,true_and] using H
 case call c =>
  obtain ⟨callee,args,ts⟩:=c;cases callee with
  |builtin b=>cases b <;> first | (simpa only [sideK,appK] using H) | (simp [stillOp] at ho)
  |_=>simpa only [sideK,appK] using H
 all_goals simpa only [sideK,appK,true_and] using H
theorem mapOpK_still {E:Env} {o:Op} {s:List AV} {h:List Box} {stop:Prop} {K:AV→Prop} (ho:stillOp o=true):mapOpK E o s h stop (fun v h'=>h'=h∧K v)=mapOpK E o s h stop (fun v _=>K v):=by
 unfold mapOpK;split
 ·simp [stillOp] at ho
 ·simp only [true_and]
 ·simp only [true_and]
 ·simp [stillOp] at ho
 ·rfl
theorem sideMK_still {E:Env} {o:Op} {s:List AV} {h:List Box} {stop:Prop} {K:AV→Prop} (ho:stillOp o=true) (H:sideMK E o s h stop (fun v _=>K v)):sideMK E o s h stop (fun v h'=>h'=h∧K v):=by
 unfold sideMK at H ⊢;rw [mapOpK_still ho];have:=sideK_still ho H;have e:(fun v=>h=h∧K v)=K:=by funext v; simp
 rw [e];exact this
theorem SWL.is {E:Env} {fid:FuncId} {R:Post} {ops:Array Oper} {k:List AItem} {lits:List Nat} {suf:List Oper} {s:List AV} {h:List Box} (H:SWL E fid R ops k lits suf s h):SWL E fid R ops k lits suf s h:=H
theorem DWL.is {E:Env} {fid:FuncId} {R:Post} {ops:Array Oper} {k:List AItem} {lits:List Nat} {pre suf:List Oper} {s:List AV} {h:List Box} (H:DWL E fid R ops k lits pre suf s h):DWL E fid R ops k lits pre suf s h:=H
theorem SWL.to {E:Env} {fid:FuncId} {R:Post} {ops:Array Oper} {k:List AItem} {lits:List Nat} {suf:List Oper} {s:List AV} {h:List Box} (H:SWL E fid R ops k lits suf s h):SPlan E ops (fun s2 h2=>AWL E fid R [] k s2 h2) suf s h:=by unfold SWL at H; exact H
theorem DWL.to {E:Env} {fid:FuncId} {R:Post} {ops:Array Oper} {k:List AItem} {lits:List Nat} {pre suf:List Oper} {s:List AV} {h:List Box} (H:DWL E fid R ops k lits pre suf s h):DPlan E ops h (fun s'=>SPlan E ops (fun s2 h2=>AWL E fid R [] k s2 h2) suf s' h) pre s:=by unfold DWL at H; exact H
theorem float_sound {E:Env} {o:Oper} {so:List AV} {h:List Box} {A stop:Prop} {K:AV→Prop} {B:AV→List Box→Prop} {C:(f:FuncId)→List AV→Prop} {D:AV→Prop} (hF:floatB o=true)
  (H:match stillOp o.op with
    |true=>opK E.T E.G o.op so h (plainSK E o.op so (sideMK E o.op so h (callK E.G so o stop C) B) D) fun v _=>K v
    |false=>A) (hA:A→stop):stop∨∃ v,K v∧∀ h',OpOK E o.op so h' v h':=by
 obtain ⟨dst,op,type,pos,after,guard⟩:=o;cases op <;> first | (cases guard <;> cases hF; done) | skip
 case extract x i =>
  simp only [stillOp,opK,plainSK,sideMK,sideK,appK,stillK,mapOpK,callK] at H;rcases evalK_sound H with H | ⟨v,hv,H⟩
  ·exact .inl H
  split at H
  ·rename_i l;rcases getK_or H with H | ⟨u,hu,H⟩
   ·exact .inl H
   ·exact .inr ⟨_,H,fun h'=>ok_extract hv hu⟩
  ·rename_i l;rcases getK_or H with H | ⟨u,hu,H⟩
   ·exact .inl H
   ·exact .inr ⟨_,H,fun h'=>ok_extractD hv hu⟩
  ·exact .inl H
 case move x =>
  simp only [stillOp,opK,plainSK,sideMK,sideK,appK,stillK,mapOpK,callK] at H;rcases evalK_sound H with H | ⟨v,hv,H⟩
  ·exact .inl H
  ·exact .inr ⟨_,H,fun h'=>ok_move hv⟩
 case assign x =>
  simp only [stillOp,opK,plainSK,sideMK,sideK,appK,stillK,mapOpK,callK] at H;rcases evalK_sound H with H | ⟨v,hv,H⟩
  ·exact .inl H
  ·exact .inr ⟨_,H,fun h'=>ok_assign hv⟩
theorem drunK_sound {E:Env} (hE:E.OK) {fid:FuncId} {R:Post} {ops:Array Oper} {k:List AItem}:∀ (n:Nat) (lits:List Nat) (pre suf:List Oper) (s:List AV) (h:List Box),
  drunK E fid R ops k n lits pre suf s h→DPlan E ops h (fun s'=>SPlan E ops (fun s2 h2=>AWL E fid R [] k s2 h2) suf s' h) pre s:=by
 intro n
 induction n with
 |zero=>intro lits pre suf s h H; exact DWL.to H
 |succ n ih =>
  intro lits pre suf s h H;unfold drunK at H;split at H
  ·exact SWL.to H
  rename_i o l;rw [maskK_eq] at H;have hso:∀ (d:Nat) (x:AV),(maskS (keepOf ops o) 0 s)[d]? = some x→x ≠ .any→s[d]? = some x:=fun d x hx hne=>by
   rcases maskS_get _ 0 d s x hx with h | ⟨-,h⟩
   ·exact absurd h hne
   ·exact h
  have go:Wanted ops o (maskS (keepOf ops o) 0 s) true→(match stillOp o.op with
    |true=>opK E.T E.G o.op (maskS (keepOf ops o) 0 s) h (plainSK E o.op (maskS (keepOf ops o) 0 s) (sideMK E o.op (maskS (keepOf ops o) 0 s) h (callK E.G (maskS (keepOf ops o) 0 s) o (DWL E fid R ops k lits (o::l) suf s h) fun f avs=>allDK avs (DWL E fid R ops k lits (o::l) suf s h) fun ds=>callP1 E f ds fun v=>putK s o.dst (.d v) fun s'=>DWL E fid R ops k lits l suf s' h)
      fun v _=>putK s o.dst v fun s'=>DWL E fid R ops k lits l suf s' h)
      fun v=>putK s o.dst v fun s'=>drunK E fid R ops k n lits l suf s' h)
     fun v _=>putK s o.dst v fun s'=>drunK E fid R ops k n lits l suf s' h
    |false=>DWL E fid R ops k lits (o::l) suf s h)→DPlan E ops h (fun s'=>SPlan E ops (fun s2 h2=>AWL E fid R [] k s2 h2) suf s' h) (o::l) s:=by
   intro hw H;by_cases hF:floatB o=true
   ·rcases float_sound hF H id with H | ⟨v,H,ho⟩
    ·exact DWL.to H
    ·rw [putK_eq] at H;exact ⟨v,OpFact.of hw (ho h),fun _ h'=>OpFact.of hw (ho h'),ih _ _ _ _ _ H⟩
   have noF:∀ {v:AV},floatB o=true→∀ h',OpFact E ops o s h' v:=fun e=>absurd e hF;split at H
   ·rename_i hst;rcases opK_sound hE (opK_still (K:=fun v=>putK s o.dst v fun s'=>drunK E fid R ops k n lits l suf s' h) hst H) with H | ⟨v,h',⟨rfl,H⟩,ho⟩
    ·rcases plainSK_sound hE H with H | ⟨v,H,ho⟩
     case inr =>
      rw [putK_eq] at H;exact ⟨v,OpFact.of hw (ho h),fun _ h'=>OpFact.of hw (ho h'),ih _ _ _ _ _ H⟩
     rcases sideMK_sound hE (sideMK_still (K:=fun v=>putK s o.dst v fun s'=>DWL E fid R ops k lits l suf s' h) hst H) with H | ⟨v,h',⟨rfl,H⟩,ho⟩
     ·rcases callK_sound H with H | ⟨fx,args,ts,f,a1,av,a2,hop,hv,hav,H⟩
      ·exact DWL.to H
      rcases allDK_cases (a1++av++a2) (DWL E fid R ops k lits (o::l) suf s h) (fun ds=>callP1 E f ds fun v=>putK s o.dst (.d v) fun s'=>DWL E fid R ops k lits l suf s' h) with ⟨ds,e1,e2⟩ | e2
      ·rw [e2] at H;unfold callP1 at H;obtain ⟨r,hc,hk⟩:=H;simp only [putK_eq] at hk;exact ⟨_,OpFact.call hw hop hv hav e1 hc,noF,DWL.to hk⟩
      ·rw [e2] at H; exact DWL.to H
     ·rw [putK_eq] at H;exact ⟨v,OpFact.of hw ho,noF,DWL.to H⟩
    ·rw [putK_eq] at H;exact ⟨v,OpFact.of hw ho,noF,ih _ _ _ _ _ H⟩
   ·exact DWL.to H
  dsimp only at H;unfold guardK at H;split at H
  ·rename_i hg;exact go (wanted_none hg) H
  ·rename_i j b hg;rcases getK_or H with H | ⟨oj,hoj,H⟩
   ·exact DWL.to H
   split at H
   ·rename_i d hd;rcases getK_or H with H | ⟨x,hx,H⟩
    ·exact DWL.to H
    split at H
    ·rename_i t;have hxs:=hso d _ hx (by simp);split at H
     ·refine caseB_elim H (fun e H2=>?_) (fun e H2=>?_)
      ·subst e;rw [setK_eq,set_same hxs] at H2;exact DWL.to H2
      ·subst e;rw [setK_eq,set_same hxs] at H2;exact DWL.to H2
     ·have hw:=wanted_lit hg hoj hd hx;split at H
      ·rename_i q;have:(t==b)=true:=by cases t <;> cases b <;> first | rfl | cases q
       rw [this] at hw;exact go hw H
      ·rename_i q;have:(t==b)=false:=by cases t <;> cases b <;> first | rfl | cases q
       rw [this] at hw;rw [putK_eq] at H;exact ⟨_,OpFact.skip hw,fun _ _=>OpFact.skip hw,ih _ _ _ _ _ H⟩
    ·rw [putK_eq] at H;exact ⟨_,OpFact.skip (wanted_undef hg hoj hd hx),fun _ _=>OpFact.skip (wanted_undef hg hoj hd hx),ih _ _ _ _ _ H⟩
    ·exact DWL.to H
   ·exact DWL.to H
def srunK (E:Env) (fid:FuncId) (R:Post) (ops:Array Oper) (k:List AItem):Nat→List Nat→List Oper→List AV→List Box→Prop
 | 0,lits,suf,s,h=>SWL E fid R ops k lits suf s h
 |n+1,lits,suf,s,h =>
  match suf with
  | []=>AWL E fid R [] k s h
  |o::l=>maskK (keepOf ops o) 0 s fun so =>
   let go : Prop := opK E.T E.G o.op so h (plainK E o.op so h (sideMK E o.op so h (callK E.G so o (SWL E fid R ops k lits suf s h) fun f avs => allDK avs (callB1K E f avs h (SWL E fid R ops k lits suf s h) fun v h' => putK s o.dst v fun s' => SWL E fid R ops k lits l s' h') fun ds => callP1 E f ds fun v => putK s o.dst (.d v) fun s' => SWL E fid R ops k lits l s' h)
         fun v h' => putK s o.dst v fun s' => SWL E fid R ops k lits l s' h')
         fun v h' => putK s o.dst v fun s' => srunK E fid R ops k n lits l s' h')
     fun v h'=>putK s o.dst v fun s'=>srunK E fid R ops k n lits l s' h'
   guardK ops o.guard go (SWL E fid R ops k lits suf s h) fun d b=>getK so d (SWL E fid R ops k lits suf s h) fun
    | .d (.bool t)=>match memB d lits with
     |false=>caseB t (setK s d (.d (.bool true)) fun s'=>SWL E fid R ops k (d::lits) suf s' h) (setK s d (.d (.bool false)) fun s'=>SWL E fid R ops k (d::lits) suf s' h)
     |true=>match sameB t b with
      |true=>go
      |false=>putK s o.dst (.d .undef) fun s'=>srunK E fid R ops k n lits l s' h
    | .d .undef=>putK s o.dst (.d .undef) fun s'=>srunK E fid R ops k n lits l s' h
    |_=>SWL E fid R ops k lits suf s h
theorem srunK_sound {E:Env} (hE:E.OK) {fid:FuncId} {R:Post} {ops:Array Oper} {k:List AItem}:∀ (n:Nat) (lits:List Nat) (suf:List Oper) (s:List AV) (h:List Box),
  srunK E fid R ops k n lits suf s h→SPlan E ops (fun s2 h2=>AWL E fid R [] k s2 h2) suf s h:=by
 intro n
 induction n with
 |zero=>intro lits suf s h H; exact SWL.to H
 |succ n ih =>
  intro lits suf s h H;unfold srunK at H;split at H
  ·exact H
  rename_i o l;rw [maskK_eq] at H;have hso:∀ (d:Nat) (x:AV),(maskS (keepOf ops o) 0 s)[d]? = some x→x ≠ .any→s[d]? = some x:=fun d x hx hne=>by
   rcases maskS_get _ 0 d s x hx with h | ⟨-,h⟩
   ·exact absurd h hne
   ·exact h
  have go : Wanted ops o (maskS (keepOf ops o) 0 s) true → (opK E.T E.G o.op (maskS (keepOf ops o) 0 s) h (plainK E o.op (maskS (keepOf ops o) 0 s) h (sideMK E o.op (maskS (keepOf ops o) 0 s) h (callK E.G (maskS (keepOf ops o) 0 s) o (SWL E fid R ops k lits (o :: l) s h) fun f avs => allDK avs (callB1K E f avs h (SWL E fid R ops k lits (o :: l) s h) fun v h' => putK s o.dst v fun s' => SWL E fid R ops k lits l s' h') fun ds => callP1 E f ds fun v => putK s o.dst (.d v) fun s' => SWL E fid R ops k lits l s' h)
          fun v h' => putK s o.dst v fun s' => SWL E fid R ops k lits l s' h')
          fun v h' => putK s o.dst v fun s' => srunK E fid R ops k n lits l s' h')
     fun v h'=>putK s o.dst v fun s'=>srunK E fid R ops k n lits l s' h')→SPlan E ops (fun s2 h2=>AWL E fid R [] k s2 h2) (o::l) s h:=by
   intro hw H;by_cases hA:∃ t,o.op = .alloc t
   ·obtain ⟨t,e⟩:=hA;simp only [e,opK,plainK,plainSK,chgK,sideMK,sideK,appK,stillK,mapOpK,callK] at H;rcases getK_or H with H | ⟨i,hi,H⟩
    ·exact SWL.to H
    split at H
    ·rename_i q1 q2;rw [mapK_eq,snocK_eq,putK_eq,Nat.zero_add] at H;have hz:=Nat.eq_of_beq_eq_true q1;have hp:0<i.size:=blt_lt q2;exact ⟨_,_,SFact.of hw (by rw [e]; exact ok_alloc hE hi hz hp),fun t' e' _=>by rw [e] at e'; cases e'; exact ⟨rfl,i,hi,hz,hp,rfl⟩,ih _ _ _ _ H⟩
    ·exact SWL.to H
   have noA:∀ (h:List Box) (v:AV) (h':List Box),AFact E o h v h':=fun h v h' t e=>absurd ⟨t,e⟩ hA;rcases opK_sound hE H with H | ⟨v,h',H,ho⟩
   ·rcases plainK_sound hE H with H | ⟨v,h',H,ho⟩
    case inr =>
     rw [putK_eq] at H;exact ⟨v,h',SFact.of hw ho,noA _ _ _,ih _ _ _ _ H⟩
    rcases sideMK_sound hE H with H | ⟨v,h',H,ho⟩
    ·rcases callK_sound H with H | ⟨fx,args,ts,f,a1,av,a2,hop,hv,hav,H⟩
     ·exact SWL.to H
     rcases allDK_cases (a1++av++a2) (callB1K E f (a1++av++a2) h (SWL E fid R ops k lits (o::l) s h) fun v h'=>putK s o.dst v fun s'=>SWL E fid R ops k lits l s' h') (fun ds=>callP1 E f ds fun v=>putK s o.dst (.d v) fun s'=>SWL E fid R ops k lits l s' h) with ⟨ds,e1,e2⟩ | e2
     ·rw [e2] at H;unfold callP1 at H;obtain ⟨r,hc,hk⟩:=H;simp only [putK_eq] at hk;exact ⟨_,_,SFact.call hw hop hv hav e1 hc,noA _ _ _,SWL.to hk⟩
     ·rw [e2] at H;rcases callB1K_sound H with H | ⟨sel,r,hp,hc,hn,hlt,hk⟩
      ·exact SWL.to H
      rw [putK_eq] at hk;exact ⟨_,_,SFact.acall hw hop hv hav hc hn hlt,noA _ _ _,SWL.to hk⟩
    ·rw [putK_eq] at H;exact ⟨v,h',SFact.of hw ho,noA _ _ _,SWL.to H⟩
   ·rw [putK_eq] at H;exact ⟨v,h',SFact.of hw ho,noA _ _ _,ih _ _ _ _ H⟩
  dsimp only at H;unfold guardK at H;split at H
  ·rename_i hg;exact go (wanted_none hg) H
  ·rename_i j b hg;rcases getK_or H with H | ⟨oj,hoj,H⟩
   ·exact SWL.to H
   split at H
   ·rename_i d hd;rcases getK_or H with H | ⟨x,hx,H⟩
    ·exact SWL.to H
    split at H
    ·rename_i t;have hxs:=hso d _ hx (by simp);split at H
     ·refine caseB_elim H (fun e H2=>?_) (fun e H2=>?_)
      ·subst e;rw [setK_eq,set_same hxs] at H2;exact SWL.to H2
      ·subst e;rw [setK_eq,set_same hxs] at H2;exact SWL.to H2
     ·have hw:=wanted_lit hg hoj hd hx;split at H
      ·rename_i q;have:(t==b)=true:=by cases t <;> cases b <;> first | rfl | cases q
       rw [this] at hw;exact go hw H
      ·rename_i q;have:(t==b)=false:=by cases t <;> cases b <;> first | rfl | cases q
       rw [this] at hw;rw [putK_eq] at H;exact ⟨_,_,SFact.skip hw,fun _ _ e=>(by rw [hg] at e; cases e),ih _ _ _ _ H⟩
    ·rw [putK_eq] at H;exact ⟨_,_,SFact.skip (wanted_undef hg hoj hd hx),fun _ _ e=>(by rw [hg] at e; cases e),ih _ _ _ _ H⟩
    ·exact SWL.to H
   ·exact SWL.to H
section
variable {E:Env} {fid:FuncId} {R:Post} {ops:Array Oper} {k:List AItem} {lits:List Nat} {pre suf:List Oper} {s:List AV} {h:List Box}
theorem DWL.run (hE:E.OK) (n:Nat) (H:drunK E fid R ops k n lits pre suf s h):DWL E fid R ops k lits pre suf s h:=by
 unfold DWL; exact drunK_sound hE n lits pre suf s h H
theorem SWL.run (hE:E.OK) (n:Nat) (H:srunK E fid R ops k n lits suf s h):SWL E fid R ops k lits suf s h:=by
 unfold SWL; exact srunK_sound hE n lits suf s h H
theorem AWL.draw (hE:E.OK) (hm:E.P.follows .mixedOrders=true) (m n:Nat) {id:Nat} (hchk:(chk ops m&&Nat.ble m ops.size)=true) (H:takeK m ops.toList fun pre=>dropK m ops.toList fun suf=>drunK E fid R ops k n [] pre suf s h) (hx1:R.fx.rnd=none:=by rfl) (hx2:R.fx.dfs=[]:=by rfl):AWL E fid R lits (.code (.region id ops true)::k) s h:=by
 rw [takeK_eq,dropK_eq] at H;rw [Bool.and_eq_true] at hchk;have e:(⟨fid,R.fx.rnd,R.fx.dfs⟩:FId)=⟨fid,none,[]⟩:=by rw [hx1,hx2]
 refine .of ?_;rw [e];refine AW.draw (m:=m) hm hchk.1 (Nat.le_of_ble_eq_true hchk.2) ?_;have conv:∀ {l:List Oper} {s:List AV} {h:List Box},SPlan E ops (fun s2 h2=>AWL E fid R [] k s2 h2) l s h→SPlan E ops (fun s2 h2=>AW E R.fx.f0 ⟨⟨fid,R.fx.rnd,R.fx.dfs⟩,k,s2⟩ R.fx.cls h2 R) l s h:=by
  intro l
  induction l with
  |nil=>intro s h H; exact AWL.to H
  |cons o l ih=>intro s h H; obtain ⟨v,h',h1,h1',h2⟩:=H; exact ⟨v,h',h1,h1',ih h2⟩
 have conv2:∀ {l:List Oper} {s:List AV},DPlan E ops h (fun s'=>SPlan E ops (fun s2 h2=>AWL E fid R [] k s2 h2) (ops.toList.drop m) s' h) l s→DPlan E ops h (fun s'=>SPlan E ops (fun s2 h2=>AW E R.fx.f0 ⟨⟨fid,R.fx.rnd,R.fx.dfs⟩,k,s2⟩ R.fx.cls h2 R) (ops.toList.drop m) s' h) l s:=by
  intro l
  induction l with
  |nil=>intro s H; exact conv H
  |cons o l ih=>intro s H; obtain ⟨v,h1,h1',h2⟩:=H; exact ⟨v,h1,h1',ih h2⟩
 have H2:=conv2 (drunK_sound hE n [] _ _ s h H);simp only [e] at H2;exact H2
end
end Go.Eng
end
section
namespace Go.Eng
open Go Go.RowKit
theorem boxStep_congr {c1 c2 c1' c2':Cx} {i:Nat} {bx:Box} (h1:c1'.own i=c1.own i) (h2:c2'.heap[i]? = c2.heap[i]?) (h3:c2'.own i=c2.own i) (h:BoxStep c1 c2 i bx):BoxStep c1' c2' i bx:=by
 cases bx <;> simp only [BoxStep,h1,h2,h3] at h ⊢ <;> exact h
def Cx.veil (c:Cx) (o:Obj):Cx:=⟨c.own,c.heap,fun b=>c.bar b∨b=c.w.heap.size,c.w.alloc o⟩
def Cx.bare (c:Cx) (bx:Box) (blk:Nat) (bar:Nat→Prop):Cx:=⟨fun i=>if i=c.heap.length then some (blk,0) else c.own i,c.heap++[bx],bar,c.w⟩
section
variable {G:List (Nat × DV)} {c:Cx} {o:Obj}
theorem veil_badOf (b:Nat) (hb:b<c.w.heap.size) (hn:¬ c.bad b):¬ (c.veil o).bad b∧(c.veil o).w.heap[b]? = c.w.heap[b]? := by
 refine ⟨?_,Below.heap_alloc c.w o b hb⟩;rintro ((h | h) | ⟨i,n,h⟩)
 ·exact hn (.inl h)
 ·omega
 ·exact hn (.inr ⟨i,n,h⟩)
theorem veil_vr {x:AV} {v:Value} (hv:VR c x v):VR (c.veil o) x v:=vr_gen veil_badOf (fun _ _ hi=>boxStep_same hi rfl rfl) hv
theorem veil_vd {x:DV} {v:Value} (hv:VD c.bad c.w x v):VD (c.veil o).bad (c.veil o).w x v:=hv.mono veil_badOf
theorem HOk.veil (ho:HOk G c):HOk G (c.veil o) where
 barlt:=fun b hb=>by
  have hs:(c.veil o).w.heap.size=c.w.heap.size+1:=by simp [Cx.veil]
  rcases hb with hb | hb
  ·have:=ho.barlt b hb; omega
  ·omega
 ownlt:=fun i b n hi=>by
  have hs:(c.veil o).w.heap.size=c.w.heap.size+1:=by simp [Cx.veil]
  have:=ho.ownlt i b n hi;exact ⟨by omega,this.2⟩
 inj:=ho.inj
 sep:=fun i b n hi hb=>hb.elim (ho.sep i b n hi) (fun e=>by have:=(ho.ownlt i b n hi).1; omega)
 box:=fun i bx hx=>(ho.box i bx hx).gen (fun _ _=>veil_vr) (fun _ _=>veil_vd) rfl (fun b n hn=>Below.heap_alloc c.w o b (ho.ownlt i b n hn).1)
 glob:=fun g e hg=>veil_vr (ho.glob g e hg)
variable {bx:Box} {blk:Nat} {bar:Nat→Prop}
theorem bare_bad (ho:HOk G c) (hbar:∀ b,c.bar b↔bar b∨b=blk) (b:Nat):(c.bare bx blk bar).bad b↔c.bad b:=by
 constructor
 ·rintro (h | ⟨i,n,h⟩)
  ·exact .inl ((hbar b).2 (.inl h))
  ·simp only [Cx.bare] at h;split at h
   ·cases h; exact .inl ((hbar _).2 (.inr rfl))
   ·exact .inr ⟨i,n,h⟩
 ·rintro (h | ⟨i,n,h⟩)
  ·rcases (hbar b).1 h with h | rfl
   ·exact .inl h
   ·exact .inr ⟨c.heap.length,0,by simp [Cx.bare]⟩
  ·refine .inr ⟨i,n,?_⟩;have:=(ho.ownlt i b n h).2;simp only [Cx.bare];rw [if_neg (by omega)];exact h
theorem bare_badOf (ho:HOk G c) (hbar:∀ b,c.bar b↔bar b∨b=blk) (b:Nat) (_:b<c.w.heap.size) (hn:¬ c.bad b):¬ (c.bare bx blk bar).bad b∧(c.bare bx blk bar).w.heap[b]? = c.w.heap[b]? :=
 ⟨fun h=>hn ((bare_bad ho hbar b).1 h),rfl⟩
theorem bare_heap {i:Nat} {b:Box} (hi:c.heap[i]? = some b):(c.bare bx blk bar).heap[i]? = c.heap[i]? := List.getElem?_append_left (lt_of_getElem? hi)
theorem bare_own {i:Nat} {b:Box} (hi:c.heap[i]? = some b):(c.bare bx blk bar).own i=c.own i:=by
 have:=lt_of_getElem? hi;simp only [Cx.bare];rw [if_neg (by omega)]
theorem bare_vr (ho:HOk G c) (hbar:∀ b,c.bar b↔bar b∨b=blk) {x:AV} {v:Value} (hv:VR c x v):VR (c.bare bx blk bar) x v:=vr_gen (bare_badOf ho hbar) (fun _ _ hi=>boxStep_same hi (bare_heap hi) (bare_own hi)) hv
theorem bare_vd (ho:HOk G c) (hbar:∀ b,c.bar b↔bar b∨b=blk) {x:DV} {v:Value} (hv:VD c.bad c.w x v):VD (c.bare bx blk bar).bad (c.bare bx blk bar).w x v:=hv.mono (bare_badOf ho hbar)
theorem HOk.bare (ho:HOk G c) (hbar:∀ b,c.bar b↔bar b∨b=blk) (hnb:¬ bar blk) (hbx:BoxOk (c.bare bx blk bar) c.heap.length bx):HOk G (c.bare bx blk bar) where
 barlt:=fun b hb=>ho.barlt b ((hbar b).2 (.inl hb))
 ownlt:=fun i b n hi=>by
  have hl:(c.bare bx blk bar).heap.length=c.heap.length+1:=by simp [Cx.bare]
  simp only [Cx.bare] at hi;split at hi
  ·cases hi;exact ⟨ho.barlt _ ((hbar _).2 (.inr rfl)),by omega⟩
  ·have:=ho.ownlt i b n hi;exact ⟨this.1,by omega⟩
 inj:=fun i j b n m hi hj=>by
  simp only [Cx.bare] at hi hj;split at hi <;> split at hj
  ·omega
  ·cases hi; exact absurd ((hbar _).2 (.inr rfl)) (ho.sep j _ m hj)
  ·cases hj; exact absurd ((hbar _).2 (.inr rfl)) (ho.sep i _ n hi)
  ·exact ho.inj i j b n m hi hj
 sep:=fun i b n hi hb=>by
  simp only [Cx.bare] at hi;split at hi
  ·cases hi; exact hnb hb
  ·exact ho.sep i b n hi ((hbar b).2 (.inl hb))
 box:=fun i b hx=>by
  rcases Nat.lt_trichotomy i c.heap.length with hi | rfl | hi
  ·have hx':c.heap[i]? = some b:=by
    have:(c.bare bx blk bar).heap[i]? = c.heap[i]? := List.getElem?_append_left hi
    rwa [this] at hx
   exact (ho.box i b hx').gen (fun _ _=>bare_vr ho hbar) (fun _ _=>bare_vd ho hbar) (bare_own hx') (fun _ _ _=>rfl)
  ·have:b=bx:=by simp [Cx.bare] at hx; exact hx.symm
   subst this;exact hbx
  ·rw [List.getElem?_eq_none (by simp [Cx.bare]; omega)] at hx;cases hx
 glob:=fun g e hg=>bare_vr ho hbar (ho.glob g e hg)
theorem veil_step {c2:Cx} {us:List Value} {ty:TypeId} {z:List AV} (ho:HOk G c) (hs:Step (c.veil (.cells us.toArray ty)) c2) (ho2:HOk G c2) (hh:c2.heap=c.heap) (hz:VL (c2.bare (.cells z) c.w.heap.size c.bar) z us) :
  HOk G (c2.bare (.cells z) c.w.heap.size c.bar)∧Step c (c2.bare (.cells z) c.w.heap.size c.bar)∧(∀ x v,VR c2 x v→VR (c2.bare (.cells z) c.w.heap.size c.bar) x v)∧VR (c2.bare (.cells z) c.w.heap.size c.bar) (.ptr c.heap.length 0) (.pointer (some ⟨c.w.heap.size,0,none⟩)):=by
 have hbar:∀ b,c2.bar b↔c.bar b∨b=c.w.heap.size:=fun b=>by rw [hs.bar]; exact Iff.rfl
 have hnb:¬ c.bar c.w.heap.size:=fun h=>by have:=ho.barlt _ h; omega
 have hsz:(c.veil (.cells us.toArray ty)).w.heap.size=c.w.heap.size+1:=by simp [Cx.veil]
 have hown:(c2.bare (.cells z) c.w.heap.size c.bar).own c.heap.length=some (c.w.heap.size,0):=by simp [Cx.bare,hh]
 have hat:(c2.bare (.cells z) c.w.heap.size c.bar).heap[c.heap.length]? = some (.cells z):=by simp [Cx.bare,hh]
 have hblk:c2.w.heap[c.w.heap.size]? = some (.cells us.toArray ty (0,0)):=by
  rw [hs.keep _ (by omega) (fun i n hi=>by have:=(ho.ownlt i _ n hi).1; omega)];exact heap_alloc_new _ _
 refine ⟨ho2.bare hbar hnb ?_,?_,fun _ _=>bare_vr ho2 hbar,.ptr _ _ z _ 0 hat hown⟩
 ·rw [hh];exact ⟨c.w.heap.size,0,us.toArray,ty,hown,hblk,by simpa using hz.1.symm,fun j x v hx hu=>hz.2 j x v hx (by simpa using hu)⟩
 ·exact {
   bar:=rfl
   barlt:=ho.barlt
   os:=hs.os
   tape:=hs.tape
   output:=hs.output
   size:=by have:=hs.size; show c.w.heap.size≤c2.w.heap.size; omega
   keep:=fun b hb hn=>by
    show c2.w.heap[b]? = _;rw [hs.keep b (by omega) hn];exact Below.heap_alloc c.w _ b hb
   newown:=fun i b n hi hb=>by
    simp only [Cx.bare] at hi;split at hi
    ·cases hi; omega
    ·exact hs.newown i b n hi (by omega)
   boxes:=fun i b hi=>by
    have:=hs.boxes i b hi;have hlt:=lt_of_getElem? hi
    exact boxStep_congr (c1:=c.veil (.cells us.toArray ty)) rfl (List.getElem?_append_left (by rw [hh]; exact hlt)) (by simp only [Cx.bare]; rw [if_neg (by rw [hh]; omega)]) this }
end
section
variable {E:Env} {ops:Array Oper}
theorem slots_ok (hpair:∀ i j oi oj,i<j→ops[i]? = some oi→ops[j]? = some oj→confB ops oi oj=true→DepT ops i j) {q:List (Oper × AV)} (hat:∀ (k:Nat) (o:Oper) (v:AV),q[k]? = some (o,v)→ops[k]? = some o) {listed:Array Bool} (hd:DC ops listed) {i:Nat} (hi:i∈Region.ready .any ops listed)
  {o:Oper} {v:AV} (hov:q[i]? = some (o,v)) {s0:List AV} {c:Cx} {a:Act} (h4:VS c (cur q (Lst listed) 0 s0) a.tmps) :
  (∀ (c':Cx) (u:Value),(∀ x v,VR c x v→VR c' x v)→VR c' v u→VS c' (cur q (Lst (listed.setIfInBounds i true)) 0 s0) (a.put o.dst u).tmps)∧VS c (maskS (keepOf ops o) 0 (cur q (fun k=>decide (k<i)) 0 s0)) a.tmps:=by
 obtain ⟨hli,hin⟩:=ready_lst hd hi;have hoi:=hat i o v hov;have wr:∀ k o' v',q[k]? = some (o',v')→(k<i→confB ops o' o=true→Lst listed k=true)∧(i<k→confB ops o o'=true→Lst listed k=false):=fun k o' v' hk=>by
  have hok:=hat k o' v' hk;refine ⟨fun hlt hcf=>hd.ready hi (hpair k i o' o hlt hok hoi hcf),fun hlt hcf=>?_⟩;cases hl:Lst listed k with
  |false=>rfl
  |true=>have:=hd.dep (hpair i k o o' hlt hoi hok hcf) hl; rw [hli] at this; cases this
 have hsz:i<listed.size:=by rw [hd.1]; exact hin
 have hset:=fun q=>lst_set (i:=q) hsz;refine ⟨fun c' u k3 k4=>?_,?_⟩
 ·refine ⟨by rw [cur_length]; have:=h4.1; rw [cur_length] at this; cases hdst:o.dst <;> simp [Act.put,this],fun t x u' hx hu'=>?_⟩;by_cases hdt:o.dst=some t
  ·have e1:(cur q (Lst (listed.setIfInBounds i true)) 0 s0)[t]? = (cur q (fun k=>decide (k<0+i+1)) 0 s0)[t]? := by
    refine cur_congr _ _ _ 0 s0 s0 rfl rfl (fun k o' v' hk' hd'=>?_);rw [Nat.zero_add,Nat.zero_add,hset];rcases Nat.lt_trichotomy k i with hlt | rfl | hgt
    ·rw [(wr k o' v' hk').1 hlt (conf_left hd' (List.mem_append_left _ (by simp [hdt])))]; simp; omega
    ·simp
    ·rw [(wr k o' v' hk').2 hgt (conf_left hdt (List.mem_append_left _ (by simp [hd'])))]; simp; omega
   rw [e1,cur_next _ 0 i s0 o v hov,hdt] at hx;have htl:t<(cur q (fun k=>decide (k<0+i)) 0 s0).length:=by
    have:=lt_of_getElem? hx
    simpa [putS] using this
   rw [putS,List.getElem?_set_self htl] at hx;cases hx;have hta:t<a.tmps.size:=by rw [← h4.1,cur_length]; rwa [cur_length] at htl
   have hu2:(a.tmps.setIfInBounds t u)[t]? = some u':=by simpa [Act.put,hdt] using hu'
   rw [Array.getElem?_setIfInBounds_self_of_lt hta] at hu2;cases hu2;exact k4
  ·have e1:(cur q (Lst (listed.setIfInBounds i true)) 0 s0)[t]? = (cur q (Lst listed) 0 s0)[t]? := by
    refine cur_congr _ _ _ 0 s0 s0 rfl rfl (fun k o' v' hk' hd'=>?_);rw [Nat.zero_add,hset];have:k≠i:=fun e=>by
     subst e;rw [hov] at hk';cases hk';exact hdt hd'
    simp [this]
   rw [e1] at hx;refine k3 _ _ (h4.2 t x u' hx ?_);cases hdst:o.dst with
   |none=>simpa [Act.put,hdst] using hu'
   |some d =>
    rw [hdst] at hdt;have hne:d≠t:=fun e=>hdt (by rw [e])
    simpa [Act.put,hdst,Array.getElem?_setIfInBounds_ne hne] using hu'
 ·refine ⟨by rw [maskS_length,cur_length]; have:=h4.1; rwa [cur_length] at this,fun t x u hx hu=>?_⟩;rcases maskS_get _ 0 t _ x hx with rfl | ⟨hk,hx⟩
  ·exact .any u
  ·rw [Nat.zero_add] at hk;refine h4.2 t x u ?_ hu;rw [← hx];refine cur_congr _ _ _ 0 s0 s0 rfl rfl (fun k o' v' hk' hd'=>?_);rw [Nat.zero_add];rcases Nat.lt_trichotomy k i with hlt | rfl | hgt
   ·rw [(wr k o' v' hk').1 hlt (conf_left hd' (List.mem_append_right _ hk))]; simp [hlt]
   ·rw [hli]; simp
   ·rw [(wr k o' v' hk').2 hgt (conf_right hd' hk)]; simp; omega
structure ChkX (ops:Array Oper) (m M:Nat):Prop where
 low:∀ j o e,ops[j]? = some o→e∈o.after→Region.binds .any e=true→e.on<j
 pair:∀ i j oi oj,i<j→ops[i]? = some oi→ops[j]? = some oj→confB ops oi oj=true→DepT ops i j
 suf:∀ i j oi oj,i<j→M≤j→ops[i]? = some oi→ops[j]? = some oj→(i<m∧floatB oi=true)∨DepT ops i j
theorem ChkX.chk {m M:Nat} (h:ChkX ops m M):Chk ops ops.size:=⟨h.low,h.pair,fun i j oi oj _ hj _ hoj=>by
 have:=(Array.getElem?_eq_some_iff.1 hoj).1; omega⟩
structure XP (E:Env) (ops:Array Oper) (m M:Nat) (s0:List AV) (h:List Box) (pl:List (Oper × AV)) (hp:Nat→List Box):Prop where
 ofs:pl.map (·.1)=ops.toList
 flo:∀ j o v,j<m→pl[j]? = some (o,v)→floatB o=true→∀ h',OpFact E ops o (cur pl (fun k=>decide (k<j)) 0 s0) h' v
 pre:∀ j o v,j<m→pl[j]? = some (o,v)→floatB o=false→OpFact E ops o (cur pl (fun k=>decide (k<j)) 0 s0) h v
 suf:∀ j o v,M≤j→pl[j]? = some (o,v)→SFact E ops o (cur pl (fun k=>decide (k<j)) 0 s0) (hp j) v (hp (j+1))
theorem plan_at {pl:List (Oper × AV)} (hpl:pl.map (·.1)=ops.toList):pl.length=ops.size∧∀ (k:Nat) (o:Oper) (v:AV),pl[k]? = some (o,v)→ops[k]? = some o:=by
 refine ⟨by have:=congrArg List.length hpl; simpa using this,fun k o v hk=>?_⟩;have:=congrArg (·[k]?) hpl;simp only [List.getElem?_map,hk,Option.map_some] at this
 simpa using this.symm
theorem cnt_zero {L:Nat→Bool} {n i:Nat} (h:cnt L n≤0) (hi:i<n):L i=true:=by
 cases hl:L i with
 |true=>rfl
 |false=>have:=cnt_pos hl n hi; omega
theorem phase2 {m M:Nat} (hc:ChkX ops m M) (hmM:m≤M) {s0:List AV} {h:List Box} {pl:List (Oper × AV)} {hp:Nat→List Box} (hx:XP E ops m M s0 h pl hp)
  {Q:Exit→Act→World→Prop} {Kf:List AV→List Box→Prop} {c0:Cx} (hfin:Kf (cur pl (fun k=>decide (k<pl.length)) 0 s0) (hp ops.size))
  (hQ:∀ (a:Act) (c:Cx) (s:List AV) (h:List Box),Kf s h→HOk E.G c→c.heap=h→a.defers=[]→VS c s a.tmps→Step c0 c→Q .normal a c.w) :
  ∀ (f:Nat) (listed:Array Bool) (a:Act) (c:Cx) (J:Nat),M≤J→J≤ops.size→HOk E.G c→c.heap=hp J→a.defers=[]→VS c (cur pl (Lst listed) 0 s0) a.tmps→Step c0 c→DC ops listed →
   (∀ i o,ops[i]? = some o→i<J→Lst listed i=true∨(i<m∧floatB o=true))→(∀ i,J≤i→Lst listed i=false)→cnt (Lst listed) ops.size≤f→wpAny E.P .any ops Q f listed a c.w:=by
 obtain ⟨hlen,hat⟩:=plan_at hx.ofs;have done:∀ (listed:Array Bool) (a:Act) (c:Cx) (J:Nat),J≤ops.size→HOk E.G c→c.heap=hp J→a.defers=[]→VS c (cur pl (Lst listed) 0 s0) a.tmps→Step c0 c→(∀ i,J≤i→Lst listed i=false)→(∀ i,i<ops.size→Lst listed i=true)→Q .normal a c.w:=by
  intro listed a c J hJ h1 h2 h3 h4 h5 hn hall;have hJs:J=ops.size:=by
   rcases Nat.lt_or_ge J ops.size with h | h
   ·have:=hall J h; rw [hn J (Nat.le_refl _)] at this; cases this
   ·omega
  subst hJs;have e:cur pl (Lst listed) 0 s0=cur pl (fun k=>decide (k<pl.length)) 0 s0:=by
   congr 1
   funext i;rcases Nat.lt_or_ge i ops.size with h | h
   ·rw [hall i h]; simp [hlen,h]
   ·rw [hn i h]; simp [hlen]; omega
  rw [e] at h4;exact hQ a c _ _ hfin h1 h2 h3 h4 h5
 intro f
 induction f with
 |zero =>
  intro listed a c J hMJ hJ h1 h2 h3 h4 h5 hd hj1 hj2 hcnt;have hall:∀ i,i<ops.size→Lst listed i=true:=fun i hi=>cnt_zero hcnt hi;refine ⟨?_,done listed a c J hJ h1 h2 h3 h4 h5 hj2 hall⟩;apply List.eq_nil_iff_forall_not_mem.2;intro i hi;obtain ⟨k1,k2⟩:=ready_lst hd hi;rw [hall i k2] at k1;cases k1
 |succ f ih =>
  intro listed a c J hMJ hJ h1 h2 h3 h4 h5 hd hj1 hj2 hcnt;refine ⟨fun hr=>?_,fun i hi=>?_⟩
  ·refine done listed a c J hJ h1 h2 h3 h4 h5 hj2 (fun i hi=>?_);cases hl:Lst listed i with
   |true=>rfl
   |false =>
    obtain ⟨k,-,hk⟩:=ready_some hc.chk hd hi hl;rw [hr] at hk;cases hk
  obtain ⟨hli,hin⟩:=ready_lst hd hi;obtain ⟨⟨o,v⟩,hov⟩:∃ p,pl[i]? = some p:=⟨pl[i]'(by omega),by rw [List.getElem?_eq_getElem]⟩;have hoi:=hat i o v hov;obtain ⟨hslots,hmask⟩:=slots_ok hc.pair hat hd hi hov h4;have hsz:i<listed.size:=by rw [hd.1]; exact hin
  have hset:=fun q=>lst_set (i:=q) hsz;have hcnt':cnt (Lst (listed.setIfInBounds i true)) ops.size≤f:=by
   have:=(cnt_set (L:=Lst listed) (L':=Lst (listed.setIfInBounds i true)) (j:=i) (fun q hq=>by rw [hset]; simp [hq]) hli (by rw [hset]; simp) ops.size).1 hin;omega
  have hdef:∀ u:Value,(a.put o.dst u).defers=[]:=fun u=>by cases hdst:o.dst <;> simp [Act.put,h3]
  rcases Nat.lt_or_ge i J with hlt | hge
  ·rcases hj1 i o hoi hlt with hl | ⟨him,hfl⟩
   ·rw [hli] at hl; cases hl
   ·refine hx.flo i o v him hov hfl (hp J) c a h1 h2 h3 hmask i hoi _ _ (fun c' u k1 k2 k3 k4=>?_);refine ih _ _ c' J hMJ hJ k1 k2 (hdef u) (hslots c' u (fun _ _=>k3.vr) k4) (h5.trans k3) (hd.set hi) (fun q o' hq hqJ=>?_) (fun q hq=>by rw [hset,hj2 q hq]; simp; omega) hcnt';rcases hj1 q o' hq hqJ with hl | hl
    ·rw [hset,hl]; simp
    ·exact .inr hl
  ·have hiJ:i=J:=by
    rcases Nat.lt_or_ge J i with hlt | hle
    ·obtain ⟨oJ,hoJ⟩:∃ oJ,ops[J]? = some oJ:=⟨ops[J]'(by omega),by simp⟩;rcases hc.suf J i oJ o hlt (by omega) hoJ hoi with ⟨h,-⟩ | h
     ·omega
     ·have:=hd.ready hi h;rw [hj2 J (Nat.le_refl _)] at this;cases this
    ·omega
   subst hiJ;refine hx.suf i o v hMJ hov c a h1 h2 h3 hmask i hoi _ _ (fun c' u k1 k2 k3 k4=>?_);refine ih _ _ c' (i+1) (by omega) (by omega) k1 k2 (hdef u) (hslots c' u (fun _ _=>k3.vr) k4) (h5.trans k3) (hd.set hi) (fun q o' hq hqJ=>?_) (fun q hq=>by rw [hset,hj2 q (by omega)]; simp; omega) hcnt';by_cases hqi:q=i
   ·subst hqi; left; rw [hset]; simp
   ·rcases hj1 q o' hq (by omega) with hl | hl
    ·left; rw [hset,hl]; simp
    ·exact .inr hl
def Mid (G:List (Nat × DV)) (c0:Cx) (d:Option Nat) (us:List Value) (ty:TypeId) (h:List Box) (done:Bool) (a:Act) (c:Cx):Prop:=match done with
 |false=>Step c0 c
 |true=>∃ cA:Cx,HOk G cA∧cA.heap=h∧Step c0 cA∧Step (cA.veil (.cells us.toArray ty)) c∧∀ t,d=some t→t<a.tmps.size→a.tmps[t]? = some (.pointer (some ⟨cA.w.heap.size,0,none⟩))
def openAt (pl:List (Oper × AV)) (m:Nat) (ox:Oper):List (Oper × AV):=pl.set m (ox,.any)
theorem cur_openAt {pl:List (Oper × AV)} {m i:Nat} {ox:Oper} (hi:i≤m) (s:List AV):cur (openAt pl m ox) (fun k=>decide (k<i)) 0 s=cur pl (fun k=>decide (k<i)) 0 s:=by
 have gen:∀ (pl:List (Oper × AV)) (m j:Nat) (s:List AV),i≤j+m→cur (pl.set m (ox,.any)) (fun k=>decide (k<i)) j s=cur pl (fun k=>decide (k<i)) j s:=by
  intro pl
  induction pl with
  |nil=>intro m j s _; simp
  |cons p pl ih =>
   intro m j s hm;cases m with
   |zero =>
    obtain ⟨o,v⟩:=p;have e:decide (j<i)=false:=decide_eq_false (by omega);simp only [List.set_cons_zero,cur,e,Bool.false_eq_true,if_false]
   |succ m =>
    obtain ⟨o,v⟩:=p;simp only [List.set_cons_succ,cur];exact ih m (j+1) _ (by omega)
 exact gen pl m 0 s (by omega)
theorem phase1 (hE:E.OK) {m:Nat} (hc:ChkX ops m (m+1)) (hmn:m+1≤ops.size) {ox:Oper} (hox:ops[m]? = some ox) {ty:TypeId} (hop:ox.op = .alloc ty) (hgd:ox.guard=none) {ti:TInfo} (hti:E.T[ty]? = some ti) (hz:ti.zero.length=ti.size) (hpos:0<ti.size)
  {s0:List AV} {h:List Box} {pl:List (Oper × AV)} {hp:Nat→List Box} (hx:XP E ops m (m+1) s0 h pl hp) (hpm:pl[m]? = some (ox,.ptr h.length 0)) (hhp:hp (m+1)=h++[.cells (ti.zero.map .d)])
  {Q:Exit→Act→World→Prop} {Kf:List AV→List Box→Prop} {c0:Cx} (hfin:Kf (cur pl (fun k=>decide (k<pl.length)) 0 s0) (hp ops.size))
  (hQ:∀ (a:Act) (c:Cx) (s:List AV) (h:List Box),Kf s h→HOk E.G c→c.heap=h→a.defers=[]→VS c s a.tmps→Step c0 c→Q .normal a c.w) :
  ∃ us:List Value,∀ (f:Nat) (listed:Array Bool) (a:Act) (c:Cx),HOk E.G c→c.heap=h→a.defers=[]→VS c (cur (openAt pl m ox) (Lst listed) 0 s0) a.tmps→Mid E.G c0 ox.dst us ty h (Lst listed m) a c→DC ops listed →
   (∀ i,m+1≤i→Lst listed i=false)→cnt (Lst listed) ops.size≤f→wpAny E.P .any ops Q f listed a c.w:=by
 obtain ⟨z,hz1,hz2⟩:=run_zero (hE.types ty ti hti) hz hpos;obtain ⟨us,hus,-⟩:=hz2 c0;have hul:∀ c:Cx,VL c (ti.zero.map .d) us:=fun c=>by
  obtain ⟨us',e,hv⟩:=hz2 c;rw [hus] at e;have:us=us':=by simpa using e
  rw [this]; exact hv
 refine ⟨us,?_⟩;obtain ⟨hlen,hat⟩:=plan_at hx.ofs;have hgetm:(openAt pl m ox)[m]? = some (ox,.any):=List.getElem?_set_self (by omega);have hget:∀ k,k≠m→(openAt pl m ox)[k]? = pl[k]? := fun k hk=>List.getElem?_set_ne (Ne.symm hk);have hat1:∀ k o v,(openAt pl m ox)[k]? = some (o,v)→ops[k]? = some o:=fun k o v hk=>by
  by_cases hkm:k=m
  ·subst hkm; rw [hgetm] at hk; cases hk; exact hox
  ·rw [hget k hkm] at hk; exact hat k o v hk
 have fin:∀ (f:Nat) (listed:Array Bool) (a:Act) (c:Cx),HOk E.G c→c.heap=h→a.defers=[]→VS c (cur (openAt pl m ox) (Lst listed) 0 s0) a.tmps→Mid E.G c0 ox.dst us ty h (Lst listed m) a c→DC ops listed→(∀ i o,ops[i]? = some o→i<m+1→Lst listed i=true∨(i<m∧floatB o=true))→(∀ i,m+1≤i→Lst listed i=false)→cnt (Lst listed) ops.size≤f→wpAny E.P .any ops Q f listed a c.w:=by
  intro f listed a c h1 h2 h3 h4 h5 hd hall hs hcnt;have hm1:Lst listed m=true:=by
   rcases hall m ox hox (by omega) with hl | ⟨hl,-⟩
   ·exact hl
   ·omega
  rw [hm1] at h5;obtain ⟨cA,k1,k2,k3,k4,k5⟩:=h5;obtain ⟨q1,q2,q3,q4⟩:=veil_step (z:=ti.zero.map .d) k1 k4 h1 (h2.trans k2.symm) (hul _);refine phase2 hc (by omega) hx hfin hQ f listed a (c.bare (.cells (ti.zero.map .d)) cA.w.heap.size cA.bar) (m+1) (Nat.le_refl _) hmn q1 (by rw [hhp]; simp [Cx.bare,h2]) h3 ?_ (k3.trans q2) hd hall hs hcnt;refine ⟨by have:=h4.1; rw [cur_length] at this ⊢; exact this,fun t x v hxx hv=>?_⟩;by_cases hdt:ox.dst=some t
  ·have htl:t<a.tmps.size:=(Array.getElem?_eq_some_iff.1 hv).1;have hconf:∀ k o' v',pl[k]? = some (o',v')→o'.dst=some t→k≤m→(k=m∨Lst listed k=true):=fun k o' v' hk hd' hkm=>by
    rcases Nat.lt_or_ge k m with hlt | hge
    ·exact .inr (hd.dep (hc.pair k m o' ox hlt (hat k o' v' hk) hox (conf_left hd' (List.mem_append_left _ (by simp [hdt])))) hm1)
    ·exact .inl (by omega)
   have e1:(cur pl (Lst listed) 0 s0)[t]? = (cur pl (fun k=>decide (k<0+m+1)) 0 s0)[t]? := by
    refine cur_congr _ _ _ 0 s0 s0 rfl rfl (fun k o' v' hk' hd'=>?_);rw [Nat.zero_add,Nat.zero_add];rcases Nat.lt_or_ge k (m+1) with hlt | hge
    ·rcases hconf k o' v' hk' hd' (by omega) with rfl | hl
     ·rw [hm1]; simp
     ·rw [hl]; simp [hlt]
    ·rw [hs k hge]; simp; omega
   rw [e1,cur_next _ 0 m s0 ox _ hpm,hdt] at hxx;have htl':t<(cur pl (fun k=>decide (k<0+m)) 0 s0).length:=by
    have:=lt_of_getElem? hxx
    simpa [putS] using this
   rw [putS,List.getElem?_set_self htl'] at hxx;cases hxx;rw [k5 t hdt htl] at hv;cases hv;rw [← k2];exact q4
  ·refine q3 x v (h4.2 t x v ?_ hv);rw [← hxx];have gen:∀ (q:List (Oper × AV)) (m' j:Nat) (s s':List AV),s.length=s'.length→s[t]? = s'[t]? → (∀ o v,q[m']? = some (o,v)→o.dst≠some t)→(cur (q.set m' (ox,.any)) (Lst listed) j s)[t]? = (cur q (Lst listed) j s')[t]? := by
    intro q
    induction q with
    |nil=>intro m' j s s' _ hs _; exact hs
    |cons p q ih =>
     intro m' j s s' hl hs hq;obtain ⟨po,pv⟩:=p;have hlen':∀ (b:Bool) (r:List AV) (o:Oper) (v:AV),(if b then putS r o.dst v else r).length=r.length:=fun b r o v=>by cases b <;> cases o.dst <;> simp [putS]
     cases m' with
     |zero =>
      simp only [List.set_cons_zero,cur];refine cur_congr _ _ _ _ _ _ (by rw [hlen',hlen',hl]) ?_ (fun _ _ _ _ _=>rfl);have:=hq po pv rfl;cases Lst listed j <;> simp [putS_other this,putS_other hdt,hs]
     |succ m' =>
      simp only [List.set_cons_succ,cur];refine ih m' (j+1) _ _ (by rw [hlen',hlen',hl]) ?_ (fun o v ho=>hq o v (by simpa using ho));cases Lst listed j
      ·simpa using hs
      ·simp only [if_true]; exact putS_get hl hs
   exact gen pl m 0 s0 s0 rfl rfl (fun o v ho=>by rw [hpm] at ho; cases ho; exact hdt)
 intro f
 induction f with
 |zero =>
  intro listed a c h1 h2 h3 h4 h5 hd hs hcnt;exact fin 0 listed a c h1 h2 h3 h4 h5 hd (fun i o ho _ => .inl (cnt_zero hcnt (Array.getElem?_eq_some_iff.1 ho).1)) hs hcnt
 |succ f ih =>
  intro listed a c h1 h2 h3 h4 h5 hd hs hcnt;by_cases hall:∀ i o,ops[i]? = some o→i<m+1→Lst listed i=true∨(i<m∧floatB o=true)
  ·exact fin (f+1) listed a c h1 h2 h3 h4 h5 hd hall hs hcnt
  ·have:∃ i o,ops[i]? = some o∧i<m+1∧Lst listed i=false∧¬ (i<m∧floatB o=true):=by
    apply Classical.byContradiction;intro hne;apply hall;intro i o ho hi;cases hl:Lst listed i with
    |true=>exact .inl rfl
    |false =>
     right;apply Classical.byContradiction;intro hf;exact hne ⟨i,o,ho,hi,hl,hf⟩
   obtain ⟨i0,o0,ho0,hi0,hl0,hf0⟩:=this;refine ⟨fun hr=>?_,fun i hi=>?_⟩
   ·obtain ⟨i,-,hi⟩:=ready_some hc.chk hd (by omega) hl0;rw [hr] at hi;cases hi
   obtain ⟨hli,hin⟩:=ready_lst hd hi;have him:i<m+1:=by
    rcases Nat.lt_or_ge i (m+1) with h | h
    ·exact h
    ·rcases hc.suf i0 i o0 ops[i] (by omega) h ho0 (by simp [hin]) with hf | hdp
     ·exact absurd hf hf0
     ·have:=hd.ready hi hdp;rw [hl0] at this;cases this
   have hsz:i<listed.size:=by rw [hd.1]; exact hin
   have hset:=fun q=>lst_set (i:=q) hsz;have hcnt':cnt (Lst (listed.setIfInBounds i true)) ops.size≤f:=by
    have:=(cnt_set (L:=Lst listed) (L':=Lst (listed.setIfInBounds i true)) (j:=i) (fun q hq=>by rw [hset]; simp [hq]) hli (by rw [hset]; simp) ops.size).1 hin;omega
   have hs':∀ q,m+1≤q→Lst (listed.setIfInBounds i true) q=false:=fun q hq=>by rw [hset,hs q hq]; simp; omega
   rcases Nat.lt_or_ge i m with hlt | hge
   ·obtain ⟨⟨o,v⟩,hov⟩:∃ p,pl[i]? = some p:=⟨pl[i]'(by omega),by rw [List.getElem?_eq_getElem]⟩;have hoi:=hat i o v hov;have hov1:(openAt pl m ox)[i]? = some (o,v):=by rw [hget i (by omega)]; exact hov
    obtain ⟨hslots,hmask⟩:=slots_ok hc.pair hat1 hd hi hov1 h4;rw [cur_openAt (by omega)] at hmask;have hdef:∀ u:Value,(a.put o.dst u).defers=[]:=fun u=>by cases hdst:o.dst <;> simp [Act.put,h3]
    have hfact:OpFact E ops o (cur pl (fun k=>decide (k<i)) 0 s0) h v:=by
     cases hfl:floatB o with
     |true=>exact hx.flo i o v hlt hov hfl h
     |false=>exact hx.pre i o v hlt hov hfl
    refine hfact c a h1 h2 h3 hmask i hoi _ _ (fun c' u k1 k2 k3 k4=>?_);refine ih _ _ c' k1 k2 (hdef u) (hslots c' u (fun _ _=>k3.vr) k4) ?_ (hd.set hi) hs' hcnt';have hm':Lst (listed.setIfInBounds i true) m=Lst listed m:=by rw [hset]; simp; omega
    rw [hm'];cases hlm:Lst listed m with
    |false=>rw [hlm] at h5; exact Step.trans h5 k3
    |true =>
     rw [hlm] at h5;obtain ⟨cA,p1,p2,p3,p4,p5⟩:=h5;refine ⟨cA,p1,p2,p3,p4.trans k3,fun t ht htl=>?_⟩;have hne:o.dst≠some t:=fun e=>by
      have:=hd.dep (hc.pair i m o ox hlt hoi hox (conf_left e (List.mem_append_left _ (by simp [ht])))) hlm;rw [hli] at this;cases this
     cases hdst:o.dst with
     |none=>rw [hdst] at htl; simp only [Act.put] at htl ⊢; exact p5 t ht htl
     |some d =>
      have hne':d≠t:=fun e=>hne (by rw [hdst,e]);rw [hdst] at htl;simp only [Act.put,Array.size_setIfInBounds] at htl;simp only [Act.put,Array.getElem?_setIfInBounds_ne hne'];exact p5 t ht htl
   ·obtain rfl:i=m:=by omega
    obtain ⟨hslots,-⟩:=slots_ok hc.pair hat1 hd hi hgetm h4;rw [hli] at h5;have h5:Step c0 c:=h5;have hrun:(execOp a.eval ox).run E.P c.w = .ok (.value (.pointer (some ⟨c.w.heap.size,0,none⟩))) (c.w.alloc (.cells us.toArray ty)):=by
     simp only [execOp,hop,Instr.alloc,newVar,newRow,newObj,Sem.run_bind,Sem.run,Result.andThen_ok,Sem.run_pure,hz1,hus];rfl
    unfold wpOp;have hwant:Region.wanted ox (yielded ops a.tmps)=true:=by simp [Region.wanted,hgd]
    simp only [hox,hwant,if_true];left;unfold Oper.wp;rw [hrun];refine ih _ _ (c.veil (.cells us.toArray ty)) h1.veil h2 (by cases hdst:ox.dst <;> simp [Act.put,h3]) (hslots _ _ (fun _ _=>veil_vr) (.any _)) ?_ (hd.set hi) hs' hcnt';have hm':Lst (listed.setIfInBounds i true) i=true:=by rw [hset]; simp
    rw [hm'];refine ⟨c,h1,h2,h5,Step.refl _ h1.veil.barlt,fun t ht htl=>?_⟩;rw [ht] at htl ⊢;simp only [Act.put,Array.size_setIfInBounds] at htl;simp only [Act.put];exact Array.getElem?_setIfInBounds_self_of_lt htl
end
end Go.Eng
end
section
namespace Go.Eng
open Go Go.RowKit
def chkX (ops:Array Oper) (m M:Nat):Bool :=
 let bs:=bits ops.toList []
 (List.range ops.size).all fun j=>match ops[j]? with
  |none=>true
  |some oj=>(oj.after.toList.all fun e => !Region.binds .any e||decide (e.on<j))&&(List.range j).all fun i=>match ops[i]? with
   |none=>true
   |some oi=>(bs.getD j 0).testBit i||(!confB ops oi oj&&(decide (j<M)||(decide (i<m)&&floatB oi)))
theorem chkX_spec {ops:Array Oper} {m M:Nat} (h:chkX ops m M=true):ChkX ops m M:=by
 have hb:=bits_spec ops ops.toList [] rfl (fun j i h=>by simp at h);have hall:∀ j oj,ops[j]? = some oj→(oj.after.toList.all fun e => !Region.binds .any e||decide (e.on<j))=true∧∀ i oi,i<j→ops[i]? = some oi→((bits ops.toList []).getD j 0).testBit i=true∨(confB ops oi oj=false∧(j<M∨(i<m∧floatB oi=true))):=fun j oj hj=>by
  have hlt:j<ops.size:=(Array.getElem?_eq_some_iff.1 hj).1;have h1:=List.all_eq_true.1 h j (List.mem_range.2 hlt);simp only [hj,Bool.and_eq_true] at h1;refine ⟨h1.1,fun i oi hi hoi=>?_⟩;have h2:=List.all_eq_true.1 h1.2 i (List.mem_range.2 hi);simp only [hoi,Bool.or_eq_true,Bool.and_eq_true,decide_eq_true_eq,Bool.not_eq_true'] at h2;exact h2
 refine ⟨fun j o e hj he hbd=>?_,fun i j oi oj hij hi hj hc=>?_,fun i j oi oj hij hm hi hj=>?_⟩
 ·have:=List.all_eq_true.1 (hall j o hj).1 e (by simpa using he)
  simpa [hbd] using this
 ·rcases (hall j oj hj).2 i oi hij hi with h | ⟨h,-⟩
  ·exact hb j i h
  ·rw [hc] at h; cases h
 ·rcases (hall j oj hj).2 i oi hij hi with h | ⟨-,h | h⟩
  ·exact .inr (hb j i h)
  ·omega
  ·exact .inl h
theorem cur_append:∀ (a b:List (Oper × AV)) (L:Nat→Bool) (i:Nat) (s:List AV),cur (a++b) L i s=cur b L (i+a.length) (cur a L i s)
 | [],b,L,i,s=>rfl
 |(o,v)::a,b,L,i,s=>by
  rw [List.cons_append,cur,cur,cur_append a b L (i+1),List.length_cons,show i+1+a.length=i+(a.length+1) by omega]
theorem cur_same:∀ (a:List (Oper × AV)) (L L':Nat→Bool) (i:Nat) (s:List AV),(∀ k,k<a.length→L (i+k)=L' (i+k))→cur a L i s=cur a L' i s
 | [],_,_,_,_,_=>rfl
 |(o,v)::a,L,L',i,s,h=>by
  have h0:=h 0 (by simp);rw [Nat.add_zero] at h0;rw [cur,cur,h0];exact cur_same a L L' (i+1) _ (fun k hk=>by have:=h (k+1) (by simpa using hk); rwa [show i+(k+1)=i+1+k by omega] at this)
theorem cur_shift (d:Nat):∀ (a:List (Oper × AV)) (L:Nat→Bool) (i:Nat) (s:List AV),cur a L (i+d) s=cur a (fun k=>L (k+d)) i s
 | [],_,_,_=>rfl
 |(o,v)::a,L,i,s=>by
  rw [cur,cur,show i+d+1=i+1+d by omega,cur_shift d a L (i+1)]
section
variable {E:Env} {ops:Array Oper}
theorem SPlan.lay {K:List AV→List Box→Prop}:∀ {l:List Oper} {s:List AV} {h:List Box},SPlan E ops K l s h→∃ (pl:List (Oper × AV)) (hs:Nat→List Box),pl.map (·.1)=l∧hs 0=h∧K (cur pl (fun k=>decide (k<pl.length)) 0 s) (hs pl.length) ∧
  ∀ (j:Nat) (o:Oper) (v:AV),pl[j]? = some (o,v)→SFact E ops o (cur pl (fun k=>decide (k<j)) 0 s) (hs j) v (hs (j+1))∧AFact E o (hs j) v (hs (j+1))
 | [],s,h,H=>⟨[],fun _=>h,rfl,rfl,H,fun j o v hj=>by simp at hj⟩
 |o::l,s,h,H=>by
  obtain ⟨v,h',h1,h1',H⟩:=H;obtain ⟨pl,hs,k1,k2,k3,k4⟩:=SPlan.lay H;have shift:∀ (n:Nat) (s:List AV),cur pl (fun k=>decide (k<n+1)) (0+1) s=cur pl (fun k=>decide (k<n)) 0 s:=fun n s=>by
   rw [cur_shift 1]
   congr 1
   funext k;simp
  refine ⟨(o,v)::pl,fun n=>match n with | 0=>h | n+1=>hs n,by simp [k1],rfl,?_,fun j o' v' hj=>?_⟩
  ·rw [cur];simp only [List.length_cons,Nat.zero_lt_succ,decide_true,if_true];rw [shift];exact k3
  ·cases j with
   |zero =>
    simp at hj;obtain ⟨rfl,rfl⟩:=hj;rw [cur_none _ _ _ _ (fun k _=>decide_eq_false (by omega))];simp only [k2];exact ⟨h1,h1'⟩
   |succ j =>
    have:=k4 j o' v' (by simpa using hj);rw [cur];simp only [Nat.zero_lt_succ,decide_true,if_true];rw [shift];exact this
theorem plan_join {m M:Nat} (hmM:m≤M) {s:List AV} {h:List Box} {K:List AV→List Box→Prop} (hm:m≤ops.size) (H:DPlan E ops h (fun s'=>SPlan E ops K (ops.toList.drop m) s' h) (ops.toList.take m) s) :
  ∃ (pl:List (Oper × AV)) (hp:Nat→List Box),XP E ops m M s h pl hp∧hp m=h∧K (cur pl (fun k=>decide (k<pl.length)) 0 s) (hp ops.size)∧∀ (o:Oper) (v:AV),pl[m]? = some (o,v)→AFact E o h v (hp (m+1)):=by
 obtain ⟨p1,a1,H2,a3⟩:=DPlan.lay H;obtain ⟨p2,hs,b1,b2,b3,b4⟩:=SPlan.lay H2;have hl1:p1.length=m:=by
  have:=congrArg List.length a1;simp at this;omega
 have hl2:p2.length=ops.size - m:=by
  have:=congrArg List.length b1
  simpa using this
 have low:∀ j,j≤m→cur (p1++p2) (fun k=>decide (k<j)) 0 s=cur p1 (fun k=>decide (k<j)) 0 s:=fun j hj=>by
  rw [cur_append,cur_none p2 _ _ _ (fun k _=>decide_eq_false (by omega))]
 have high:∀ j,cur (p1++p2) (fun k=>decide (k<m+j)) 0 s=cur p2 (fun k=>decide (k<j)) 0 (cur p1 (fun k=>decide (k<p1.length)) 0 s):=fun j=>by
  rw [cur_append,cur_shift,hl1];have e1:(fun k=>decide (k+m<m+j))=(fun k=>decide (k<j)):=by funext k; simp; omega
  rw [e1]
  congr 1
  refine cur_same p1 _ _ 0 s (fun k hk=>?_);have e2:0+k<m:=by omega
  have e3:0+k<m+j:=by omega
  simp only [e2,e3]
 have getl:∀ j,j<m→(p1++p2)[j]? = p1[j]? := fun j hj=>List.getElem?_append_left (by omega);have getr:∀ j,(p1++p2)[m+j]? = p2[j]? := fun j=>by rw [List.getElem?_append_right (by omega),hl1,Nat.add_sub_cancel_left]
 refine ⟨p1++p2,fun j=>hs (j - m),⟨?_,?_,?_,?_⟩,by simp [b2],?_,?_⟩
 ·rw [List.map_append,a1,b1,List.take_append_drop]
 ·intro j o v hj hov hfl h';rw [getl j hj] at hov;rw [low j (by omega)];exact (a3 j o v hov).2 hfl h'
 ·intro j o v hj hov _;rw [getl j hj] at hov;rw [low j (by omega)];exact (a3 j o v hov).1
 ·intro j o v hj hov;obtain ⟨i,rfl⟩:∃ i,j=m+i:=⟨j - m,by omega⟩;rw [getr] at hov;have:=(b4 i o v hov).1;rw [high];simp only [Nat.add_sub_cancel_left,show m+i+1 - m=i+1 by omega];exact this
 ·have e:(p1++p2).length=m+p2.length:=by rw [List.length_append,hl1]
  rw [e,high];show K _ (hs (ops.size - m));rw [show ops.size - m=p2.length from hl2.symm];exact b3
 ·intro o v hov;have:=getr 0;rw [Nat.add_zero] at this;rw [this] at hov;have:=(b4 0 o v hov).2;rw [b2] at this
  simpa using this
variable {fid:FuncId} {R:Post} {s:List AV} {h:List Box}
theorem AW.anyOrder {id:Nat} {k:List AItem} (hm:E.P.follows .mixedOrders=true) (hx1:R.fx.rnd=none) (hx2:R.fx.dfs=[])
  (H:∀ (c:Cx) (t:Array Value) (Q:Exit→Act→World→Prop),(∀ (a:Act) (c':Cx) (s':List AV) (h':List Box),AW E R.fx.f0 ⟨⟨fid,R.fx.rnd,R.fx.dfs⟩,k,s'⟩ R.fx.cls h' R→HOk E.G c'→c'.heap=h'→a.defers=[]→VS c' s' a.tmps→Step c c'→Q .normal a c'.w)→HOk E.G c→c.heap=h→VS c s t→wpAny E.P .any ops Q ops.size (Array.replicate ops.size false) ⟨t,[]⟩ c.w) :
  AW E R.fx.f0 ⟨⟨fid,R.fx.rnd,R.fx.dfs⟩,.code (.region id ops true)::k,s⟩ R.fx.cls h R:=by
 have e:(⟨fid,R.fx.rnd,R.fx.dfs⟩:FId)=⟨fid,none,[]⟩:=by rw [hx1,hx2]
 simp only [e] at H ⊢;unfold AW;intro c0 c t ts h0 h1 h2 h3 hr hrow h4 h5 cs;have hx:Proofs.YthikfaephakahaaGreatDoor.Ext c.w { c.w with drawn:=c.w.drawn+1 }:=⟨rfl,rfl,rfl,Nat.le_refl _,fun _ _=>rfl⟩;obtain ⟨g1,g2⟩:=h3.grow hx;have hwp:(Code.region id ops true).wp E.P (fun e a w=>e = .normal∧∃ (c':Cx) (s':List AV) (h':List Box),AW E R.fx.f0 ⟨⟨fid,none,[]⟩,k,s'⟩ R.fx.cls h' R∧HOk E.G c'∧c'.heap=h'∧a.defers=[]∧VS c' s' a.tmps∧Step c c'∧w=c'.w) ⟨t,[]⟩ c.w:=by
  refine wp_region_any hm ?_;exact H (c.inW { c.w with drawn:=c.w.drawn+1 }) t _ (fun a c' s' h' hK r1 r2 r3 r4 r5=>⟨rfl,c',s',h',hK,r1,r2,r3,r4,g2.trans r5,rfl⟩) g1 h2 (g2.vs h4)
 obtain ⟨e,a',w',⟨rfl,c',s',h',hA,r1,r2,r3,r4,r5,rfl⟩,harr⟩:=hwp (bf ⟨fid,none,[]⟩) (k.map AItem.conc) (concs R.fx.cls ts++cs);unfold AW at hA;obtain ⟨c2,fr,r,v,q1,q2,q3,q3',q4,q5,q6⟩:=hA c0 c' a'.tmps ts h0 (ok_tail h1) r2 r1 (hr.step r5) (hrow.step h3 r5) r4 (r5.cr h5) cs;refine ⟨c2,fr,r,v,q1,q2,q3,q3',?_,q5,q6⟩;have ha':a'=⟨a'.tmps,[]⟩:=by cases a'; simp only at r3; subst r3; rfl
 have:Steps E.P (lone ((bf ⟨fid,none,[]⟩).at ⟨t,[]⟩ (.code (.region id ops true)::k.map AItem.conc)) (concs R.fx.cls ts++cs) c.w) (lone ((bf ⟨fid,none,[]⟩).at a' (k.map AItem.conc)) (concs R.fx.cls ts++cs) c'.w):=harr;rw [ha'] at this;exact this.trans q4
theorem lst0 (n i:Nat):Lst (Array.replicate n false) i=false:=by
 unfold Lst;simp [Array.getElem?_replicate];split <;> rfl
theorem cnt0 (n:Nat):∀ k,cnt (Lst (Array.replicate n false)) k≤k:=by
 intro k
 induction k with
 |zero=>exact Nat.le_refl _
 |succ k ih=>simp only [cnt]; split <;> omega
variable {k:List AItem} {lits:List Nat}
theorem plan_conv {l:List Oper} {s:List AV} {h:List Box} (H:SPlan E ops (fun s2 h2=>AWL E fid R [] k s2 h2) l s h):SPlan E ops (fun s2 h2=>AW E R.fx.f0 ⟨⟨fid,R.fx.rnd,R.fx.dfs⟩,k,s2⟩ R.fx.cls h2 R) l s h:=by
 induction l generalizing s h with
 |nil=>exact AWL.to H
 |cons o l ih=>obtain ⟨v,h',h1,h1',h2⟩:=H; exact ⟨v,h',h1,h1',ih h2⟩
theorem plan_conv2 {suf l:List Oper} {s:List AV} {h:List Box} (H:DPlan E ops h (fun s'=>SPlan E ops (fun s2 h2=>AWL E fid R [] k s2 h2) suf s' h) l s):DPlan E ops h (fun s'=>SPlan E ops (fun s2 h2=>AW E R.fx.f0 ⟨⟨fid,R.fx.rnd,R.fx.dfs⟩,k,s2⟩ R.fx.cls h2 R) suf s' h) l s:=by
 induction l generalizing s with
 |nil=>exact plan_conv H
 |cons o l ih=>obtain ⟨v,h1,h1',h2⟩:=H; exact ⟨v,h1,h1',ih h2⟩
def isAllocB (o:Oper):Bool:=match o.op,o.guard with
 | .alloc _,none=>true
 |_,_=>false
theorem AWL.drawA (hE:E.OK) (hm:E.P.follows .mixedOrders=true) (m n:Nat) {id:Nat} (hchk:(chkX ops m (m+1)&&Nat.ble (m+1) ops.size&&(match ops[m]? with | some o=>isAllocB o | none=>false))=true) (H:takeK m ops.toList fun pre=>dropK m ops.toList fun suf=>drunK E fid R ops k n [] pre suf s h) (hx1:R.fx.rnd=none:=by rfl) (hx2:R.fx.dfs=[]:=by rfl):AWL E fid R lits (.code (.region id ops true)::k) s h:=by
 rw [takeK_eq,dropK_eq] at H;rw [Bool.and_eq_true,Bool.and_eq_true] at hchk;obtain ⟨⟨hc1,hc2⟩,hc3⟩:=hchk;have hmn:=Nat.le_of_ble_eq_true hc2;cases hox:ops[m]? with
 |none=>rw [hox] at hc3; cases hc3
 |some ox =>
  rw [hox] at hc3;obtain ⟨ty,hop,hgd⟩:∃ ty,ox.op = .alloc ty∧ox.guard=none:=by
   have hc3:isAllocB ox=true:=hc3;clear hox;obtain ⟨dst,op,type,pos,after,guard⟩:=ox;cases op <;> first | (cases guard <;> first | exact ⟨_,rfl,rfl⟩ | cases hc3) | cases hc3
  obtain ⟨pl,hp,x1,x2,x3,x4⟩:=plan_join (M:=m+1) (by omega) (by omega) (plan_conv2 (drunK_sound hE n [] _ _ s h H));obtain ⟨hlen,hat⟩:=plan_at x1.ofs;obtain ⟨⟨o,v⟩,hov⟩:∃ p,pl[m]? = some p:=⟨pl[m]'(by omega),by rw [List.getElem?_eq_getElem]⟩;have hoo:=hat m o v hov;rw [hox] at hoo;cases hoo;obtain ⟨rfl,ti,t1,t2,t3,hh⟩:=x4 ox v hov ty hop hgd;refine .of (AW.anyOrder hm hx1 hx2 fun c t Q hQ h1 h2 h4=>?_);obtain ⟨us,hok⟩:=phase1 hE (chkX_spec hc1) hmn hox hop hgd t1 t2 t3 x1 hov hh (Kf:=fun s2 h2=>AW E R.fx.f0 ⟨⟨fid,R.fx.rnd,R.fx.dfs⟩,k,s2⟩ R.fx.cls h2 R) (c0:=c) (Q:=Q) x3 hQ;refine hok ops.size _ ⟨t,[]⟩ c h1 h2 rfl ?_ (by rw [lst0]; exact Step.refl c h1.barlt) ⟨by simp,fun j o e _ hl=>by rw [lst0] at hl; cases hl⟩ (fun i _=>lst0 _ i) (cnt0 _ _);rw [cur_none _ 0 s _ (fun i _=>lst0 _ _)];exact h4
end
end Go.Eng
end
section
namespace Go.Eng
open Go Go.RowKit
section
variable {E:Env} {s:List AV} {h:List Box} {c:Cx} {G:List (Nat × DV)}
theorem ok_buildOwn (hE:E.OK) {t e len:Nat} {i ei:TInfo} (hi:E.T[t]? = some i) (hei:E.T[e]? = some ei) (hk:i.k = .slice e) {parts:Array (Nat × Operand)} {ps:List (Nat × AV)} (hps:PartsOK E.G s parts.toList ps)
  (hz:ei.zero.length=ei.size) (hpos:0<ei.size) (hlen:0<len) (hmax:len*ei.size≤16777216) {z:DV} (hzc:z.cells=ei.zero) (hzs:∀ y∈ei.zero,y.scal=true) {stop:Prop} {k:List DV→Prop} (H:elemsK ei.size ps (List.replicate len z) stop k) :
  stop∨∃ l,k l∧OpOK E (.buildSlice t len parts) s h (.own h.length 0) (h++[.arr 0 (e,ei.size) l]):=by
 have hel:Elems ei.size (List.replicate len z):=fun j e' h'=>by
  rw [List.getElem?_replicate] at h';split at h'
  ·cases h'; rw [hzc,hz]
  ·cases h'
 have hsc:Scals (List.replicate len z):=fun j e' h'=>by
  rw [List.getElem?_replicate] at h';split at h'
  ·cases h'; rw [hzc]; exact hzs
  ·cases h'
 rcases elemsK_sound hel hsc H with h' | ⟨l,h1,h2,hs2,h3,h4⟩
 ·exact .inl h'
 refine .inr ⟨l,h1,fun o c ac e1 e2 e3 e4=>?_⟩;subst e2;obtain ⟨ti,zv,g1,g2,g3,g4⟩:=zeroOf (hE.types e ei hei) hz hpos;obtain ⟨zs,hzs',hzl⟩:=g4 c;obtain ⟨p1,p2⟩:=hps c ac e3 e4;have hzlen:zs.length=ei.size:=by rw [← hzl.1]; simpa using hz
 have hinit:VL c ((flat (List.replicate len z)).map .d) ((Array.range (len*ti.size)).map (zv.cells[· % zv.cells.size]!)).toList:=by
  refine .mapD (by rw [flat_length hel]; simp [g3]) (fun j x v hx hv=>?_);have hj:j<len*ei.size:=by
   have:=flat_length hel;rw [List.length_replicate] at this;rw [← this];rcases Nat.lt_or_ge j (flat (List.replicate len z)).length with h | h
   ·exact h
   ·rw [List.getElem?_eq_none h] at hx; cases hx
  have hd:j / ei.size<len:=Nat.div_lt_of_lt_mul (by rw [Nat.mul_comm]; exact hj);have hm:j % ei.size<ei.size:=Nat.mod_lt _ hpos;have h5:=flat_get hel (i:=j / ei.size) (j:=j % ei.size) (e:=z) (by simp [hd]) hm;rw [Nat.mul_comm,Nat.div_add_mod,hx,hzc] at h5;have hv':v=zs[j % ei.size]'(by omega):=by
   have hj':j<len*ti.size:=by rw [← g3]; exact hj
   simp [hj',hzs',hzlen] at hv;rw [← hv];simp [hzlen,hm]
  rw [hv'];exact hzl.ofMapD (j % ei.size) x _ h5.symm (by simp [hzlen,hm])
 obtain ⟨vs',f1,f2⟩:=h4 c _ _ hinit p2;obtain ⟨ti',d,q1,q2,q3,-⟩:=tinfo_inv (hE.types t i hi);obtain rfl:=tk_slice (hk.symm.trans q3);have eq:(parts.map fun (i,x)=>(i,ac.eval x)).toList=(ps.map (·.1)).zip (parts.toList.map fun p=>ac.eval p.2):=by
  rw [p1,Array.toList_map];generalize parts.toList=q
  induction q with
  |nil=>rfl
  |cons a q ih=>simp only [List.map_cons,List.zip_cons_cons,ih]
 have hfill:Instr.fill (fun i=>some (i*ti.size,ti.size)) ((Array.range (len*ti.size)).map (zv.cells[· % zv.cells.size]!)) (parts.map fun (i,x)=>(i,ac.eval x)).toList=some vs'.toArray:=by
  rw [eq,← f1,g3]
 have hrun:=run_buildSlice (P:=E.P) c.w t e len (parts.map fun (i,x)=>(i,ac.eval x)) vs'.toArray ti zv q2 g1 g2 (by rw [← g3]; omega) (by rw [← g3]; have:=Nat.mul_pos hlen hpos; omega) hfill;have hll:l.length=len:=by rw [h3]; simp
 obtain ⟨k1,k2⟩:=e3.add (.arr 0 (e,ei.size) l) len (.cells vs'.toArray e);have hown:(c.add (.arr 0 (e,ei.size) l) len (.cells vs'.toArray e)).own c.heap.length=some (c.w.heap.size,len):=by simp [Cx.add]
 have hheap:(c.add (.arr 0 (e,ei.size) l) len (.cells vs'.toArray e)).heap[c.heap.length]? = some (.arr 0 (e,ei.size) l):=by simp [Cx.add]
 have hsz:vs'.length=len*ei.size:=by
  have:=f2.1;simp only [List.length_map] at this;rw [← this,flat_length h2,hll]
 have hbox:BoxOk (c.add (.arr 0 (e,ei.size) l) len (.cells vs'.toArray e)) c.heap.length (.arr 0 (e,ei.size) l):=by
  refine ⟨hpos,h2,.inr ⟨c.w.heap.size,len,vs'.toArray,hown,heap_alloc_new _ _,by simpa using hsz,by omega,by unfold maxLen; have:=Nat.le_mul_of_pos_right len hpos; omega,fun i j e' x he hx=>?_⟩⟩;have hj:j<ei.size:=by
   have:=lt_of_getElem? hx;rw [h2 i e' he] at this;exact this
  have hf:=flat_get h2 he hj;rw [hx] at hf;have hlt:i*ei.size+j<vs'.length:=by
   have:=f2.1;simp only [List.length_map] at this;rw [← this];exact lt_of_getElem? hf
  refine ⟨vs'[i*ei.size+j],by simp [hlt],vd_one (f2.ofMapD _ x _ hf (by simp [hlt])) (hs2 i e' he x (List.mem_of_getElem? hx)),k1.vd (f2.ofMapD _ x _ hf (by simp [hlt]))⟩
 refine ⟨_,.slice (some ⟨c.w.heap.size,0,none⟩) len len,.inl (by simp only [execOp,e1,Sem.run_bind,hrun,Result.andThen_ok,Sem.run_pure]; rfl),rfl,k2 hbox,?_,k1⟩;have:=VR.own (c:=c.add (.arr 0 (e,ei.size) l) len (.cells vs'.toArray e)) c.heap.length 0 (e,ei.size) l c.w.heap.size len hheap hown;rw [hll] at this;exact this
def ownSliceK (E:Env) (o:Op) (s:List AV) (h:List Box) (stop:Prop) (k:AV→List Box→Prop):Prop :=
 match o with
 | .buildSlice t len parts=>getK E.T t stop fun i=>match i.k with
  | .slice e=>getK E.T e stop fun ei=>match Nat.beq ei.zero.length ei.size,Nat.blt 0 ei.size,Nat.blt 0 len,Nat.ble (len*ei.size) 16777216,ei.zero.all DV.scal with
   |true,true,true,true,true=>partsK E.G s parts.toList stop fun ps =>
    match ei.zero with
    | [z]=>repK len z fun zs=>elemsK ei.size ps zs stop fun l=>snocK h (.arr 0 (e,ei.size) l) 0 fun h' n=>k (.own n 0) h'
    |zl=>repK len (.agg zl) fun zs=>elemsK ei.size ps zs stop fun l=>snocK h (.arr 0 (e,ei.size) l) 0 fun h' n=>k (.own n 0) h'
   |_,_,_,_,_=>stop
  |_=>stop
 |_=>stop
theorem ownSliceK_sound (hE:E.OK) {o:Op} {stop:Prop} {k:AV→List Box→Prop} (H:ownSliceK E o s h stop k):stop∨∃ v h',k v h'∧OpOK E o s h v h':=by
 unfold ownSliceK at H;split at H
 ·rcases getK_or H with h | ⟨i,hi,H⟩
  ·exact .inl h
  split at H
  ·rename_i e hk;rcases getK_or H with h | ⟨ei,hei,H⟩
   ·exact .inl h
   split at H
   ·rename_i q1 q2 q3 q4 q5;rcases partsK_sound H with h | ⟨ps,hps,H⟩
    ·exact .inl h
    simp only [snocK_eq,Nat.zero_add] at H;split at H
    ·rename_i z hz1;rw [repK_eq] at H;have hzs:z.scal=true:=by rw [hz1] at q5; simpa using q5
     rcases ok_buildOwn hE hi hei hk hps (Nat.eq_of_beq_eq_true q1) (blt_pos q2) (blt_pos q3) (Nat.le_of_ble_eq_true q4) (z:=z) (by rw [hz1]; cases z <;> first | rfl | cases hzs) (fun y hy=>List.all_eq_true.1 q5 y hy) H with h | ⟨l,H,hl⟩
     ·exact .inl h
     exact .inr ⟨_,_,H,hl⟩
    ·rw [repK_eq] at H;rcases ok_buildOwn hE hi hei hk hps (Nat.eq_of_beq_eq_true q1) (blt_pos q2) (blt_pos q3) (Nat.le_of_ble_eq_true q4) (z := .agg ei.zero) rfl (fun y hy=>List.all_eq_true.1 q5 y hy) H with h | ⟨l,H,hl⟩
     ·exact .inl h
     exact .inr ⟨_,_,H,hl⟩
   ·exact .inl H
  ·exact .inl H
 ·exact .inl H
theorem AWL.buildOwn (hE:E.OK) {fid:FuncId} {R:Post} {lits:List Nat} {ops:Array Oper} {o:Oper} {l:List Oper} {r:List AItem} (hg:o.guard=none)
  (H:ownSliceK E o.op s h False fun v h'=>putK s o.dst v fun s'=>AWL E fid R lits (.reg ops l::r) s' h'):AWL E fid R lits (.reg ops (o::l)::r) s h:=by
 rcases ownSliceK_sound hE H with h | ⟨v,h',H,ho⟩
 ·exact h.elim
 ·rw [putK_eq] at H;exact .of (.op (wanted_none hg) ho H.to)
end
mutual
def norm:DV→DV
 | .nilsl => .sl []
 | .agg c => .agg (norms c)
 | .tup c => .tup (norms c)
 |x=>x
def norms:List DV→List DV
 | []=>[]
 |x::l=>norm x::norms l
end
theorem norms_map:∀ (l:List DV),norms l=l.map norm
 | []=>rfl
 |x::l=>by rw [norms,norms_map l]; rfl
theorem norm_vd {bad:Nat→Prop} {w:World} {x:DV} {v:Value} (h:VD bad w x v):VD bad w (norm x) v:=by
 induction h with
 |nilsl=>exact .slnil
 |agg c vs hlen hval ih =>
  rw [norm,norms_map];refine .agg _ _ (by simpa using hlen) fun j y v hy hv=>?_;rw [List.getElem?_map] at hy;cases hc:c[j]? with
  |none=>rw [hc] at hy; cases hy
  |some z=>rw [hc] at hy; cases hy; exact ih j z v hc hv
 |tup c vs hlen hval ih =>
  rw [norm,norms_map];refine .tup _ _ (by simpa using hlen) fun j y v hy hv=>?_;rw [List.getElem?_map] at hy;cases hc:c[j]? with
  |none=>rw [hc] at hy; cases hy
  |some z=>rw [hc] at hy; cases hy; exact ih j z v hc hv
 |undef=>exact .undef
 |bool b=>exact .bool b
 |int k n=>exact .int k n
 |str l=>exact .str l
 |slnil=>exact .slnil
 |slz a=>exact .slz a
 |sl l blk off cap sz f hb hsz hcap hlen hcell hval hone ih=>exact .sl l blk off cap sz f hb hsz hcap hlen hcell hval hone
 |nilptr=>exact .nilptr
 |nilfn=>exact .nilfn
 |nilmap=>exact .nilmap
 |nilif=>exact .nilif
 |fn f=>exact .fn f
 |raw v h=>exact .raw v h
theorem PCalls.norm {E:Env} {f:FuncId} {args:List DV} {y:DV} (H:PCalls E f args (fun r=>Eng.norm r=y)):PCalls E f args (· = y):=by
 unfold PCalls at H ⊢;exact ⟨H.1,fun bar w vs h1 h2 h3=>(H.2 bar w vs h1 h2 h3).mono fun e w' ⟨v,r,k1,k2,k3,k4⟩=>⟨v,y,k1,rfl,k2 ▸ norm_vd k3,k4⟩⟩
end Go.Eng
end
section
namespace Go.Eng
open Go Go.RowKit
inductive OT where
 |leaf
 |alt (i:Nat) (t r:OT)
def OT.choices:OT→List Nat
 | .leaf=>[]
 | .alt i _ r=>i::r.choices
def OT.depth:OT→Nat
 | .leaf=>0
 | .alt _ t r=>max (t.depth+1) r.depth
def okN (ops:Array Oper):Array Bool→OT→Bool
 |_,.leaf=>true
 |listed,.alt i t r=>(Region.ready .any ops (listed.setIfInBounds i true)==t.choices)&&okN ops (listed.setIfInBounds i true) t&&okN ops listed r
section
variable {E:Env} {ops:Array Oper} {K:List AV→List Box→Prop}
def TPlan (E:Env) (ops:Array Oper) (K:List AV→List Box→Prop):OT→List AV→List Box→Prop
 | .leaf,_,_=>True
 | .alt i t r,s,h=>(∃ o v h',ops[i]? = some o∧SFact E ops o s h v h'∧(t = .leaf→K (putS s o.dst v) h')∧TPlan E ops K t (putS s o.dst v) h')∧TPlan E ops K r s h
@[irreducible] def TWL (E : Env) (ops : Array Oper) (K : List AV → List Box → Prop) (t : OT) (s : List AV) (h : List Box) : Prop := (t = .leaf → K s h) ∧ TPlan E ops K t s h
theorem TWL.leaf {s:List AV} {h:List Box} (H:K s h):TWL E ops K .leaf s h:=by unfold TWL; exact ⟨fun _=>H,trivial⟩
theorem TWL.fst {s0:List AV} {h0:List Box} {q:List AV × List Box}:TWL E ops (fun s h=>(s,h)∈[(s0,h0),q]) .leaf s0 h0:=TWL.leaf (List.Mem.head _)
theorem TWL.snd {s0:List AV} {h0:List Box} {p:List AV × List Box}:TWL E ops (fun s h=>(s,h)∈[p,(s0,h0)]) .leaf s0 h0:=TWL.leaf (List.Mem.tail _ (List.Mem.head _))
theorem TWL.to {t:OT} {s:List AV} {h:List Box} (H:TWL E ops K t s h):(t = .leaf→K s h)∧TPlan E ops K t s h:=by unfold TWL at H; exact H
def tstepK (E:Env) (ops:Array Oper) (K:List AV→List Box→Prop):OT→List AV→List Box→Prop
 | .leaf,_,_=>True
 | .alt i t r,s,h=>(getK ops.toList i False fun o=>match o.guard with
   |none=>maskK (keepOf ops o) 0 s fun so=>opK E.T E.G o.op so h (plainK E o.op so h (sideMK E o.op so h False fun v h'=>putK s o.dst v fun s'=>TWL E ops K t s' h') fun v h'=>putK s o.dst v fun s'=>TWL E ops K t s' h') fun v h'=>putK s o.dst v fun s'=>TWL E ops K t s' h'
   |some _=>False)∧tstepK E ops K r s h
theorem tstepK_sound (hE:E.OK):∀ (t:OT) {s:List AV} {h:List Box},tstepK E ops K t s h→TPlan E ops K t s h
 | .leaf,_,_,_=>trivial
 | .alt i t r,s,h,H=>by
  obtain ⟨H,hr⟩:=H;refine ⟨?_,tstepK_sound hE r hr⟩;rcases getK_or H with H | ⟨o,ho,H⟩
  ·exact H.elim
  split at H
  ·rename_i hg;rw [maskK_eq] at H;have key:∀ v h',(putK s o.dst v fun s'=>TWL E ops K t s' h')→OpOK E o.op (maskS (keepOf ops o) 0 s) h v h'→∃ o v h',ops[i]? = some o∧SFact E ops o s h v h'∧(t = .leaf→K (putS s o.dst v) h')∧TPlan E ops K t (putS s o.dst v) h':=fun v h' H hok=>by
    rw [putK_eq] at H;exact ⟨o,v,h',by simpa using ho,SFact.of (wanted_none hg) hok,H.to.1,H.to.2⟩
   rcases opK_sound hE H with H | ⟨v,h',H,hok⟩
   ·rcases plainK_sound hE H with H | ⟨v,h',H,hok⟩
    ·rcases sideMK_sound hE H with H | ⟨v,h',H,hok⟩
     ·exact H.elim
     ·exact key v h' H hok
    ·exact key v h' H hok
   ·exact key v h' H hok
  ·exact H.elim
theorem TWL.step (hE:E.OK) {i:Nat} {t r:OT} {s:List AV} {h:List Box} (H:tstepK E ops K (.alt i t r) s h):TWL E ops K (.alt i t r) s h:=by
 unfold TWL;exact ⟨fun e=>(by cases e),tstepK_sound hE _ H⟩
theorem tplan_at {listed:Array Bool}:∀ {t:OT} {s:List AV} {h:List Box} {i:Nat},okN ops listed t=true→TPlan E ops K t s h→i∈t.choices →
  ∃ t',okN ops (listed.setIfInBounds i true) t'=true∧Region.ready .any ops (listed.setIfInBounds i true)=t'.choices∧t'.depth+1≤t.depth∧∃ o v h',ops[i]? = some o∧SFact E ops o s h v h'∧(t' = .leaf→K (putS s o.dst v) h')∧TPlan E ops K t' (putS s o.dst v) h'
 | .leaf,_,_,_,_,_,hi=>by simp [OT.choices] at hi
 | .alt j t r,s,h,i,hok,hp,hi=>by
  simp only [okN,Bool.and_eq_true,beq_iff_eq] at hok;rcases List.mem_cons.1 hi with rfl | hi
  ·exact ⟨t,hok.1.2,hok.1.1,by simp only [OT.depth]; omega,hp.1⟩
  ·obtain ⟨t',h1,h2,h3,h4⟩:=tplan_at hok.2 hp.2 hi;exact ⟨t',h1,h2,by simp only [OT.depth]; omega,h4⟩
theorem vs_put {c c':Cx} {s:List AV} {a:Act} {dst:Option Nat} {v:AV} {u:Value} (hst:Step c c') (h:VS c s a.tmps) (hv:VR c' v u):VS c' (putS s dst v) (a.put dst u).tmps:=by
 cases dst with
 |none=>exact hst.vs h
 |some d=>exact (hst.vs h).put d hv
theorem tplan_wp {Q:Exit→Act→World→Prop} {c0:Cx} (hQ:∀ (a:Act) (c:Cx) (s:List AV) (h:List Box),K s h→HOk E.G c→c.heap=h→a.defers=[]→VS c s a.tmps→Step c0 c→Q .normal a c.w) :
  ∀ (f:Nat) (t:OT) (listed:Array Bool) (a:Act) (c:Cx) (s:List AV) (h:List Box),okN ops listed t=true→Region.ready .any ops listed=t.choices→t.depth≤f→(t = .leaf→K s h)→TPlan E ops K t s h→HOk E.G c→c.heap=h→a.defers=[]→VS c s a.tmps→Step c0 c→wpAny E.P .any ops Q f listed a c.w:=by
 intro f
 induction f with
 |zero =>
  intro t listed a c s h h1 h2 h3 h4 h5 k1 k2 k3 k4 k5;cases t with
  |leaf=>exact ⟨h2,hQ a c s h (h4 rfl) k1 k2 k3 k4 k5⟩
  |alt i t r=>simp only [OT.depth] at h3; omega
 |succ f ih =>
  intro t listed a c s h h1 h2 h3 h4 h5 k1 k2 k3 k4 k5;refine ⟨fun hr=>?_,fun i hi=>?_⟩
  ·cases t with
   |leaf=>exact hQ a c s h (h4 rfl) k1 k2 k3 k4 k5
   |alt i t r=>rw [hr] at h2; cases h2
  ·rw [h2] at hi;obtain ⟨t',g1,g2,g3,o,v,h',g4,g5,g6,g7⟩:=tplan_at h1 h5 hi;refine g5 c a k1 k2 k3 k4.mask i g4 _ _ (fun c' u m1 m2 m3 m4=>?_);exact ih t' _ _ c' _ h' g1 g2 (by omega) g6 g7 m1 m2 (by cases hdst:o.dst <;> simp [Act.put,k3]) (vs_put m3 k4 m4) (k5.trans m3)
theorem AWL.drawT (hE:E.OK) (hm:E.P.follows .mixedOrders=true) {fid:FuncId} {R:Post} {lits:List Nat} {k:List AItem} {s:List AV} {h:List Box} {id:Nat} (T:OT) (p q:List AV × List Box)
  (hchk:((Region.ready .any ops (Array.replicate ops.size false)==T.choices)&&okN ops (Array.replicate ops.size false) T&&Nat.ble T.depth ops.size)=true)
  (H:TWL E ops (fun s h=>(s,h)∈[p,q]) T s h) (H1:AWL E fid R [] k p.1 p.2) (H2:AWL E fid R [] k q.1 q.2) (hx1:R.fx.rnd=none:=by rfl) (hx2:R.fx.dfs=[]:=by rfl):AWL E fid R lits (.code (.region id ops true)::k) s h:=by
 simp only [Bool.and_eq_true,beq_iff_eq] at hchk;obtain ⟨⟨c1,c2⟩,c3⟩:=hchk;refine .of (AW.anyOrder hm hx1 hx2 fun c t Q hQ h1 h2 h4=>?_);refine tplan_wp (K:=fun s h=>(s,h)∈[p,q]) (fun a c' s' h' hK=>hQ a c' s' h' ?_) ops.size T _ ⟨t,[]⟩ c s h c2 c1 (Nat.le_of_ble_eq_true c3) H.to.1 H.to.2 h1 h2 rfl h4 (Step.refl c h1.barlt);rcases List.mem_cons.1 hK with e | hK
 ·cases e; exact H1.to
 ·rcases List.mem_cons.1 hK with e | hK
  ·cases e; exact H2.to
  ·cases hK
end
end Go.Eng
end
