/- Several texts of mine, one behind the other. Conditions: as each says. -/
import Derived.Test.YtcmnpelmmekdkaaGreatDoorY2
import Derived.Orders
set_option linter.unusedVariables false
set_option linter.unusedSimpArgs false
section
namespace Go.ax
open Go Go.RowKit
inductive ku (ops:Array Oper):Nat→Nat→Prop
 |one {j:Nat} {o:Oper} {e:Edge} (hj:ops[j]? = some o) (he:e∈o.after) (hb:Region.binds .any e=true):ku ops e.on j
 |step {i j:Nat} {o:Oper} {e:Edge} (h:ku ops i e.on) (hj:ops[j]? = some o) (he:e∈o.after) (hb:Region.binds .any e=true):ku ops i j
def FE (acc:List Nat) (o:Oper):Nat:=o.after.toList.foldl (fun m e=>if Region.binds .any e then m ||| 2 ^ e.on ||| acc.getD e.on 0 else m) 0
def bits:List Oper→List Nat→List Nat
 | [],acc=>acc
 |o::l,acc=>bits l (acc++[FE acc o])
theorem Tb {acc:List Nat} {o:Oper} {i:Nat} (h:(FE acc o).testBit i=true):∃ e∈o.after,Region.binds .any e=true∧(i=e.on∨(acc.getD e.on 0).testBit i=true):=by
 have gen:∀ (l:List Edge) (m:Nat),(l.foldl (fun m e=>if Region.binds .any e then m ||| 2 ^ e.on ||| acc.getD e.on 0 else m) m).testBit i=true→m.testBit i=true∨∃ e∈l,Region.binds .any e=true∧(i=e.on∨(acc.getD e.on 0).testBit i=true):=by
  intro l
  induction l with
  |nil=>intro m h; exact .inl h
  |cons e l ih =>
   intro m h;rw [List.foldl_cons] at h;rcases ih _ h with h | ⟨e',wb,hb⟩
   ·split at h
    ·rename_i hb;simp only [Nat.testBit_or,Bool.or_eq_true,Nat.testBit_two_pow,decide_eq_true_eq] at h;rcases h with (h | h) | h
     ·exact .inl h
     ·exact .inr ⟨e,List.mem_cons_self ..,hb,.inl h.symm⟩
     ·exact .inr ⟨e,List.mem_cons_self ..,hb,.inr h⟩
    ·exact .inl h
   ·exact .inr ⟨e',List.mem_cons_of_mem _ wb,hb⟩
 rcases gen _ _ h with h | ⟨e,he,hb⟩
 ·simp at h
 ·exact ⟨e,by simpa using he,hb⟩
theorem zk (ops:Array Oper):∀ (l:List Oper) (acc:List Nat),ops.toList.drop acc.length=l→(∀ j i,(acc.getD j 0).testBit i=true→ku ops i j)→∀ j i,((bits l acc).getD j 0).testBit i=true→ku ops i j
 | [],acc,_,ha=>ha
 |o::l,acc,hl,ha=>by
  have ho:ops[acc.length]? = some o:=by
   have:=congrArg (·[0]?) hl
   simpa using this
  refine zk ops l (acc++[FE acc o]) (by rw [List.length_append,List.length_singleton,← List.drop_drop,hl]; rfl) (fun j i h=>?_);rcases Nat.lt_trichotomy j acc.length with hj | hj | hj
  ·rw [List.getD,List.getElem?_append_left hj] at h;exact ha j i h
  ·subst hj;rw [List.getD,List.getElem?_append_right (Nat.le_refl _),Nat.sub_self] at h;obtain ⟨e,he,hb,h | h⟩:=Tb (by simpa using h)
   ·subst h; exact .one ho he hb
   ·exact .step (ha _ _ h) ho he hb
  ·rw [List.getD,List.getElem?_eq_none (by simp; omega)] at h;simp at h
def tmpsOf (o:Op):List Nat:=o.operands.toList.filterMap fun | .tmp t=>some t | _=>none
def Tc (ops:Array Oper):Option (Nat × Bool)→List Nat
 |none=>[]
 |some (j,_)=>match (ops[j]?).bind (·.dst) with
  |some d=>[d]
  |none=>[]
def b9 (ops:Array Oper) (o:Oper):List Nat:=tmpsOf o.op++Tc ops o.guard
def jo (ops:Array Oper) (a b:Oper):Bool:=(match a.dst with | some d=>bV d (b.dst.toList++b9 ops b) | none=>false)||(match b.dst with | some d=>bV d (b9 ops a) | none=>false)
def pn (ops:Array Oper) (m:Nat):Bool :=
 let bs:=bits ops.toList []
 (List.range ops.size).all fun j=>match ops[j]? with
  |none=>true
  |some oj=>(oj.after.toList.all fun e => !Region.binds .any e||decide (e.on<j))&&(List.range j).all fun i=>match ops[i]? with
   |none=>true
   |some oi=>(bs.getD j 0).testBit i||(decide (j<m) && !jo ops oi oj)
theorem B7 {d:Nat}:∀ {l:List Nat},bV d l=true↔d∈l
 | []=>by simp [bV]
 |a::l=>by
  simp only [bV];split
  ·rename_i q; simp [Nat.eq_of_beq_eq_true q]
  ·rename_i q;have aJ:d≠a:=fun e=>by rw [e,Nat.beq_refl] at q; cases q
   rw [B7 (l:=l)];simp [aJ]
structure wO (ops:Array Oper) (m:Nat):Prop where
 low:∀ j o e,ops[j]? = some o→e∈o.after→Region.binds .any e=true→e.on<j
 pair:∀ i j oi oj,i<j→ops[i]? = some oi→ops[j]? = some oj→jo ops oi oj=true→ku ops i j
 aW:∀ i j oi oj,i<j→m≤j→ops[i]? = some oi→ops[j]? = some oj→ku ops i j
theorem Td {ops:Array Oper} {m:Nat} (h:pn ops m=true):wO ops m:=by
 have hb:=zk ops ops.toList [] rfl (fun j i h=>by simp at h);have aT:∀ j oj,ops[j]? = some oj→(oj.after.toList.all fun e => !Region.binds .any e||decide (e.on<j))=true∧∀ i oi,i<j→ops[i]? = some oi→((bits ops.toList []).getD j 0).testBit i=true∨(j<m∧jo ops oi oj=false):=fun j oj hj=>by
  have ai:j<ops.size:=(Array.getElem?_eq_some_iff.1 hj).1;have h1:=List.all_eq_true.1 h j (List.mem_range.2 ai);simp only [hj,Bool.and_eq_true] at h1;refine ⟨h1.1,fun i oi hi ec=>?_⟩;have h2:=List.all_eq_true.1 h1.2 i (List.mem_range.2 hi);simp only [ec,Bool.or_eq_true,Bool.and_eq_true,decide_eq_true_eq,Bool.not_eq_true'] at h2;exact h2
 refine ⟨fun j o e hj he im=>?_,fun i j oi oj dA hi hj hc=>?_,fun i j oi oj dA hm hi hj=>?_⟩
 ·have:=List.all_eq_true.1 (aT j o hj).1 e (by simpa using he)
  simpa [im] using this
 ·rcases (aT j oj hj).2 i oi dA hi with h | ⟨-,h⟩
  ·exact hb j i h
  ·rw [hc] at h; cases h
 ·rcases (aT j oj hj).2 i oi dA hi with h | ⟨h,-⟩
  ·exact hb j i h
  ·omega
def cur:List (Oper × AV)→(Nat→Bool)→Nat→List AV→List AV
 | [],_,_,s=>s
 |(o,v)::l,L,i,s=>cur l L (i+1) (if L i then bG s o.dst v else s)
theorem lT:∀ (pl:List (Oper × AV)) (L:Nat→Bool) (i:Nat) (s:List AV),(cur pl L i s).length=s.length
 | [],_,_,_=>rfl
 |(o,v)::l,L,i,s=>by
  rw [cur,lT l];split
  ·cases o.dst <;> simp [bG]
  ·rfl
theorem FF {s:List AV} {d:Option Nat} {v:AV} {t:Nat} (h:d≠some t):(bG s d v)[t]? = s[t]? := by
 cases d with
 |none=>rfl
 |some d=>exact List.getElem?_set_ne (fun e=>h (by rw [e]))
theorem KY {s s':List AV} {d:Option Nat} {v:AV} {t:Nat} (hl:s.length=s'.length) (h:s[t]? = s'[t]?):(bG s d v)[t]? = (bG s' d v)[t]? := by
 cases d with
 |none=>exact h
 |some d =>
  by_cases hd:d=t
  ·subst hd;simp only [bG,List.getElem?_set,hl,if_true]
  ·simp only [bG,List.getElem?_set_ne hd,h]
theorem qO {t:Nat}:∀ (pl:List (Oper × AV)) (L L':Nat→Bool) (i:Nat) (s s':List AV),s.length=s'.length→s[t]? = s'[t]? → (∀ k o v,pl[k]? = some (o,v)→o.dst=some t→L (i+k)=L' (i+k))→(cur pl L i s)[t]? = (cur pl L' i s')[t]?
 | [],_,_,_,_,_,_,hs,_=>hs
 |(o,v)::l,L,L',i,s,s',hl,hs,hw=>by
  rw [cur,cur];have hlen:∀ (b:Bool) (q:List AV),(if b then bG q o.dst v else q).length=q.length:=fun b q=>by cases b <;> cases o.dst <;> simp [bG]
  refine qO l L L' (i+1) _ _ (by rw [hlen,hlen,hl]) ?_ (fun k o' v' hk hd=>by have:=hw (k+1) o' v' (by simpa using hk) hd; rwa [show i+(k+1)=i+1+k by omega] at this);by_cases hd:o.dst=some t
  ·have:=hw 0 o v rfl hd;rw [Nat.add_zero] at this;rw [this];split
   ·exact KY hl hs
   ·exact hs
  ·split <;> split <;> simp only [FF hd,hs]
theorem jN:∀ (pl:List (Oper × AV)) (i:Nat) (s:List AV) (L:Nat→Bool),(∀ k,k<pl.length→L (i+k)=false)→cur pl L i s=s
 | [],_,_,_,_=>rfl
 |(o,v)::l,i,s,L,h=>by
  have h0:=h 0 (by simp);rw [Nat.add_zero] at h0;rw [cur,h0];exact jN l (i+1) s L (fun k hk=>by have:=h (k+1) (by simpa using hk); rwa [show i+(k+1)=i+1+k by omega] at this)
theorem B8:∀ (pl:List (Oper × AV)) (i j:Nat) (s:List AV) (o:Oper) (v:AV),pl[j]? = some (o,v)→cur pl (fun k=>decide (k<i+j+1)) i s=bG (cur pl (fun k=>decide (k<i+j)) i s) o.dst v
 | [],_,_,_,_,_,h=>by simp at h
 |(o',v')::l,i,0,s,o,v,h=>by
  simp at h;obtain ⟨rfl,rfl⟩:=h;rw [cur,cur];simp only [Nat.add_zero,Nat.lt_irrefl,decide_false,Bool.false_eq_true,if_false,Nat.lt_succ_self,decide_true,if_true];rw [jN l (i+1) _ _ (fun k _=>decide_eq_false (by omega)),jN l (i+1) s _ (fun k _=>decide_eq_false (by omega))]
 |(o',v')::l,i,j+1,s,o,v,h=>by
  rw [cur,cur];have e1:(decide (i<i+(j+1)+1))=true:=decide_eq_true (by omega);have e2:(decide (i<i+(j+1)))=true:=by simp
  simp only [e1,e2,if_true];have:=B8 l (i+1) j (bG s o'.dst v') o v (by simpa using h);rw [show i+(j+1)+1=i+1+j+1 by omega,show i+(j+1)=i+1+j by omega];exact this
def bZ (keep:List Nat):Nat→List AV→List AV
 |_,[]=>[]
 |i,x::s=>(match bV i keep with | true=>x | false => .any)::bZ keep (i+1) s
theorem B9 (keep:List Nat):∀ (i:Nat) (s:List AV),(bZ keep i s).length=s.length
 |_,[]=>rfl
 |i,_::s=>by simp [bZ,B9 keep (i+1) s]
theorem ur (keep:List Nat):∀ (i t:Nat) (s:List AV) (x:AV),(bZ keep i s)[t]? = some x→x = .any∨(i+t∈keep∧s[t]? = some x)
 |_,_,[],_,h=>by simp [bZ] at h
 |i,0,y::s,x,h=>by
  simp only [bZ,List.getElem?_cons_zero,Option.some.injEq] at h;split at h
  ·rename_i q; subst h; exact .inr ⟨by simpa using B7.1 q,rfl⟩
  ·exact .inl h.symm
 |i,t+1,y::s,x,h=>by
  simp only [bZ,List.getElem?_cons_succ] at h;rcases ur keep (i+1) t s x h with h | ⟨h1,h2⟩
  ·exact .inl h
  ·exact .inr ⟨by rwa [show i+(t+1)=i+1+t by omega],by simpa using h2⟩
theorem VS.mask {c:Cx} {s:List AV} {t:Array Value} (h:VS c s t) {keep:List Nat}:VS c (bZ keep 0 s) t:=by
 refine ⟨by rw [B9]; exact h.1,fun i x v hx hv=>?_⟩;rcases ur _ 0 i _ x hx with rfl | ⟨-,hx⟩
 ·exact .any v
 ·exact h.2 i x v hx hv
def jO (o:Oper):Bool:=match o.op,o.guard with
 | .extract _ _,none=>true
 | .move _,none=>true
 | .assign _,none=>true
 |_,_=>false
def dB (E:Env) (ops:Array Oper) (o:Oper) (s:List AV) (h:List ag) (v:AV):Prop :=
 ∀ (c:Cx) (a:Act),aE E.G c→c.heap=h→a.defers=[]→VS c (bZ (b9 ops o) 0 s) a.tmps→∀ (j:Nat),ops[j]? = some o→∀ (K:Act→World→Prop) (Q:Exit→Act→World→Prop),
  (∀ (c':Cx) (u:Value),aE E.G c'→c'.heap=h→Step c c'→VR c' v u→K (a.put o.dst u) c'.w)→wpOp E.P ops Q j K a c.w
def dq (E:Env) (ops:Array Oper) (o:Oper) (s:List AV) (h:List ag) (v:AV) (h':List ag):Prop :=
 ∀ (c:Cx) (a:Act),aE E.G c→c.heap=h→a.defers=[]→VS c (bZ (b9 ops o) 0 s) a.tmps→∀ (j:Nat),ops[j]? = some o→∀ (K:Act→World→Prop) (Q:Exit→Act→World→Prop),
  (∀ (c':Cx) (u:Value),aE E.G c'→c'.heap=h'→Step c c'→VR c' v u→K (a.put o.dst u) c'.w)→wpOp E.P ops Q j K a c.w
def pq (E:Env) (o:Oper) (h:List ag) (v:AV) (h':List ag):Prop :=
 ∀ t,o.op = .alloc t→o.guard=none→v = .ptr h.length 0∧∃ i:bB,E.T[t]? = some i∧i.zero.length=i.size∧0<i.size∧h'=h++[.cells (i.zero.map .d)]
def kv (E:Env) (ops:Array Oper) (h:List ag) (K:List AV→Prop):List Oper→List AV→Prop
 | [],s=>K s
 |o::l,s=>∃ v,dB E ops o s h v∧(jO o=true→∀ h',dB E ops o s h' v)∧kv E ops h K l (bG s o.dst v)
def fW (E:Env) (ops:Array Oper) (K:List AV→List ag→Prop):List Oper→List AV→List ag→Prop
 | [],s,h=>K s h
 |o::l,s,h=>∃ v h',dq E ops o s h v h'∧pq E o h v h'∧fW E ops K l (bG s o.dst v) h'
theorem kv.lay {E:Env} {ops:Array Oper} {h:List ag} {K:List AV→Prop}:∀ {l:List Oper} {s:List AV},kv E ops h K l s→∃ pl:List (Oper × AV),pl.map (·.1)=l∧K (cur pl (fun k=>decide (k<pl.length)) 0 s)∧∀ j o v,pl[j]? = some (o,v)→dB E ops o (cur pl (fun k=>decide (k<j)) 0 s) h v∧(jO o=true→∀ h',dB E ops o (cur pl (fun k=>decide (k<j)) 0 s) h' v)
 | [],s,H=>⟨[],rfl,H,fun j o v hj=>by simp at hj⟩
 |o::l,s,H=>by
  obtain ⟨v,h1,fT,H⟩:=H;obtain ⟨pl,k1,k2,k3⟩:=kv.lay H;have shift:∀ (pl:List (Oper × AV)) (n i:Nat) (s:List AV),cur pl (fun k=>decide (k<n+1)) (i+1) s=cur pl (fun k=>decide (k<n)) i s:=by
   intro pl
   induction pl with
   |nil=>intro n i s; rfl
   |cons p pl ih =>
    intro n i s;obtain ⟨o',v'⟩:=p;rw [cur,cur,ih]
    congr 1
    simp
  refine ⟨(o,v)::pl,by simp [k1],?_,fun j o' v' hj=>?_⟩
  ·rw [cur];simp only [List.length_cons,Nat.zero_lt_succ,decide_true,if_true];rw [shift];exact k2
  ·cases j with
   |zero =>
    simp at hj;obtain ⟨rfl,rfl⟩:=hj;rw [jN _ _ _ _ (fun k _=>decide_eq_false (by omega))];exact ⟨h1,fT⟩
   |succ j =>
    have:=k3 j o' v' (by simpa using hj);rw [cur];simp only [Nat.zero_lt_succ,decide_true,if_true];rw [shift];exact this
section
variable {E:Env} {ops:Array Oper} {m:Nat}
def aN (listed:Array Bool) (i:Nat):Bool:=listed.getD i false
def DC (ops:Array Oper) (listed:Array Bool):Prop:=listed.size=ops.size∧∀ j o e,ops[j]? = some o→aN listed j=true→e∈o.after→Region.binds .any e=true→aN listed e.on=true
theorem DC.dep {listed:Array Bool} (hd:DC ops listed) {i j:Nat} (h:ku ops i j) (hj:aN listed j=true):aN listed i=true:=by
 induction h with
 |one ho he hb=>exact hd.2 _ _ _ ho hj he hb
 |step h ho he hb ih=>exact ih (hd.2 _ _ _ ho hj he hb)
theorem DC.ready {listed:Array Bool} (hd:DC ops listed) {i j:Nat} (hj:j∈Region.ready .any ops listed) (h:ku ops i j):aN listed i=true:=by
 obtain ⟨-,o,ho,aT⟩:=mem_ready.1 hj;cases h with
 |one cQ he hb=>rw [ho] at cQ; cases cQ; exact aT _ he hb
 |step h cQ he hb=>rw [ho] at cQ; cases cQ; exact hd.dep h (aT _ he hb)
theorem DC.set {listed:Array Bool} (hd:DC ops listed) {j:Nat} (hj:j∈Region.ready .any ops listed):DC ops (listed.setIfInBounds j true):=by
 refine ⟨by simpa using hd.1,fun i o e hi hl he hb=>?_⟩;by_cases dA:j=i
 ·subst dA;obtain ⟨-,o',cQ,aT⟩:=mem_ready.1 hj;rw [hi] at cQ; cases cQ;exact getD_set_true (aT e he hb)
 ·have:aN listed i=true:=by unfold aN at hl ⊢; rwa [getD_set_ne false dA] at hl
  exact getD_set_true (hd.2 i o e hi this he hb)
theorem sq {listed:Array Bool} {j i:Nat} (hj:j<listed.size):aN (listed.setIfInBounds j true) i=(aN listed i||decide (i=j)):=by
 unfold aN;by_cases h:j=i
 ·subst h; simp [hj]
 ·rw [getD_set_ne false h]; simp [Ne.symm h]
theorem mJ {listed:Array Bool} (hd:DC ops listed) {j:Nat} (hj:j∈Region.ready .any ops listed):aN listed j=false∧j<ops.size:=by
 obtain ⟨h1,o,ho,-⟩:=mem_ready.1 hj;have ai:j<ops.size:=(Array.getElem?_eq_some_iff.1 ho).1;refine ⟨?_,ai⟩;have:j<listed.size:=by rw [hd.1]; exact ai
 unfold aN;simp [this] at h1 ⊢;exact h1
theorem uu (hc:wO ops m) {listed:Array Bool} (hd:DC ops listed) {j:Nat} (hj:j<ops.size) (hn:aN listed j=false):∃ i,i≤j∧i∈Region.ready .any ops listed:=by
 induction j using Nat.strongRecOn with
 |ind j ih =>
  by_cases aT:∀ i,i<j→aN listed i=true
  ·refine ⟨j,Nat.le_refl _,mem_ready.2 ⟨?_,ops[j],by simp [hj],fun e he hb=>aT _ (hc.low j _ e (by simp [hj]) he hb)⟩⟩;have:j<listed.size:=by rw [hd.1]; exact hj
   unfold aN at hn;simp [this] at hn ⊢;exact hn
  ·have:∃ i,i<j∧aN listed i=false:=by
    apply Classical.byContradiction;intro aJ;exact aT fun i hi=>by
     cases hl:aN listed i with
     |true=>rfl
     |false=>exact absurd ⟨i,hi,hl⟩ aJ
   obtain ⟨i,hi,hl⟩:=this;obtain ⟨k,hk,hr⟩:=ih i hi (by omega) hl;exact ⟨k,by omega,hr⟩
theorem FG (hc:wO ops m) {Q:Exit→Act→World→Prop} {Kf:List AV→List ag→Prop} {c0:Cx}
  (hQ:∀ (a:Act) (c:Cx) (s:List AV) (h:List ag),Kf s h→aE E.G c→c.heap=h→a.defers=[]→VS c s a.tmps→Step c0 c→Q .normal a c.w) :
  ∀ (l:List Oper) (j:Nat) (s:List AV) (h:List ag),m≤j→ops.toList.drop j=l→j≤ops.size→fW E ops Kf l s h→∀ (listed:Array Bool) (a:Act) (c:Cx),aE E.G c→c.heap=h→a.defers=[]→VS c s a.tmps→Step c0 c →
   DC ops listed→(∀ i,aN listed i=decide (i<j))→∀ f,ops.size - j≤f→wpAny E.P .any ops Q f listed a c.w
 | [],j,s,h,hm,hl,hj,H,listed,a,c,h1,h2,h3,h4,h5,hd,dF,f,hf=>by
  have Ca:j=ops.size:=by
   have:=congrArg List.length hl;simp at this;omega
  subst Ca;have sr:Region.ready .any ops listed=[]:=by
   apply List.eq_nil_iff_forall_not_mem.2;intro i hi;obtain ⟨k1,k2⟩:=mJ hd hi;rw [dF] at k1;simp at k1;omega
  cases f with
  |zero=>exact ⟨sr,hQ a c s h H h1 h2 h3 h4 h5⟩
  |succ f=>exact ⟨fun _=>hQ a c s h H h1 h2 h3 h4 h5,fun i hi=>by rw [sr] at hi; cases hi⟩
 |o::l,j,s,h,hm,hl,hj,H,listed,a,c,h1,h2,h3,h4,h5,hd,dF,f,E2=>by
  have Ca:j<ops.size:=by
   have:=congrArg List.length hl;simp at this;omega
  have ho:ops[j]? = some o:=by
   have:=congrArg (·[0]?) hl
   simpa using this
  have Te:∀ i,i∈Region.ready .any ops listed→i=j:=fun i hi=>by
   obtain ⟨k1,k2⟩:=mJ hd hi;rw [dF] at k1;simp at k1;rcases Nat.lt_or_ge j i with ai | aP
   ·have:=hd.ready hi (hc.aW j i o ops[i] ai (by omega) ho (by simp [k2]));rw [dF] at this;simp at this
   ·omega
  obtain ⟨v,h',hf,-,H⟩:=H;obtain ⟨f,rfl⟩:∃ g,f=g+1:=⟨f - 1,by omega⟩;refine ⟨fun hr=>?_,fun i hi=>?_⟩
  ·obtain ⟨i,-,hi⟩:=uu hc hd Ca (by rw [dF]; simp);rw [hr] at hi;cases hi
  ·obtain rfl:=Te i hi;refine hf c a h1 h2 h3 h4.mask i ho _ _ (fun c' u k1 k2 k3 k4=>?_);refine FG hc hQ l (i+1) (bG s o.dst v) h' (by omega) (by rw [← List.drop_drop,hl]; rfl) (by omega) H _ _ c' k1 k2 ?_ (VS.bG (k3.vs h4) o.dst k4) (h5.trans k3) (hd.set hi) (fun k=>?_) f (by omega)
   ·cases gV:o.dst <;> simp [Act.put,h3]
   ·rw [sq (by rw [hd.1]; exact Ca),dF];by_cases hk:k=i
    ·subst hk; simp
    ·simp [hk]; omega
def er (L:Nat→Bool):Nat→Nat
 | 0=>0
 |n+1=>er L n+if L n then 0 else 1
theorem uv {L L':Nat→Bool} {j:Nat} (h:∀ i,i≠j→L' i=L i) (hj:L j=false) (dK:L' j=true):∀ n,(j<n→er L' n+1=er L n)∧(n≤j→er L' n=er L n)
 | 0=>⟨fun h=>by omega,fun _=>rfl⟩
 |n+1=>by
  obtain ⟨h1,h2⟩:=uv h hj dK n;simp only [er];by_cases hn:n=j
  ·subst hn;refine ⟨fun _=>?_,fun h=>by omega⟩;rw [h2 (Nat.le_refl _),hj,dK];simp
  ·rw [h n hn];exact ⟨fun hl=>by have:=h1 (by omega); omega,fun hl=>by rw [h2 (by omega)]⟩
theorem FH {L:Nat→Bool} {j:Nat} (hj:L j=false):∀ n,j<n→0<er L n
 | 0,h=>by omega
 |n+1,h=>by
  simp only [er];by_cases hn:n=j
  ·subst hn; rw [hj]; simp
  ·have:=FH hj n (by omega); omega
theorem KZ (m:Nat):∀ n,m≤n→er (fun i=>decide (i<m)) n=n - m
 | 0,h=>by simp [er]
 |n+1,h=>by
  simp only [er];by_cases hm:m≤n
  ·rw [KZ m n hm]; simp [show ¬ n<m by omega]; omega
  ·obtain rfl:m=n+1:=by omega
   have:∀ k,k≤n→er (fun i=>decide (i<n+1)) k=0:=by
    intro k
    induction k with
    |zero=>intro _; rfl
    |succ k ih=>intro hk; simp only [er,ih (by omega)]; simp; omega
   rw [this n (Nat.le_refl _)]; simp
theorem K0 {L L':Nat→Bool} (h:∀ i,L i=L' i):∀ n,er L n=er L' n
 | 0=>rfl
 |n+1=>by simp only [er,K0 h n,h n]
theorem ss {a b:Oper} {d:Nat} (ha:a.dst=some d) (hb:d∈b.dst.toList++b9 ops b):jo ops a b=true:=by
 simp only [jo,ha,B7.2 hb,Bool.true_or]
theorem K3 {a b:Oper} {d:Nat} (hb:b.dst=some d) (ha:d∈b9 ops a):jo ops a b=true:=by
 simp only [jo,hb,B7.2 ha,Bool.or_true]
theorem Tf (hc:wO ops m) (qP:m≤ops.size) {Q:Exit→Act→World→Prop} {Kf:List AV→List ag→Prop} {c0:Cx} {s0:List AV} {h:List ag}
  (hQ:∀ (a:Act) (c:Cx) (s:List AV) (h:List ag),Kf s h→aE E.G c→c.heap=h→a.defers=[]→VS c s a.tmps→Step c0 c→Q .normal a c.w)
  (pl:List (Oper × AV)) (lL:pl.map (·.1)=ops.toList.take m) (fy:fW E ops Kf (ops.toList.drop m) (cur pl (fun k=>decide (k<pl.length)) 0 s0) h) (qQ:∀ j o v,pl[j]? = some (o,v)→dB E ops o (cur pl (fun k=>decide (k<j)) 0 s0) h v) :
  ∀ (f:Nat) (listed:Array Bool) (a:Act) (c:Cx),aE E.G c→c.heap=h→a.defers=[]→VS c (cur pl (aN listed) 0 s0) a.tmps→Step c0 c→DC ops listed→(∀ i,m≤i→aN listed i=false)→er (aN listed) ops.size≤f→wpAny E.P .any ops Q f listed a c.w:=by
 have hlen:pl.length=m:=by
  have:=congrArg List.length lL;simp at this;omega
 have dH:∀ j o v,pl[j]? = some (o,v)→ops[j]? = some o∧j<m:=fun j o v hj=>by
  have K4:j<m:=by rw [← hlen]; exact aZ hj
  have:=congrArg (·[j]?) lL;simp only [List.getElem?_map,hj,Option.map_some,List.getElem?_take,K4,if_true] at this;exact ⟨by simpa using this.symm,K4⟩
 intro f
 induction f with
 |zero =>
  intro listed a c h1 h2 h3 h4 h5 hd hs iH;by_cases aT:∀ i,i<ops.size→aN listed i=true
  ·have hm:m=ops.size:=by
    rcases Nat.lt_or_ge m ops.size with ai | aP
    ·have:=hs m (Nat.le_refl _); rw [aT m ai] at this; cases this
    ·omega
   have dF:∀ i,aN listed i=decide (i<m):=fun i=>by
    rcases Nat.lt_or_ge i m with hi | hi
    ·rw [aT i (by omega)]; simp [hi]
    ·rw [hs i hi]; simp; omega
   refine FG hc hQ _ m _ h (Nat.le_refl _) rfl qP fy listed a c h1 h2 h3 ?_ h5 hd dF 0 (by omega);have:cur pl (aN listed) 0 s0=cur pl (fun k=>decide (k<pl.length)) 0 s0:=by
    congr 1
    funext i;rw [dF,hlen]
   rw [← this]; exact h4
  ·exfalso;apply aT;intro i hi;cases hl:aN listed i with
   |true=>rfl
   |false=>have:=FH hl ops.size hi; omega
 |succ f ih =>
  intro listed a c h1 h2 h3 h4 h5 hd hs iH;by_cases aT:∀ i,i<m→aN listed i=true
  ·have dF:∀ i,aN listed i=decide (i<m):=fun i=>by
    rcases Nat.lt_or_ge i m with hi | hi
    ·rw [aT i hi]; simp [hi]
    ·rw [hs i hi]; simp; omega
   have eB:er (aN listed) ops.size=ops.size - m:=by rw [K0 dF,KZ m _ qP]
   refine FG hc hQ _ m _ h (Nat.le_refl _) rfl qP fy listed a c h1 h2 h3 ?_ h5 hd dF (f+1) (by omega);have:cur pl (aN listed) 0 s0=cur pl (fun k=>decide (k<pl.length)) 0 s0:=by
    congr 1
    funext i;rw [dF,hlen]
   rw [← this]; exact h4
  ·have:∃ i,i<m∧aN listed i=false:=by
    apply Classical.byContradiction;intro aJ;exact aT fun i hi=>by
     cases hl:aN listed i with
     |true=>rfl
     |false=>exact absurd ⟨i,hi,hl⟩ aJ
   obtain ⟨i0,iC,jq⟩:=this;refine ⟨fun hr=>?_,fun i hi=>?_⟩
   ·obtain ⟨i,-,hi⟩:=uu hc hd (by omega) jq;rw [hr] at hi;cases hi
   obtain ⟨dF,dT⟩:=mJ hd hi;have FI:i<m:=by
    rcases Nat.lt_or_ge i m with h | h
    ·exact h
    ·have:=hd.ready hi (hc.aW i0 i ops[i0] ops[i] (by omega) h (by simp) (by simp [dT]));rw [jq] at this;cases this
   obtain ⟨⟨o,v⟩,dj⟩:∃ p,pl[i]? = some p:=⟨pl[i]'(by omega),by simp⟩;obtain ⟨ec,-⟩:=dH i o v dj;have wr:∀ k o' v',pl[k]? = some (o',v')→(k<i→jo ops o' o=true→aN listed k=true)∧(i<k→jo ops o o'=true→aN listed k=false):=fun k o' v' hk=>by
    obtain ⟨aK,-⟩:=dH k o' v' hk;refine ⟨fun ai uw=>hd.ready hi (hc.pair k i o' o ai aK ec uw),fun ai uw=>?_⟩;cases hl:aN listed k with
    |false=>rfl
    |true=>have:=hd.dep (hc.pair i k o o' ai ec aK uw) hl; rw [dF] at this; cases this
   have kx:VS c (bZ (b9 ops o) 0 (cur pl (fun k=>decide (k<i)) 0 s0)) a.tmps:=by
    refine ⟨by rw [B9,lT]; have:=h4.1; rwa [lT] at this,fun t x u hx hu=>?_⟩;rcases ur _ 0 t _ x hx with rfl | ⟨hk,hx⟩
    ·exact .any u
    ·rw [Nat.zero_add] at hk;refine h4.2 t x u ?_ hu;rw [← hx];refine qO pl _ _ 0 s0 s0 rfl rfl (fun k o' v' fS fE=>?_);rw [Nat.zero_add];rcases Nat.lt_trichotomy k i with ai | rfl | qB
     ·rw [(wr k o' v' fS).1 ai (ss fE (List.mem_append_right _ hk))]; simp [ai]
     ·rw [dF]; simp
     ·rw [(wr k o' v' fS).2 qB (K3 fE hk)]; simp; omega
   refine qQ i o v dj c a h1 h2 h3 kx i ec _ _ (fun c' u k1 k2 k3 k4=>?_);have bP:i<listed.size:=by rw [hd.1]; exact dT
   have cL:=fun q=>sq (i:=q) bP;refine ih _ _ c' k1 k2 ?_ ?_ (h5.trans k3) (hd.set hi) (fun q hq=>by rw [cL,hs q hq]; simp; omega) ?_
   ·cases gV:o.dst <;> simp [Act.put,h3]
   ·refine ⟨by rw [lT]; have:=h4.1; rw [lT] at this; cases gV:o.dst <;> simp [Act.put,this],fun t x u' hx qv=>?_⟩;by_cases eA:o.dst=some t
    ·have e1:(cur pl (aN (listed.setIfInBounds i true)) 0 s0)[t]? = (cur pl (fun k=>decide (k<0+i+1)) 0 s0)[t]? := by
      refine qO pl _ _ 0 s0 s0 rfl rfl (fun k o' v' fS fE=>?_);rw [Nat.zero_add,Nat.zero_add,cL];rcases Nat.lt_trichotomy k i with ai | rfl | qB
      ·rw [(wr k o' v' fS).1 ai (ss fE (List.mem_append_left _ (by simp [eA])))]; simp; omega
      ·simp
      ·rw [(wr k o' v' fS).2 qB (ss eA (List.mem_append_left _ (by simp [fE])))]; simp; omega
     rw [e1,B8 pl 0 i s0 o v dj,eA] at hx;have jr:t<(cur pl (fun k=>decide (k<0+i)) 0 s0).length:=by
      have:=aZ hx
      simpa [bG] using this
     rw [bG,List.getElem?_set_self jr] at hx;cases hx;have FJ:t<a.tmps.size:=by rw [← h4.1,lT]; rwa [lT] at jr
     have uz:(a.tmps.setIfInBounds t u)[t]? = some u':=by simpa [Act.put,eA] using qv
     rw [Array.getElem?_setIfInBounds_self_of_lt FJ] at uz;cases uz;exact k4
    ·have e1:(cur pl (aN (listed.setIfInBounds i true)) 0 s0)[t]? = (cur pl (aN listed) 0 s0)[t]? := by
      refine qO pl _ _ 0 s0 s0 rfl rfl (fun k o' v' fS fE=>?_);rw [Nat.zero_add,cL];have:k≠i:=fun e=>by
       subst e;rw [dj] at fS;cases fS;exact eA fE
      simp [this]
     rw [e1] at hx;refine k3.vr (h4.2 t x u' hx ?_);cases gV:o.dst with
     |none=>simpa [Act.put,gV] using qv
     |some d =>
      rw [gV] at eA;have aJ:d≠t:=fun e=>eA (by rw [e])
      simpa [Act.put,gV,Array.getElem?_setIfInBounds_ne aJ] using qv
   ·have:=(uv (L:=aN listed) (L':=aN (listed.setIfInBounds i true)) (j:=i) (fun q hq=>by rw [cL]; simp [hq]) dF (by rw [cL]; simp) ops.size).1 dT;omega
end
end Go.ax
end
section
namespace Go.ax
open Go Go.RowKit
section
variable {E:Env} {ae:FuncId} {R:bY} {ops:Array Oper} {s:List AV} {h:List ag}
theorem AW.draw {f0:FuncId} {cls:List cC} {id m:Nat} {k:List aG} (hm:E.P.follows .mixedOrders=true) (jP:pn ops m=true) (qP:m≤ops.size)
  (H:kv E ops h (fun s'=>fW E ops (fun s2 h2=>AW E f0 ⟨⟨ae,none,[]⟩,k,s2⟩ cls h2 R) (ops.toList.drop m) s' h) (ops.toList.take m) s):AW E f0 ⟨⟨ae,none,[]⟩,.code (.region id ops true)::k,s⟩ cls h R:=by
 unfold AW;intro c0 c t ts h0 h1 h2 h3 hr bX h4 h5 cs;obtain ⟨pl,p1,p2,p3⟩:=kv.lay H
 let Q:Exit→Act→World→Prop:=fun e a w=>e = .normal∧∃ (c':Cx) (s':List AV) (h':List ag),AW E f0 ⟨⟨ae,none,[]⟩,k,s'⟩ cls h' R∧aE E.G c'∧c'.heap=h'∧a.defers=[]∧VS c' s' a.tmps∧Step c c'∧w=c'.w
 have hx:Proofs.YtcmnpelmmekdkaaGreatDoor.Ext c.w { c.w with drawn:=c.w.drawn+1 }:=⟨rfl,rfl,rfl,Nat.le_refl _,fun _ _=>rfl⟩;obtain ⟨g1,g2⟩:=h3.grow hx;have FK:(Code.region id ops true).wp E.P Q ⟨t,[]⟩ c.w:=by
  refine wp_region_any hm ?_;refine Tf (E:=E) (Td jP) qP (c0:=c) (s0:=s) (h:=h) (Kf:=fun s2 h2=>AW E f0 ⟨⟨ae,none,[]⟩,k,s2⟩ cls h2 R) (fun a c' s' h' hK r1 r2 r3 r4 r5=>⟨rfl,c',s',h',hK,r1,r2,r3,r4,r5,rfl⟩) pl p1 p2 (fun j o v hj=>(p3 j o v hj).1) ops.size (Array.replicate ops.size false) ⟨t,[]⟩ (c.dN { c.w with drawn:=c.w.drawn+1 }) g1 h2 rfl ?_ g2 ?_ ?_ ?_
  ·have:cur pl (aN (Array.replicate ops.size false)) 0 s=s:=jN pl 0 s _ (fun i _=>by unfold aN; simp [Array.getElem?_replicate]; split <;> rfl);rw [this];exact g2.vs h4
  ·exact ⟨by simp,fun j o e _ hl=>by unfold aN at hl; simp [Array.getElem?_replicate] at hl; split at hl <;> cases hl⟩
  ·intro i _;unfold aN;simp [Array.getElem?_replicate];split <;> rfl
  ·have:∀ n,er (aN (Array.replicate ops.size false)) n≤n:=by
    intro n
    induction n with
    |zero=>exact Nat.le_refl _
    |succ n ih=>simp only [er]; split <;> omega
   exact this _
 obtain ⟨e,a',w',⟨rfl,c',s',h',hA,r1,r2,r3,r4,r5,rfl⟩,FL⟩:=FK (bf ⟨ae,none,[]⟩) (k.map aG.bM) (eY cls ts++cs);unfold AW at hA;obtain ⟨c2,fr,r,v,q1,q2,q3,tM,q4,q5,q6⟩:=hA c0 c' a'.tmps ts h0 (eb h1) r2 r1 (hr.step r5) (bX.step h3 r5) r4 (r5.cr h5) cs;refine ⟨c2,fr,r,v,q1,q2,q3,tM,?_,q5,q6⟩;have yV:a'=⟨a'.tmps,[]⟩:=by cases a'; simp only at r3; subst r3; rfl
 have:Steps E.P (lone ((bf ⟨ae,none,[]⟩).at ⟨t,[]⟩ (.code (.region id ops true)::k.map aG.bM)) (eY cls ts++cs) c.w) (lone ((bf ⟨ae,none,[]⟩).at a' (k.map aG.bM)) (eY cls ts++cs) c'.w):=FL;rw [yV] at this;exact this.trans q4
theorem dB.of {o:Oper} {v:AV} (hw:ik ops o (bZ (b9 ops o) 0 s) true) (ho:aQ E o.op (bZ (b9 ops o) 0 s) h v h):dB E ops o s h v:=fun c a h1 h2 _ h4 j hj K Q hK=>by
 obtain ⟨c',u,k1,k2,k3,k4,k5⟩:=ho o c a rfl h2 h1 h4;unfold wpOp;simp only [hj,hw c a.tmps h4,if_true];left;have:=hK c' u k3 k2 k5 k4;unfold Oper.wp;rcases k1 with k1 | ⟨k1,rfl⟩
 ·rw [k1]; exact this
 ·rw [k1]; exact this
theorem dB.skip {o:Oper} (hw:ik ops o (bZ (b9 ops o) 0 s) false):dB E ops o s h (.d .undef):=fun c a h1 h2 _ h4 j hj K Q hK=>by
 unfold wpOp;simp only [hj,hw c a.tmps h4,Bool.false_eq_true,if_false];exact hK c Go.undef h1 h2 (Step.refl c h1.bD) (.d _ _ .undef)
theorem dq.of {o:Oper} {v:AV} {h':List ag} (hw:ik ops o (bZ (b9 ops o) 0 s) true) (ho:aQ E o.op (bZ (b9 ops o) 0 s) h v h'):dq E ops o s h v h':=fun c a h1 h2 _ h4 j hj K Q hK=>by
 obtain ⟨c',u,k1,k2,k3,k4,k5⟩:=ho o c a rfl h2 h1 h4;unfold wpOp;simp only [hj,hw c a.tmps h4,if_true];left;have:=hK c' u k3 k2 k5 k4;unfold Oper.wp;rcases k1 with k1 | ⟨k1,rfl⟩
 ·rw [k1]; exact this
 ·rw [k1]; exact this
theorem dq.skip {o:Oper} (hw:ik ops o (bZ (b9 ops o) 0 s) false):dq E ops o s h (.d .undef) h:=fun c a h1 h2 _ h4 j hj K Q hK=>by
 unfold wpOp;simp only [hj,hw c a.tmps h4,Bool.false_eq_true,if_false];exact hK c Go.undef h1 h2 (Step.refl c h1.bD) (.d _ _ .undef)
theorem K5 {s:List AV} {o:Oper} {fx:Operand} {args:Array Operand} {ts:Array TypeId} {f:FuncId} {a1 a2 av:List AV} {ds:List DV} {r:DV} (ho:o.op = .call { callee := .value fx,args:=args,argTypes:=ts })
  (hf:bp E.G s fx (.fn (.func f) a1 a2)) (ha:gU E.G s args.toList av) (hd:a1++av++a2=ds.map .d) (hc:aA E f ds (· = r)) {c:Cx} {a:Act} (h1:aE E.G c) (h4:VS c s a.tmps) {K:Act→World→Prop} {Q:Exit→Act→World→Prop}
  (hK:∀ (c':Cx) (u:Value),aE E.G c'→c'.heap=c.heap→Step c c'→VR c' (.d r) u→K (a.put o.dst u) c'.w):o.wp E.P a c.w K Q:=by
 unfold aA at hc;obtain ⟨v1,v2,e1,e2,e3⟩:=lP (hf c a h1 h4);have e4:=ha c a h1 h4;have e5:=(e2.append e4).append e3;rw [hd] at e5;have eG:∀ b,c.bad b→b<c.w.heap.size:=fun b hb=>hb.elim (h1.bD b) fun ⟨j,n,hj⟩=>(h1.bI j b n hj).1;have yz:vV E.G c.bad c.w:=fun g e hg=>by
  have hp:∀ p,VR c (.b8 e 0) p→VR ⟨fun _=>none,[],c.bad,c.w⟩ (.b8 e 0) p:=fun p hp=>by
   cases hp with
   |b8 _ _ blk o' fv k1 k2 k3 k4=>exact .b8 _ _ blk o' fv (fun hb=>k1 (yw.1 hb)) k2 k3 (fun j x hx=>yx (k4 j x hx))
  exact hp _ (h1.fO g e hg)
 have iS:=hc.2 c.bad c.w _ eG yz ⟨by simpa using e5.1,e5.o5⟩;have cR:=yy (P:=E.P) (w:=c.w) (a:=a) ho e1 hc.1;have jK:(v1.toArray++args.map a.eval++v2.toArray)=(v1++args.toList.map a.eval++v2).toArray:=by
  apply Array.ext';simp
 rw [jK] at cR;unfold Oper.wp;rw [cR,Oper.upon_enter];refine iS.mono fun e w' he=>?_;obtain ⟨v,r',rfl,rfl,hv,hx⟩:=he;obtain ⟨k1,k2⟩:=h1.grow hx;exact hK (c.dN w') v k1 rfl k2 (.d _ _ hv)
theorem dB.call {o:Oper} {fx:Operand} {args:Array Operand} {ts:Array TypeId} {f:FuncId} {a1 a2 av:List AV} {ds:List DV} {r:DV} (hw:ik ops o (bZ (b9 ops o) 0 s) true) (ho:o.op = .call { callee := .value fx,args:=args,argTypes:=ts })
  (hf:bp E.G (bZ (b9 ops o) 0 s) fx (.fn (.func f) a1 a2)) (ha:gU E.G (bZ (b9 ops o) 0 s) args.toList av) (hd:a1++av++a2=ds.map .d) (hc:aA E f ds (· = r)):dB E ops o s h (.d r):=fun c a h1 h2 _ h4 j hj K Q hK=>by
 unfold wpOp;simp only [hj,hw c a.tmps h4,if_true];left;exact K5 ho hf ha hd hc h1 h4 fun c' u k1 k2 k3 k4=>hK c' u k1 (k2.trans h2) k3 k4
theorem dq.call {o:Oper} {fx:Operand} {args:Array Operand} {ts:Array TypeId} {f:FuncId} {a1 a2 av:List AV} {ds:List DV} {r:DV} (hw:ik ops o (bZ (b9 ops o) 0 s) true) (ho:o.op = .call { callee := .value fx,args:=args,argTypes:=ts })
  (hf:bp E.G (bZ (b9 ops o) 0 s) fx (.fn (.func f) a1 a2)) (ha:gU E.G (bZ (b9 ops o) 0 s) args.toList av) (hd:a1++av++a2=ds.map .d) (hc:aA E f ds (· = r)):dq E ops o s h (.d r) h:=fun c a h1 h2 _ h4 j hj K Q hK=>by
 unfold wpOp;simp only [hj,hw c a.tmps h4,if_true];left;exact K5 ho hf ha hd hc h1 h4 fun c' u k1 k2 k3 k4=>hK c' u k1 (k2.trans h2) k3 k4
theorem dq.oy {o:Oper} {fx:Operand} {args:Array Operand} {ts:Array TypeId} {f:FuncId} {a1 a2 av:List AV} {ah:List Nat} {r:AV} {h1:List ag} (hw:ik ops o (bZ (b9 ops o) 0 s) true) (ho:o.op = .call { callee := .value fx,args:=args,argTypes:=ts })
  (hf:bp E.G (bZ (b9 ops o) 0 s) fx (.fn (.func f) a1 a2)) (ha:gU E.G (bZ (b9 ops o) 0 s) args.toList av) (hc:aC E f (jL ah h) ((a1++av++a2).map (kW ah h)) (fun a b=>a=r∧b=h1)) (hn:ah.Nodup) (ai:∀ j∈ah,j<h.length):dq E ops o s h (jM ah h r) (fD ah h h1):=fun c a k1 h2 _ h4 j hj K Q hK=>by
 unfold wpOp;simp only [hj,hw c a.tmps h4,if_true];left;obtain ⟨v1,v2,e1,e2,e3⟩:=lP (hf c a k1 h4);have e4:=ha c a k1 h4;have e5:=(e2.append e4).append e3;have hb:qu E.P f:=by unfold aC at hc; exact hc.1
 have iS:=hc.at (c:=c) hn ai h2 k1 e5;have cR:=yy (P:=E.P) (w:=c.w) (a:=a) ho e1 hb;have jK:(v1.toArray++args.map a.eval++v2.toArray)=(v1++args.toList.map a.eval++v2).toArray:=by
  apply Array.ext';simp
 rw [jK] at cR;unfold Oper.wp;rw [cR,Oper.upon_enter];refine iS.mono fun e w' he=>?_;obtain ⟨c',r',fT,v,rfl,rfl,⟨rfl,rfl⟩,q1,q2,q3,q4⟩:=he;exact hK c' v q3 q1 q4 q2
end
@[irreducible] def pr (E : Env) (f : FuncId) (ds : List DV) (K : DV → Prop) : Prop := ∃ r, aA E f ds (· = r) ∧ K r
theorem bg {E:Env} {f:FuncId} {ds:List DV} {K:DV→Prop} {r:DV} (h:aA E f ds (· = r)) (hk:K r):pr E f ds K:=by unfold pr; exact ⟨r,h,hk⟩
@[irreducible] def Cb (E : Env) (f : FuncId) (h0 : List ag) (args : List AV) (K : AV → List ag → Prop) : Prop := ∃ r h1, aC E f h0 args (fun a b => a = r ∧ b = h1) ∧ K r h1
theorem FM {E:Env} {f:FuncId} {h0:List ag} {args:List AV} {K:AV→List ag→Prop} {r:AV} {h1:List ag} (H:aC E f h0 args (fun a b=>a=r∧b=h1)) (hk:K r h1):Cb E f h0 args K:=by unfold Cb; exact ⟨r,h1,H,hk⟩
def su (E:Env) (f:FuncId) (eT:List AV) (h:List ag) (stop:Prop) (k:AV→List ag→Prop):Prop :=
 si h eT [] fun Fl=>ue h 20 0 Fl fun ah=>qI h 0 fun n=>match yZ n ah with
  |true=>BN ah h fun h0=>jm (BM ah h) eT fun Fm=>Cb E f h0 Fm fun r h1=>wx ah h r fun v=>wz ah h h1 fun h'=>k v h'
  |false=>stop
theorem K6 {E:Env} {f:FuncId} {eT:List AV} {h:List ag} {stop:Prop} {k:AV→List ag→Prop} (H:su E f eT h stop k):stop∨∃ (ah:List Nat) (r:AV) (h1:List ag),
  aC E f (jL ah h) (eT.map (kW ah h)) (fun a b=>a=r∧b=h1)∧ah.Nodup∧(∀ j∈ah,j<h.length)∧k (jM ah h r) (fD ah h h1):=by
 unfold su at H;obtain ⟨s0,H⟩:=wC H;obtain ⟨ah,H⟩:=y5 H;rw [wu,Nat.zero_add] at H;split at H
 ·rename_i q;obtain ⟨h1,h2⟩:=Fk q;rw [Kw,pf (Kv ah h)] at H;unfold Cb at H;obtain ⟨r,hp,h3,h4⟩:=H;rw [Fi,Fj] at h4;exact .inr ⟨ah,r,hp,h3,h1,h2,h4⟩
 ·exact .inl H
def jQ:Op→Bool
 | .box .. => false
 | .alloc .. => false
 | .store .. => false
 | .makeSlice .. => false
 | .makeMap .. => false
 | .mapUpdate .. => false
 | .call { callee := .builtin .append,.. }=>false
 |_=>true
def sx {α:Sort _} (keep:List Nat):Nat→List AV→(List AV→α)→α
 |_,[],k=>k []
 |i,x::s,k=>match bV i keep with
  |true=>sx keep (i+1) s fun s'=>k (x::s')
  |false=>sx keep (i+1) s fun s'=>k (.any::s')
theorem zm {α:Sort _} (keep:List Nat):∀ (i:Nat) (s:List AV) (k:List AV→α),sx keep i s k=k (bZ keep i s)
 |_,[],_=>rfl
 |i,x::s,k=>by
  simp only [sx,bZ];split <;> rename_i q <;> rw [zm keep (i+1)] <;> simp only [q]
@[irreducible] def cb (E : Env) (ae : FuncId) (R : bY) (ops : Array Oper) (k : List aG) (Fq : List Nat) (pre aW : List Oper) (s : List AV) (h : List ag) : Prop :=
 kv E ops h (fun s'=>fW E ops (fun s2 h2=>aa E ae R [] k s2 h2) aW s' h) pre s
@[irreducible] def cZ (E : Env) (ae : FuncId) (R : bY) (ops : Array Oper) (k : List aG) (Fq : List Nat) (aW : List Oper) (s : List AV) (h : List ag) : Prop :=
 fW E ops (fun s2 h2=>aa E ae R [] k s2 h2) aW s h
def lU (E:Env) (ae:FuncId) (R:bY) (ops:Array Oper) (k:List aG):Nat→List Nat→List Oper→List Oper→List AV→List ag→Prop
 | 0,lits,pre,aW,s,h=>cb E ae R ops k lits pre aW s h
 |n+1,lits,pre,aW,s,h =>
  match pre with
  | []=>cZ E ae R ops k lits aW s h
  |o::l=>sx (b9 ops o) 0 s fun so =>
   let go:Prop:=match jQ o.op with
    |true=>eX E.T E.G o.op so h (kn E o.op so (fU E o.op so h (jn E.G so o (cb E ae R ops k lits pre aW s h) fun f eT=>my eT (cb E ae R ops k lits pre aW s h) fun ds=>pr E f ds fun v=>bJ s o.dst (.d v) fun s'=>cb E ae R ops k lits l aW s' h)
      fun v _=>bJ s o.dst v fun s'=>cb E ae R ops k lits l aW s' h)
      fun v=>bJ s o.dst v fun s'=>lU E ae R ops k n lits l aW s' h)
     fun v _=>bJ s o.dst v fun s'=>lU E ae R ops k n lits l aW s' h
    |false=>cb E ae R ops k lits pre aW s h
   sj ops o.guard go (cb E ae R ops k lits pre aW s h) fun d b=>aV so d (cb E ae R ops k lits pre aW s h) fun
    | .d (.bool t)=>match bV d lits with
     |false=>kX t (fN s d (.d (.bool true)) fun s'=>cb E ae R ops k (d::lits) pre aW s' h) (fN s d (.d (.bool false)) fun s'=>cb E ae R ops k (d::lits) pre aW s' h)
     |true=>match BX t b with
      |true=>go
      |false=>bJ s o.dst (.d .undef) fun s'=>lU E ae R ops k n lits l aW s' h
    | .d .undef=>bJ s o.dst (.d .undef) fun s'=>lU E ae R ops k n lits l aW s' h
    |_=>cb E ae R ops k lits pre aW s h
theorem K7 {T:List bB} {G:List (Nat × DV)} {o:Op} {s:List AV} {h:List ag} {stop:Prop} {K:AV→Prop} (ho:jQ o=true) (H:eX T G o s h stop (fun v _=>K v)):eX T G o s h stop (fun v h'=>h'=h∧K v):=by
 cases o
 case box=>cases ho
 case alloc=>cases ho
 case store=>cases ho
 case unOp op t x=>cases op <;> simpa only [eX,true_and] using H
 case call c =>
  obtain ⟨callee,args,ts⟩:=c;cases callee with
  |builtin b=>cases b <;> simpa only [eX,true_and] using H
  |_=>simpa only [eX] using H
 all_goals simpa only [eX,true_and] using H
theorem Tg {T:List bB} {G:List (Nat × DV)} {o:Op} {s:List AV} {h:List ag} {stop:Prop} {K:AV→Prop} (ho:jQ o=true) (H:lQ T G o s h stop (fun v _=>K v)):lQ T G o s h stop (fun v h'=>h'=h∧K v):=by
 cases o
 case store=>cases ho
 case makeSlice=>cases ho
 case slice t x lo hi mx=>cases mx <;> simpa only [lQ,nr,true_and] using H
 case call c =>
  obtain ⟨callee,args,ts⟩:=c;cases callee with
  |builtin b=>cases b <;> first | (simpa only [lQ,nr] using H) | (simp [jQ] at ho)
  |_=>simpa only [lQ,nr] using H
 all_goals simpa only [lQ,nr,true_and] using H
theorem Th {E:Env} {o:Op} {s:List AV} {h:List ag} {stop:Prop} {K:AV→Prop} (ho:jQ o=true):ot E o s h stop (fun v h'=>h'=h∧K v)=ot E o s h stop (fun v _=>K v):=by
 unfold ot;split
 ·simp [jQ] at ho
 ·simp only [true_and]
 ·simp only [true_and]
 ·simp [jQ] at ho
 ·rfl
theorem K8 {E:Env} {o:Op} {s:List AV} {h:List ag} {stop:Prop} {K:AV→Prop} (ho:jQ o=true) (H:fU E o s h stop (fun v _=>K v)):fU E o s h stop (fun v h'=>h'=h∧K v):=by
 unfold fU at H ⊢;rw [Th ho];have:=Tg ho H;have e:(fun v=>h=h∧K v)=K:=by funext v; simp
 rw [e];exact this
theorem cZ.is {E:Env} {ae:FuncId} {R:bY} {ops:Array Oper} {k:List aG} {lits:List Nat} {aW:List Oper} {s:List AV} {h:List ag} (H:cZ E ae R ops k lits aW s h):cZ E ae R ops k lits aW s h:=H
theorem cb.is {E:Env} {ae:FuncId} {R:bY} {ops:Array Oper} {k:List aG} {lits:List Nat} {pre aW:List Oper} {s:List AV} {h:List ag} (H:cb E ae R ops k lits pre aW s h):cb E ae R ops k lits pre aW s h:=H
theorem cZ.to {E:Env} {ae:FuncId} {R:bY} {ops:Array Oper} {k:List aG} {lits:List Nat} {aW:List Oper} {s:List AV} {h:List ag} (H:cZ E ae R ops k lits aW s h):fW E ops (fun s2 h2=>aa E ae R [] k s2 h2) aW s h:=by unfold cZ at H; exact H
theorem cb.to {E:Env} {ae:FuncId} {R:bY} {ops:Array Oper} {k:List aG} {lits:List Nat} {pre aW:List Oper} {s:List AV} {h:List ag} (H:cb E ae R ops k lits pre aW s h):kv E ops h (fun s'=>fW E ops (fun s2 h2=>aa E ae R [] k s2 h2) aW s' h) pre s:=by unfold cb at H; exact H
theorem K9 {E:Env} {o:Oper} {so:List AV} {h:List ag} {A stop:Prop} {K:AV→Prop} {B:AV→List ag→Prop} {C:(f:FuncId)→List AV→Prop} {D:AV→Prop} (hF:jO o=true)
  (H:match jQ o.op with
    |true=>eX E.T E.G o.op so h (kn E o.op so (fU E o.op so h (jn E.G so o stop C) B) D) fun v _=>K v
    |false=>A) (hA:A→stop):stop∨∃ v,K v∧∀ h',aQ E o.op so h' v h':=by
 obtain ⟨dst,op,type,pos,after,guard⟩:=o;cases op <;> first | (cases guard <;> cases hF; done) | skip
 case extract x i =>
  simp only [jQ,eX,kn,fU,lQ,nr,sa,ot,jn] at H;rcases cI H with H | ⟨v,hv,H⟩
  ·exact .inl H
  split at H
  ·rename_i l;rcases bj H with H | ⟨u,hu,H⟩
   ·exact .inl H
   ·exact .inr ⟨_,H,fun h'=>Jt hv hu⟩
  ·rename_i l;rcases bj H with H | ⟨u,hu,H⟩
   ·exact .inl H
   ·exact .inr ⟨_,H,fun h'=>Ju hv hu⟩
  ·exact .inl H
 case move x =>
  simp only [jQ,eX,kn,fU,lQ,nr,sa,ot,jn] at H;rcases cI H with H | ⟨v,hv,H⟩
  ·exact .inl H
  ·exact .inr ⟨_,H,fun h'=>Jn hv⟩
 case assign x =>
  simp only [jQ,eX,kn,fU,lQ,nr,sa,ot,jn] at H;rcases cI H with H | ⟨v,hv,H⟩
  ·exact .inl H
  ·exact .inr ⟨_,H,fun h'=>Jo hv⟩
theorem FN {E:Env} (hE:E.OK) {ae:FuncId} {R:bY} {ops:Array Oper} {k:List aG}:∀ (n:Nat) (lits:List Nat) (pre aW:List Oper) (s:List AV) (h:List ag),
  lU E ae R ops k n lits pre aW s h→kv E ops h (fun s'=>fW E ops (fun s2 h2=>aa E ae R [] k s2 h2) aW s' h) pre s:=by
 intro n
 induction n with
 |zero=>intro lits pre aW s h H; exact cb.to H
 |succ n ih =>
  intro lits pre aW s h H;unfold lU at H;split at H
  ·exact cZ.to H
  rename_i o l;rw [zm] at H;have zn:∀ (d:Nat) (x:AV),(bZ (b9 ops o) 0 s)[d]? = some x→x ≠ .any→s[d]? = some x:=fun d x hx aJ=>by
   rcases ur _ 0 d s x hx with h | ⟨-,h⟩
   ·exact absurd h aJ
   ·exact h
  have go:ik ops o (bZ (b9 ops o) 0 s) true→(match jQ o.op with
    |true=>eX E.T E.G o.op (bZ (b9 ops o) 0 s) h (kn E o.op (bZ (b9 ops o) 0 s) (fU E o.op (bZ (b9 ops o) 0 s) h (jn E.G (bZ (b9 ops o) 0 s) o (cb E ae R ops k lits (o::l) aW s h) fun f eT=>my eT (cb E ae R ops k lits (o::l) aW s h) fun ds=>pr E f ds fun v=>bJ s o.dst (.d v) fun s'=>cb E ae R ops k lits l aW s' h)
      fun v _=>bJ s o.dst v fun s'=>cb E ae R ops k lits l aW s' h)
      fun v=>bJ s o.dst v fun s'=>lU E ae R ops k n lits l aW s' h)
     fun v _=>bJ s o.dst v fun s'=>lU E ae R ops k n lits l aW s' h
    |false=>cb E ae R ops k lits (o::l) aW s h)→kv E ops h (fun s'=>fW E ops (fun s2 h2=>aa E ae R [] k s2 h2) aW s' h) (o::l) s:=by
   intro hw H;by_cases hF:jO o=true
   ·rcases K9 hF H id with H | ⟨v,H,ho⟩
    ·exact cb.to H
    ·rw [di] at H;exact ⟨v,dB.of hw (ho h),fun _ h'=>dB.of hw (ho h'),ih _ _ _ _ _ H⟩
   have FO:∀ {v:AV},jO o=true→∀ h',dB E ops o s h' v:=fun e=>absurd e hF;split at H
   ·rename_i aR;rcases tE hE (K7 (K:=fun v=>bJ s o.dst v fun s'=>lU E ae R ops k n lits l aW s' h) aR H) with H | ⟨v,h',⟨rfl,H⟩,ho⟩
    ·rcases ER hE H with H | ⟨v,H,ho⟩
     case inr =>
      rw [di] at H;exact ⟨v,dB.of hw (ho h),fun _ h'=>dB.of hw (ho h'),ih _ _ _ _ _ H⟩
     rcases tW hE (K8 (K:=fun v=>bJ s o.dst v fun s'=>cb E ae R ops k lits l aW s' h) aR H) with H | ⟨v,h',⟨rfl,H⟩,ho⟩
     ·rcases BW H with H | ⟨fx,args,ts,f,a1,av,a2,cm,hv,kq,H⟩
      ·exact cb.to H
      rcases tq (a1++av++a2) (cb E ae R ops k lits (o::l) aW s h) (fun ds=>pr E f ds fun v=>bJ s o.dst (.d v) fun s'=>cb E ae R ops k lits l aW s' h) with ⟨ds,e1,e2⟩ | e2
      ·rw [e2] at H;unfold pr at H;obtain ⟨r,hc,hk⟩:=H;simp only [di] at hk;exact ⟨_,dB.call hw cm hv kq e1 hc,FO,cb.to hk⟩
      ·rw [e2] at H; exact cb.to H
     ·rw [di] at H;exact ⟨v,dB.of hw ho,FO,cb.to H⟩
    ·rw [di] at H;exact ⟨v,dB.of hw ho,FO,ih _ _ _ _ _ H⟩
   ·exact cb.to H
  dsimp only at H;unfold sj at H;split at H
  ·rename_i hg;exact go (eO hg) H
  ·rename_i j b hg;rcases bj H with H | ⟨oj,kr,H⟩
   ·exact cb.to H
   split at H
   ·rename_i d hd;rcases bj H with H | ⟨x,hx,H⟩
    ·exact cb.to H
    split at H
    ·rename_i t;have n':=zn d _ hx (by simp);split at H
     ·refine y6 H (fun e H2=>?_) (fun e H2=>?_)
      ·subst e;rw [gQ,kY n'] at H2;exact cb.to H2
      ·subst e;rw [gQ,kY n'] at H2;exact cb.to H2
     ·have hw:=Bt hg kr hd hx;split at H
      ·rename_i q;have:(t==b)=true:=by cases t <;> cases b <;> first | rfl | cases q
       rw [this] at hw;exact go hw H
      ·rename_i q;have:(t==b)=false:=by cases t <;> cases b <;> first | rfl | cases q
       rw [this] at hw;rw [di] at H;exact ⟨_,dB.skip hw,fun _ _=>dB.skip hw,ih _ _ _ _ _ H⟩
    ·rw [di] at H;exact ⟨_,dB.skip (yu hg kr hd hx),fun _ _=>dB.skip (yu hg kr hd hx),ih _ _ _ _ _ H⟩
    ·exact cb.to H
   ·exact cb.to H
def oz (E:Env) (ae:FuncId) (R:bY) (ops:Array Oper) (k:List aG):Nat→List Nat→List Oper→List AV→List ag→Prop
 | 0,lits,aW,s,h=>cZ E ae R ops k lits aW s h
 |n+1,lits,aW,s,h =>
  match aW with
  | []=>aa E ae R [] k s h
  |o::l=>sx (b9 ops o) 0 s fun so =>
   let go : Prop := eX E.T E.G o.op so h (oq E o.op so h (fU E o.op so h (jn E.G so o (cZ E ae R ops k lits aW s h) fun f eT => my eT (su E f eT h (cZ E ae R ops k lits aW s h) fun v h' => bJ s o.dst v fun s' => cZ E ae R ops k lits l s' h') fun ds => pr E f ds fun v => bJ s o.dst (.d v) fun s' => cZ E ae R ops k lits l s' h)
         fun v h' => bJ s o.dst v fun s' => cZ E ae R ops k lits l s' h')
         fun v h' => bJ s o.dst v fun s' => oz E ae R ops k n lits l s' h')
     fun v h'=>bJ s o.dst v fun s'=>oz E ae R ops k n lits l s' h'
   sj ops o.guard go (cZ E ae R ops k lits aW s h) fun d b=>aV so d (cZ E ae R ops k lits aW s h) fun
    | .d (.bool t)=>match bV d lits with
     |false=>kX t (fN s d (.d (.bool true)) fun s'=>cZ E ae R ops k (d::lits) aW s' h) (fN s d (.d (.bool false)) fun s'=>cZ E ae R ops k (d::lits) aW s' h)
     |true=>match BX t b with
      |true=>go
      |false=>bJ s o.dst (.d .undef) fun s'=>oz E ae R ops k n lits l s' h
    | .d .undef=>bJ s o.dst (.d .undef) fun s'=>oz E ae R ops k n lits l s' h
    |_=>cZ E ae R ops k lits aW s h
theorem Ti {E:Env} (hE:E.OK) {ae:FuncId} {R:bY} {ops:Array Oper} {k:List aG}:∀ (n:Nat) (lits:List Nat) (aW:List Oper) (s:List AV) (h:List ag),
  oz E ae R ops k n lits aW s h→fW E ops (fun s2 h2=>aa E ae R [] k s2 h2) aW s h:=by
 intro n
 induction n with
 |zero=>intro lits aW s h H; exact cZ.to H
 |succ n ih =>
  intro lits aW s h H;unfold oz at H;split at H
  ·exact H
  rename_i o l;rw [zm] at H;have zn:∀ (d:Nat) (x:AV),(bZ (b9 ops o) 0 s)[d]? = some x→x ≠ .any→s[d]? = some x:=fun d x hx aJ=>by
   rcases ur _ 0 d s x hx with h | ⟨-,h⟩
   ·exact absurd h aJ
   ·exact h
  have go : ik ops o (bZ (b9 ops o) 0 s) true → (eX E.T E.G o.op (bZ (b9 ops o) 0 s) h (oq E o.op (bZ (b9 ops o) 0 s) h (fU E o.op (bZ (b9 ops o) 0 s) h (jn E.G (bZ (b9 ops o) 0 s) o (cZ E ae R ops k lits (o :: l) s h) fun f eT => my eT (su E f eT h (cZ E ae R ops k lits (o :: l) s h) fun v h' => bJ s o.dst v fun s' => cZ E ae R ops k lits l s' h') fun ds => pr E f ds fun v => bJ s o.dst (.d v) fun s' => cZ E ae R ops k lits l s' h)
          fun v h' => bJ s o.dst v fun s' => cZ E ae R ops k lits l s' h')
          fun v h' => bJ s o.dst v fun s' => oz E ae R ops k n lits l s' h')
     fun v h'=>bJ s o.dst v fun s'=>oz E ae R ops k n lits l s' h')→fW E ops (fun s2 h2=>aa E ae R [] k s2 h2) (o::l) s h:=by
   intro hw H;by_cases hA:∃ t,o.op = .alloc t
   ·obtain ⟨t,e⟩:=hA;simp only [e,eX,oq,kn,yK,fU,lQ,nr,sa,ot,jn] at H;rcases bj H with H | ⟨i,hi,H⟩
    ·exact cZ.to H
    split at H
    ·rename_i q1 q2;rw [qb,nf,di,Nat.zero_add] at H;have hz:=Nat.eq_of_beq_eq_true q1;have hp:0<i.size:=r8 q2;exact ⟨_,_,dq.of hw (by rw [e]; exact Ek hE hi hz hp),fun t' e' _=>by rw [e] at e'; cases e'; exact ⟨rfl,i,hi,hz,hp,rfl⟩,ih _ _ _ _ H⟩
    ·exact cZ.to H
   have pt:∀ (h:List ag) (v:AV) (h':List ag),pq E o h v h':=fun h v h' t e=>absurd ⟨t,e⟩ hA;rcases tE hE H with H | ⟨v,h',H,ho⟩
   ·rcases yL hE H with H | ⟨v,h',H,ho⟩
    case inr =>
     rw [di] at H;exact ⟨v,h',dq.of hw ho,pt _ _ _,ih _ _ _ _ H⟩
    rcases tW hE H with H | ⟨v,h',H,ho⟩
    ·rcases BW H with H | ⟨fx,args,ts,f,a1,av,a2,cm,hv,kq,H⟩
     ·exact cZ.to H
     rcases tq (a1++av++a2) (su E f (a1++av++a2) h (cZ E ae R ops k lits (o::l) s h) fun v h'=>bJ s o.dst v fun s'=>cZ E ae R ops k lits l s' h') (fun ds=>pr E f ds fun v=>bJ s o.dst (.d v) fun s'=>cZ E ae R ops k lits l s' h) with ⟨ds,e1,e2⟩ | e2
     ·rw [e2] at H;unfold pr at H;obtain ⟨r,hc,hk⟩:=H;simp only [di] at hk;exact ⟨_,_,dq.call hw cm hv kq e1 hc,pt _ _ _,cZ.to hk⟩
     ·rw [e2] at H;rcases K6 H with H | ⟨ah,r,hp,hc,hn,ai,hk⟩
      ·exact cZ.to H
      rw [di] at hk;exact ⟨_,_,dq.oy hw cm hv kq hc hn ai,pt _ _ _,cZ.to hk⟩
    ·rw [di] at H;exact ⟨v,h',dq.of hw ho,pt _ _ _,cZ.to H⟩
   ·rw [di] at H;exact ⟨v,h',dq.of hw ho,pt _ _ _,ih _ _ _ _ H⟩
  dsimp only at H;unfold sj at H;split at H
  ·rename_i hg;exact go (eO hg) H
  ·rename_i j b hg;rcases bj H with H | ⟨oj,kr,H⟩
   ·exact cZ.to H
   split at H
   ·rename_i d hd;rcases bj H with H | ⟨x,hx,H⟩
    ·exact cZ.to H
    split at H
    ·rename_i t;have n':=zn d _ hx (by simp);split at H
     ·refine y6 H (fun e H2=>?_) (fun e H2=>?_)
      ·subst e;rw [gQ,kY n'] at H2;exact cZ.to H2
      ·subst e;rw [gQ,kY n'] at H2;exact cZ.to H2
     ·have hw:=Bt hg kr hd hx;split at H
      ·rename_i q;have:(t==b)=true:=by cases t <;> cases b <;> first | rfl | cases q
       rw [this] at hw;exact go hw H
      ·rename_i q;have:(t==b)=false:=by cases t <;> cases b <;> first | rfl | cases q
       rw [this] at hw;rw [di] at H;exact ⟨_,_,dq.skip hw,fun _ _ e=>(by rw [hg] at e; cases e),ih _ _ _ _ H⟩
    ·rw [di] at H;exact ⟨_,_,dq.skip (yu hg kr hd hx),fun _ _ e=>(by rw [hg] at e; cases e),ih _ _ _ _ H⟩
    ·exact cZ.to H
   ·exact cZ.to H
section
variable {E:Env} {ae:FuncId} {R:bY} {ops:Array Oper} {k:List aG} {lits:List Nat} {pre aW:List Oper} {s:List AV} {h:List ag}
theorem cb.run (hE:E.OK) (n:Nat) (H:lU E ae R ops k n lits pre aW s h):cb E ae R ops k lits pre aW s h:=by
 unfold cb; exact FN hE n lits pre aW s h H
theorem cZ.run (hE:E.OK) (n:Nat) (H:oz E ae R ops k n lits aW s h):cZ E ae R ops k lits aW s h:=by
 unfold cZ; exact Ti hE n lits aW s h H
theorem aa.draw (hE:E.OK) (hm:E.P.follows .mixedOrders=true) (m n:Nat) {id:Nat} (jP:(pn ops m&&Nat.ble m ops.size)=true) (H:rQ m ops.toList fun pre=>qa m ops.toList fun aW=>lU E ae R ops k n [] pre aW s h) (dL:R.fx.cE=none:=by rfl) (dJ:R.fx.aH=[]:=by rfl):aa E ae R lits (.code (.region id ops true)::k) s h:=by
 rw [Bc,x7] at H;rw [Bool.and_eq_true] at jP;have e:(⟨ae,R.fx.cE,R.fx.aH⟩:ie)=⟨ae,none,[]⟩:=by rw [dL,dJ]
 refine .of ?_;rw [e];refine AW.draw (m:=m) hm jP.1 (Nat.le_of_ble_eq_true jP.2) ?_;have conv:∀ {l:List Oper} {s:List AV} {h:List ag},fW E ops (fun s2 h2=>aa E ae R [] k s2 h2) l s h→fW E ops (fun s2 h2=>AW E R.fx.f0 ⟨⟨ae,R.fx.cE,R.fx.aH⟩,k,s2⟩ R.fx.cls h2 R) l s h:=by
  intro l
  induction l with
  |nil=>intro s h H; exact aa.to H
  |cons o l ih=>intro s h H; obtain ⟨v,h',h1,fT,h2⟩:=H; exact ⟨v,h',h1,fT,ih h2⟩
 have Tj:∀ {l:List Oper} {s:List AV},kv E ops h (fun s'=>fW E ops (fun s2 h2=>aa E ae R [] k s2 h2) (ops.toList.drop m) s' h) l s→kv E ops h (fun s'=>fW E ops (fun s2 h2=>AW E R.fx.f0 ⟨⟨ae,R.fx.cE,R.fx.aH⟩,k,s2⟩ R.fx.cls h2 R) (ops.toList.drop m) s' h) l s:=by
  intro l
  induction l with
  |nil=>intro s H; exact conv H
  |cons o l ih=>intro s H; obtain ⟨v,h1,fT,h2⟩:=H; exact ⟨v,h1,fT,ih h2⟩
 have H2:=Tj (FN hE n [] _ _ s h H);simp only [e] at H2;exact H2
end
end Go.ax
end
section
namespace Go.ax
open Go Go.RowKit
theorem FP {c1 c2 La FQ:Cx} {i:Nat} {bx:ag} (h1:La.own i=c1.own i) (h2:FQ.heap[i]? = c2.heap[i]?) (h3:FQ.own i=c2.own i) (h:tj c1 c2 i bx):tj La FQ i bx:=by
 cases bx <;> simp only [tj,h1,h2,h3] at h ⊢ <;> exact h
def Cx.cG (c:Cx) (o:Obj):Cx:=⟨c.own,c.heap,fun b=>c.au b∨b=c.w.heap.size,c.w.alloc o⟩
def Cx.bare (c:Cx) (bx:ag) (blk:Nat) (au:Nat→Prop):Cx:=⟨fun i=>if i=c.heap.length then some (blk,0) else c.own i,c.heap++[bx],au,c.w⟩
section
variable {G:List (Nat × DV)} {c:Cx} {o:Obj}
theorem Lb (b:Nat) (hb:b<c.w.heap.size) (hn:¬ c.bad b):¬ (c.cG o).bad b∧(c.cG o).w.heap[b]? = c.w.heap[b]? := by
 refine ⟨?_,Below.heap_alloc c.w o b hb⟩;rintro ((h | h) | ⟨i,n,h⟩)
 ·exact hn (.inl h)
 ·omega
 ·exact hn (.inr ⟨i,n,h⟩)
theorem sy {x:AV} {v:Value} (hv:VR c x v):VR (c.cG o) x v:=tn Lb (fun _ _ hi=>ni hi rfl rfl) hv
theorem Cc {x:DV} {v:Value} (hv:VD c.bad c.w x v):VD (c.cG o).bad (c.cG o).w x v:=hv.mono Lb
theorem aE.cG (ho:aE G c):aE G (c.cG o) where
 bD:=fun b hb=>by
  have hs:(c.cG o).w.heap.size=c.w.heap.size+1:=by simp [Cx.cG]
  rcases hb with hb | hb
  ·have:=ho.bD b hb; omega
  ·omega
 bI:=fun i b n hi=>by
  have hs:(c.cG o).w.heap.size=c.w.heap.size+1:=by simp [Cx.cG]
  have:=ho.bI i b n hi;exact ⟨by omega,this.2⟩
 inj:=ho.inj
 sep:=fun i b n hi hb=>hb.elim (ho.sep i b n hi) (fun e=>by have:=(ho.bI i b n hi).1; omega)
 box:=fun i bx hx=>(ho.box i bx hx).gen (fun _ _=>sy) (fun _ _=>Cc) rfl (fun b n hn=>Below.heap_alloc c.w o b (ho.bI i b n hn).1)
 fO:=fun g e hg=>sy (ho.fO g e hg)
variable {bx:ag} {blk:Nat} {au:Nat→Prop}
theorem Tk (ho:aE G c) (eG:∀ b,c.au b↔au b∨b=blk) (b:Nat):(c.bare bx blk au).bad b↔c.bad b:=by
 constructor
 ·rintro (h | ⟨i,n,h⟩)
  ·exact .inl ((eG b).2 (.inl h))
  ·simp only [Cx.bare] at h;split at h
   ·cases h; exact .inl ((eG _).2 (.inr rfl))
   ·exact .inr ⟨i,n,h⟩
 ·rintro (h | ⟨i,n,h⟩)
  ·rcases (eG b).1 h with h | rfl
   ·exact .inl h
   ·exact .inr ⟨c.heap.length,0,by simp [Cx.bare]⟩
  ·refine .inr ⟨i,n,?_⟩;have:=(ho.bI i b n h).2;simp only [Cx.bare];rw [if_neg (by omega)];exact h
theorem Lc (ho:aE G c) (eG:∀ b,c.au b↔au b∨b=blk) (b:Nat) (_:b<c.w.heap.size) (hn:¬ c.bad b):¬ (c.bare bx blk au).bad b∧(c.bare bx blk au).w.heap[b]? = c.w.heap[b]? :=
 ⟨fun h=>hn ((Tk ho eG b).1 h),rfl⟩
theorem Tl {i:Nat} {b:ag} (hi:c.heap[i]? = some b):(c.bare bx blk au).heap[i]? = c.heap[i]? := List.getElem?_append_left (aZ hi)
theorem Ld {i:Nat} {b:ag} (hi:c.heap[i]? = some b):(c.bare bx blk au).own i=c.own i:=by
 have:=aZ hi;simp only [Cx.bare];rw [if_neg (by omega)]
theorem zo (ho:aE G c) (eG:∀ b,c.au b↔au b∨b=blk) {x:AV} {v:Value} (hv:VR c x v):VR (c.bare bx blk au) x v:=tn (Lc ho eG) (fun _ _ hi=>ni hi (Tl hi) (Ld hi)) hv
theorem Tm (ho:aE G c) (eG:∀ b,c.au b↔au b∨b=blk) {x:DV} {v:Value} (hv:VD c.bad c.w x v):VD (c.bare bx blk au).bad (c.bare bx blk au).w x v:=hv.mono (Lc ho eG)
theorem aE.bare (ho:aE G c) (eG:∀ b,c.au b↔au b∨b=blk) (iT:¬ au blk) (iA:jE (c.bare bx blk au) c.heap.length bx):aE G (c.bare bx blk au) where
 bD:=fun b hb=>ho.bD b ((eG b).2 (.inl hb))
 bI:=fun i b n hi=>by
  have hl:(c.bare bx blk au).heap.length=c.heap.length+1:=by simp [Cx.bare]
  simp only [Cx.bare] at hi;split at hi
  ·cases hi;exact ⟨ho.bD _ ((eG _).2 (.inr rfl)),by omega⟩
  ·have:=ho.bI i b n hi;exact ⟨this.1,by omega⟩
 inj:=fun i j b n m hi hj=>by
  simp only [Cx.bare] at hi hj;split at hi <;> split at hj
  ·omega
  ·cases hi; exact absurd ((eG _).2 (.inr rfl)) (ho.sep j _ m hj)
  ·cases hj; exact absurd ((eG _).2 (.inr rfl)) (ho.sep i _ n hi)
  ·exact ho.inj i j b n m hi hj
 sep:=fun i b n hi hb=>by
  simp only [Cx.bare] at hi;split at hi
  ·cases hi; exact iT hb
  ·exact ho.sep i b n hi ((eG b).2 (.inl hb))
 box:=fun i b hx=>by
  rcases Nat.lt_trichotomy i c.heap.length with hi | rfl | hi
  ·have gF:c.heap[i]? = some b:=by
    have:(c.bare bx blk au).heap[i]? = c.heap[i]? := List.getElem?_append_left hi
    rwa [this] at hx
   exact (ho.box i b gF).gen (fun _ _=>zo ho eG) (fun _ _=>Tm ho eG) (Ld gF) (fun _ _ _=>rfl)
  ·have:b=bx:=by simp [Cx.bare] at hx; exact hx.symm
   subst this;exact iA
  ·rw [List.getElem?_eq_none (by simp [Cx.bare]; omega)] at hx;cases hx
 fO:=fun g e hg=>zo ho eG (ho.fO g e hg)
theorem Tn {c2:Cx} {us:List Value} {ty:TypeId} {z:List AV} (ho:aE G c) (hs:Step (c.cG (.cells us.toArray ty)) c2) (wP:aE G c2) (hh:c2.heap=c.heap) (hz:VL (c2.bare (.cells z) c.w.heap.size c.au) z us) :
  aE G (c2.bare (.cells z) c.w.heap.size c.au)∧Step c (c2.bare (.cells z) c.w.heap.size c.au)∧(∀ x v,VR c2 x v→VR (c2.bare (.cells z) c.w.heap.size c.au) x v)∧VR (c2.bare (.cells z) c.w.heap.size c.au) (.ptr c.heap.length 0) (.pointer (some ⟨c.w.heap.size,0,none⟩)):=by
 have eG:∀ b,c2.au b↔c.au b∨b=c.w.heap.size:=fun b=>by rw [hs.au]; exact Iff.rfl
 have iT:¬ c.au c.w.heap.size:=fun h=>by have:=ho.bD _ h; omega
 have bP:(c.cG (.cells us.toArray ty)).w.heap.size=c.w.heap.size+1:=by simp [Cx.cG]
 have bC:(c2.bare (.cells z) c.w.heap.size c.au).own c.heap.length=some (c.w.heap.size,0):=by simp [Cx.bare,hh]
 have dH:(c2.bare (.cells z) c.w.heap.size c.au).heap[c.heap.length]? = some (.cells z):=by simp [Cx.bare,hh]
 have hblk:c2.w.heap[c.w.heap.size]? = some (.cells us.toArray ty (0,0)):=by
  rw [hs.keep _ (by omega) (fun i n hi=>by have:=(ho.bI i _ n hi).1; omega)];exact heap_alloc_new _ _
 refine ⟨wP.bare eG iT ?_,?_,fun _ _=>zo wP eG,.ptr _ _ z _ 0 dH bC⟩
 ·rw [hh];exact ⟨c.w.heap.size,0,us.toArray,ty,bC,hblk,by simpa using hz.1.symm,fun j x v hx hu=>hz.2 j x v hx (by simpa using hu)⟩
 ·exact {
   au:=rfl
   bD:=ho.bD
   os:=hs.os
   tape:=hs.tape
   output:=hs.output
   size:=by have:=hs.size; show c.w.heap.size≤c2.w.heap.size; omega
   keep:=fun b hb hn=>by
    show c2.w.heap[b]? = _;rw [hs.keep b (by omega) hn];exact Below.heap_alloc c.w _ b hb
   dC:=fun i b n hi hb=>by
    simp only [Cx.bare] at hi;split at hi
    ·cases hi; omega
    ·exact hs.dC i b n hi (by omega)
   boxes:=fun i b hi=>by
    have:=hs.boxes i b hi;have ai:=aZ hi
    exact FP (c1:=c.cG (.cells us.toArray ty)) rfl (List.getElem?_append_left (by rw [hh]; exact ai)) (by simp only [Cx.bare]; rw [if_neg (by rw [hh]; omega)]) this }
end
section
variable {E:Env} {ops:Array Oper}
theorem wQ (Le:∀ i j oi oj,i<j→ops[i]? = some oi→ops[j]? = some oj→jo ops oi oj=true→ku ops i j) {q:List (Oper × AV)} (dH:∀ (k:Nat) (o:Oper) (v:AV),q[k]? = some (o,v)→ops[k]? = some o) {listed:Array Bool} (hd:DC ops listed) {i:Nat} (hi:i∈Region.ready .any ops listed)
  {o:Oper} {v:AV} (dj:q[i]? = some (o,v)) {s0:List AV} {c:Cx} {a:Act} (h4:VS c (cur q (aN listed) 0 s0) a.tmps) :
  (∀ (c':Cx) (u:Value),(∀ x v,VR c x v→VR c' x v)→VR c' v u→VS c' (cur q (aN (listed.setIfInBounds i true)) 0 s0) (a.put o.dst u).tmps)∧VS c (bZ (b9 ops o) 0 (cur q (fun k=>decide (k<i)) 0 s0)) a.tmps:=by
 obtain ⟨dF,dT⟩:=mJ hd hi;have ec:=dH i o v dj;have wr:∀ k o' v',q[k]? = some (o',v')→(k<i→jo ops o' o=true→aN listed k=true)∧(i<k→jo ops o o'=true→aN listed k=false):=fun k o' v' hk=>by
  have aK:=dH k o' v' hk;refine ⟨fun ai uw=>hd.ready hi (Le k i o' o ai aK ec uw),fun ai uw=>?_⟩;cases hl:aN listed k with
  |false=>rfl
  |true=>have:=hd.dep (Le i k o o' ai ec aK uw) hl; rw [dF] at this; cases this
 have bP:i<listed.size:=by rw [hd.1]; exact dT
 have cL:=fun q=>sq (i:=q) bP;refine ⟨fun c' u k3 k4=>?_,?_⟩
 ·refine ⟨by rw [lT]; have:=h4.1; rw [lT] at this; cases gV:o.dst <;> simp [Act.put,this],fun t x u' hx qv=>?_⟩;by_cases eA:o.dst=some t
  ·have e1:(cur q (aN (listed.setIfInBounds i true)) 0 s0)[t]? = (cur q (fun k=>decide (k<0+i+1)) 0 s0)[t]? := by
    refine qO _ _ _ 0 s0 s0 rfl rfl (fun k o' v' fS fE=>?_);rw [Nat.zero_add,Nat.zero_add,cL];rcases Nat.lt_trichotomy k i with ai | rfl | qB
    ·rw [(wr k o' v' fS).1 ai (ss fE (List.mem_append_left _ (by simp [eA])))]; simp; omega
    ·simp
    ·rw [(wr k o' v' fS).2 qB (ss eA (List.mem_append_left _ (by simp [fE])))]; simp; omega
   rw [e1,B8 _ 0 i s0 o v dj,eA] at hx;have jr:t<(cur q (fun k=>decide (k<0+i)) 0 s0).length:=by
    have:=aZ hx
    simpa [bG] using this
   rw [bG,List.getElem?_set_self jr] at hx;cases hx;have FJ:t<a.tmps.size:=by rw [← h4.1,lT]; rwa [lT] at jr
   have uz:(a.tmps.setIfInBounds t u)[t]? = some u':=by simpa [Act.put,eA] using qv
   rw [Array.getElem?_setIfInBounds_self_of_lt FJ] at uz;cases uz;exact k4
  ·have e1:(cur q (aN (listed.setIfInBounds i true)) 0 s0)[t]? = (cur q (aN listed) 0 s0)[t]? := by
    refine qO _ _ _ 0 s0 s0 rfl rfl (fun k o' v' fS fE=>?_);rw [Nat.zero_add,cL];have:k≠i:=fun e=>by
     subst e;rw [dj] at fS;cases fS;exact eA fE
    simp [this]
   rw [e1] at hx;refine k3 _ _ (h4.2 t x u' hx ?_);cases gV:o.dst with
   |none=>simpa [Act.put,gV] using qv
   |some d =>
    rw [gV] at eA;have aJ:d≠t:=fun e=>eA (by rw [e])
    simpa [Act.put,gV,Array.getElem?_setIfInBounds_ne aJ] using qv
 ·refine ⟨by rw [B9,lT]; have:=h4.1; rwa [lT] at this,fun t x u hx hu=>?_⟩;rcases ur _ 0 t _ x hx with rfl | ⟨hk,hx⟩
  ·exact .any u
  ·rw [Nat.zero_add] at hk;refine h4.2 t x u ?_ hu;rw [← hx];refine qO _ _ _ 0 s0 s0 rfl rfl (fun k o' v' fS fE=>?_);rw [Nat.zero_add];rcases Nat.lt_trichotomy k i with ai | rfl | qB
   ·rw [(wr k o' v' fS).1 ai (ss fE (List.mem_append_right _ hk))]; simp [ai]
   ·rw [dF]; simp
   ·rw [(wr k o' v' fS).2 qB (K3 fE hk)]; simp; omega
structure zp (ops:Array Oper) (m M:Nat):Prop where
 low:∀ j o e,ops[j]? = some o→e∈o.after→Region.binds .any e=true→e.on<j
 pair:∀ i j oi oj,i<j→ops[i]? = some oi→ops[j]? = some oj→jo ops oi oj=true→ku ops i j
 aW:∀ i j oi oj,i<j→M≤j→ops[i]? = some oi→ops[j]? = some oj→(i<m∧jO oi=true)∨ku ops i j
theorem zp.pn {m M:Nat} (h:zp ops m M):wO ops ops.size:=⟨h.low,h.pair,fun i j oi oj _ hj _ kr=>by
 have:=(Array.getElem?_eq_some_iff.1 kr).1; omega⟩
structure XP (E:Env) (ops:Array Oper) (m M:Nat) (s0:List AV) (h:List ag) (pl:List (Oper × AV)) (hp:Nat→List ag):Prop where
 FT:pl.map (·.1)=ops.toList
 lV:∀ j o v,j<m→pl[j]? = some (o,v)→jO o=true→∀ h',dB E ops o (cur pl (fun k=>decide (k<j)) 0 s0) h' v
 pre:∀ j o v,j<m→pl[j]? = some (o,v)→jO o=false→dB E ops o (cur pl (fun k=>decide (k<j)) 0 s0) h v
 aW:∀ j o v,M≤j→pl[j]? = some (o,v)→dq E ops o (cur pl (fun k=>decide (k<j)) 0 s0) (hp j) v (hp (j+1))
theorem qR {pl:List (Oper × AV)} (lL:pl.map (·.1)=ops.toList):pl.length=ops.size∧∀ (k:Nat) (o:Oper) (v:AV),pl[k]? = some (o,v)→ops[k]? = some o:=by
 refine ⟨by have:=congrArg List.length lL; simpa using this,fun k o v hk=>?_⟩;have:=congrArg (·[k]?) lL;simp only [List.getElem?_map,hk,Option.map_some] at this
 simpa using this.symm
theorem zq {L:Nat→Bool} {n i:Nat} (h:er L n≤0) (hi:i<n):L i=true:=by
 cases hl:L i with
 |true=>rfl
 |false=>have:=FH hl n hi; omega
theorem To {m M:Nat} (hc:zp ops m M) (Tp:m≤M) {s0:List AV} {h:List ag} {pl:List (Oper × AV)} {hp:Nat→List ag} (hx:XP E ops m M s0 h pl hp)
  {Q:Exit→Act→World→Prop} {Kf:List AV→List ag→Prop} {c0:Cx} (fy:Kf (cur pl (fun k=>decide (k<pl.length)) 0 s0) (hp ops.size))
  (hQ:∀ (a:Act) (c:Cx) (s:List AV) (h:List ag),Kf s h→aE E.G c→c.heap=h→a.defers=[]→VS c s a.tmps→Step c0 c→Q .normal a c.w) :
  ∀ (f:Nat) (listed:Array Bool) (a:Act) (c:Cx) (J:Nat),M≤J→J≤ops.size→aE E.G c→c.heap=hp J→a.defers=[]→VS c (cur pl (aN listed) 0 s0) a.tmps→Step c0 c→DC ops listed →
   (∀ i o,ops[i]? = some o→i<J→aN listed i=true∨(i<m∧jO o=true))→(∀ i,J≤i→aN listed i=false)→er (aN listed) ops.size≤f→wpAny E.P .any ops Q f listed a c.w:=by
 obtain ⟨hlen,dH⟩:=qR hx.FT;have done:∀ (listed:Array Bool) (a:Act) (c:Cx) (J:Nat),J≤ops.size→aE E.G c→c.heap=hp J→a.defers=[]→VS c (cur pl (aN listed) 0 s0) a.tmps→Step c0 c→(∀ i,J≤i→aN listed i=false)→(∀ i,i<ops.size→aN listed i=true)→Q .normal a c.w:=by
  intro listed a c J hJ h1 h2 h3 h4 h5 hn aT;have Tq:J=ops.size:=by
   rcases Nat.lt_or_ge J ops.size with h | h
   ·have:=aT J h; rw [hn J (Nat.le_refl _)] at this; cases this
   ·omega
  subst Tq;have e:cur pl (aN listed) 0 s0=cur pl (fun k=>decide (k<pl.length)) 0 s0:=by
   congr 1
   funext i;rcases Nat.lt_or_ge i ops.size with h | h
   ·rw [aT i h]; simp [hlen,h]
   ·rw [hn i h]; simp [hlen]; omega
  rw [e] at h4;exact hQ a c _ _ fy h1 h2 h3 h4 h5
 intro f
 induction f with
 |zero =>
  intro listed a c J FU hJ h1 h2 h3 h4 h5 hd gw fa iH;have aT:∀ i,i<ops.size→aN listed i=true:=fun i hi=>zq iH hi;refine ⟨?_,done listed a c J hJ h1 h2 h3 h4 h5 fa aT⟩;apply List.eq_nil_iff_forall_not_mem.2;intro i hi;obtain ⟨k1,k2⟩:=mJ hd hi;rw [aT i k2] at k1;cases k1
 |succ f ih =>
  intro listed a c J FU hJ h1 h2 h3 h4 h5 hd gw fa iH;refine ⟨fun hr=>?_,fun i hi=>?_⟩
  ·refine done listed a c J hJ h1 h2 h3 h4 h5 fa (fun i hi=>?_);cases hl:aN listed i with
   |true=>rfl
   |false =>
    obtain ⟨k,-,hk⟩:=uu hc.pn hd hi hl;rw [hr] at hk;cases hk
  obtain ⟨dF,dT⟩:=mJ hd hi;obtain ⟨⟨o,v⟩,dj⟩:∃ p,pl[i]? = some p:=⟨pl[i]'(by omega),by rw [List.getElem?_eq_getElem]⟩;have ec:=dH i o v dj;obtain ⟨lg,kx⟩:=wQ hc.pair dH hd hi dj h4;have bP:i<listed.size:=by rw [hd.1]; exact dT
  have cL:=fun q=>sq (i:=q) bP;have lW:er (aN (listed.setIfInBounds i true)) ops.size≤f:=by
   have:=(uv (L:=aN listed) (L':=aN (listed.setIfInBounds i true)) (j:=i) (fun q hq=>by rw [cL]; simp [hq]) dF (by rw [cL]; simp) ops.size).1 dT;omega
  have mK:∀ u:Value,(a.put o.dst u).defers=[]:=fun u=>by cases gV:o.dst <;> simp [Act.put,h3]
  rcases Nat.lt_or_ge i J with ai | aP
  ·rcases gw i o ec ai with hl | ⟨FI,iF⟩
   ·rw [dF] at hl; cases hl
   ·refine hx.lV i o v FI dj iF (hp J) c a h1 h2 h3 kx i ec _ _ (fun c' u k1 k2 k3 k4=>?_);refine ih _ _ c' J FU hJ k1 k2 (mK u) (lg c' u (fun _ _=>k3.vr) k4) (h5.trans k3) (hd.set hi) (fun q o' hq oA=>?_) (fun q hq=>by rw [cL,fa q hq]; simp; omega) lW;rcases gw q o' hq oA with hl | hl
    ·rw [cL,hl]; simp
    ·exact .inr hl
  ·have Tr:i=J:=by
    rcases Nat.lt_or_ge J i with ai | hle
    ·obtain ⟨oJ,Ts⟩:∃ oJ,ops[J]? = some oJ:=⟨ops[J]'(by omega),by simp⟩;rcases hc.aW J i oJ o ai (by omega) Ts ec with ⟨h,-⟩ | h
     ·omega
     ·have:=hd.ready hi h;rw [fa J (Nat.le_refl _)] at this;cases this
    ·omega
   subst Tr;refine hx.aW i o v FU dj c a h1 h2 h3 kx i ec _ _ (fun c' u k1 k2 k3 k4=>?_);refine ih _ _ c' (i+1) (by omega) (by omega) k1 k2 (mK u) (lg c' u (fun _ _=>k3.vr) k4) (h5.trans k3) (hd.set hi) (fun q o' hq oA=>?_) (fun q hq=>by rw [cL,fa q (by omega)]; simp; omega) lW;by_cases lX:q=i
   ·subst lX; left; rw [cL]; simp
   ·rcases gw q o' hq (by omega) with hl | hl
    ·left; rw [cL,hl]; simp
    ·exact .inr hl
def Mid (G:List (Nat × DV)) (c0:Cx) (d:Option Nat) (us:List Value) (ty:TypeId) (h:List ag) (done:Bool) (a:Act) (c:Cx):Prop:=match done with
 |false=>Step c0 c
 |true=>∃ cA:Cx,aE G cA∧cA.heap=h∧Step c0 cA∧Step (cA.cG (.cells us.toArray ty)) c∧∀ t,d=some t→t<a.tmps.size→a.tmps[t]? = some (.pointer (some ⟨cA.w.heap.size,0,none⟩))
def uA (pl:List (Oper × AV)) (m:Nat) (ox:Oper):List (Oper × AV):=pl.set m (ox,.any)
theorem Tt {pl:List (Oper × AV)} {m i:Nat} {ox:Oper} (hi:i≤m) (s:List AV):cur (uA pl m ox) (fun k=>decide (k<i)) 0 s=cur pl (fun k=>decide (k<i)) 0 s:=by
 have gen:∀ (pl:List (Oper × AV)) (m j:Nat) (s:List AV),i≤j+m→cur (pl.set m (ox,.any)) (fun k=>decide (k<i)) j s=cur pl (fun k=>decide (k<i)) j s:=by
  intro pl
  induction pl with
  |nil=>intro m j s _; simp
  |cons p pl ih =>
   intro m j s hm;cases m with
   |zero =>
    obtain ⟨o,v⟩:=p;have e:decide (j<i)=false:=decide_eq_false (by omega);simp only [List.set_cons_zero,cur,e,Bool.false_eq_true,if_false]
   |succ m =>
    obtain ⟨o,v⟩:=p;simp only [List.set_cons_succ,cur];exact ih m (j+1) _ (by omega)
 exact gen pl m 0 s (by omega)
theorem Tu (hE:E.OK) {m:Nat} (hc:zp ops m (m+1)) (qP:m+1≤ops.size) {ox:Oper} (oB:ops[m]? = some ox) {ty:TypeId} (cm:ox.op = .alloc ty) (Cd:ox.guard=none) {ti:bB} (cj:E.T[ty]? = some ti) (hz:ti.zero.length=ti.size) (cW:0<ti.size)
  {s0:List AV} {h:List ag} {pl:List (Oper × AV)} {hp:Nat→List ag} (hx:XP E ops m (m+1) s0 h pl hp) (zr:pl[m]? = some (ox,.ptr h.length 0)) (Tv:hp (m+1)=h++[.cells (ti.zero.map .d)])
  {Q:Exit→Act→World→Prop} {Kf:List AV→List ag→Prop} {c0:Cx} (fy:Kf (cur pl (fun k=>decide (k<pl.length)) 0 s0) (hp ops.size))
  (hQ:∀ (a:Act) (c:Cx) (s:List AV) (h:List ag),Kf s h→aE E.G c→c.heap=h→a.defers=[]→VS c s a.tmps→Step c0 c→Q .normal a c.w) :
  ∃ us:List Value,∀ (f:Nat) (listed:Array Bool) (a:Act) (c:Cx),aE E.G c→c.heap=h→a.defers=[]→VS c (cur (uA pl m ox) (aN listed) 0 s0) a.tmps→Mid E.G c0 ox.dst us ty h (aN listed m) a c→DC ops listed →
   (∀ i,m+1≤i→aN listed i=false)→er (aN listed) ops.size≤f→wpAny E.P .any ops Q f listed a c.w:=by
 obtain ⟨z,jG,gg⟩:=Ej (hE.types ty ti cj) hz cW;obtain ⟨us,o6,-⟩:=gg c0;have jF:∀ c:Cx,VL c (ti.zero.map .d) us:=fun c=>by
  obtain ⟨Tx,e,hv⟩:=gg c;rw [o6] at e;have:us=Tx:=by simpa using e
  rw [this]; exact hv
 refine ⟨us,?_⟩;obtain ⟨hlen,dH⟩:=qR hx.FT;have Lf:(uA pl m ox)[m]? = some (ox,.any):=List.getElem?_set_self (by omega);have eR:∀ k,k≠m→(uA pl m ox)[k]? = pl[k]? := fun k hk=>List.getElem?_set_ne (Ne.symm hk);have Lg:∀ k o v,(uA pl m ox)[k]? = some (o,v)→ops[k]? = some o:=fun k o v hk=>by
  by_cases FV:k=m
  ·subst FV; rw [Lf] at hk; cases hk; exact oB
  ·rw [eR k FV] at hk; exact dH k o v hk
 have fin:∀ (f:Nat) (listed:Array Bool) (a:Act) (c:Cx),aE E.G c→c.heap=h→a.defers=[]→VS c (cur (uA pl m ox) (aN listed) 0 s0) a.tmps→Mid E.G c0 ox.dst us ty h (aN listed m) a c→DC ops listed→(∀ i o,ops[i]? = some o→i<m+1→aN listed i=true∨(i<m∧jO o=true))→(∀ i,m+1≤i→aN listed i=false)→er (aN listed) ops.size≤f→wpAny E.P .any ops Q f listed a c.w:=by
  intro f listed a c h1 h2 h3 h4 h5 hd aT hs iH;have FW:aN listed m=true:=by
   rcases aT m ox oB (by omega) with hl | ⟨hl,-⟩
   ·exact hl
   ·omega
  rw [FW] at h5;obtain ⟨cA,k1,k2,k3,k4,k5⟩:=h5;obtain ⟨q1,q2,q3,q4⟩:=Tn (z:=ti.zero.map .d) k1 k4 h1 (h2.trans k2.symm) (jF _);refine To hc (by omega) hx fy hQ f listed a (c.bare (.cells (ti.zero.map .d)) cA.w.heap.size cA.au) (m+1) (Nat.le_refl _) qP q1 (by rw [Tv]; simp [Cx.bare,h2]) h3 ?_ (k3.trans q2) hd aT hs iH;refine ⟨by have:=h4.1; rw [lT] at this ⊢; exact this,fun t x v zt hv=>?_⟩;by_cases eA:ox.dst=some t
  ·have jr:t<a.tmps.size:=(Array.getElem?_eq_some_iff.1 hv).1;have Ty:∀ k o' v',pl[k]? = some (o',v')→o'.dst=some t→k≤m→(k=m∨aN listed k=true):=fun k o' v' hk fE FV=>by
    rcases Nat.lt_or_ge k m with ai | aP
    ·exact .inr (hd.dep (hc.pair k m o' ox ai (dH k o' v' hk) oB (ss fE (List.mem_append_left _ (by simp [eA])))) FW)
    ·exact .inl (by omega)
   have e1:(cur pl (aN listed) 0 s0)[t]? = (cur pl (fun k=>decide (k<0+m+1)) 0 s0)[t]? := by
    refine qO _ _ _ 0 s0 s0 rfl rfl (fun k o' v' fS fE=>?_);rw [Nat.zero_add,Nat.zero_add];rcases Nat.lt_or_ge k (m+1) with ai | aP
    ·rcases Ty k o' v' fS fE (by omega) with rfl | hl
     ·rw [FW]; simp
     ·rw [hl]; simp [ai]
    ·rw [hs k aP]; simp; omega
   rw [e1,B8 _ 0 m s0 ox _ zr,eA] at zt;have Tz:t<(cur pl (fun k=>decide (k<0+m)) 0 s0).length:=by
    have:=aZ zt
    simpa [bG] using this
   rw [bG,List.getElem?_set_self Tz] at zt;cases zt;rw [k5 t eA jr] at hv;cases hv;rw [← k2];exact q4
  ·refine q3 x v (h4.2 t x v ?_ hv);rw [← zt];have gen:∀ (q:List (Oper × AV)) (m' j:Nat) (s s':List AV),s.length=s'.length→s[t]? = s'[t]? → (∀ o v,q[m']? = some (o,v)→o.dst≠some t)→(cur (q.set m' (ox,.any)) (aN listed) j s)[t]? = (cur q (aN listed) j s')[t]? := by
    intro q
    induction q with
    |nil=>intro m' j s s' _ hs _; exact hs
    |cons p q ih =>
     intro m' j s s' hl hs hq;obtain ⟨po,pv⟩:=p;have kU:∀ (b:Bool) (r:List AV) (o:Oper) (v:AV),(if b then bG r o.dst v else r).length=r.length:=fun b r o v=>by cases b <;> cases o.dst <;> simp [bG]
     cases m' with
     |zero =>
      simp only [List.set_cons_zero,cur];refine qO _ _ _ _ _ _ (by rw [kU,kU,hl]) ?_ (fun _ _ _ _ _=>rfl);have:=hq po pv rfl;cases aN listed j <;> simp [FF this,FF eA,hs]
     |succ m' =>
      simp only [List.set_cons_succ,cur];refine ih m' (j+1) _ _ (by rw [kU,kU,hl]) ?_ (fun o v ho=>hq o v (by simpa using ho));cases aN listed j
      ·simpa using hs
      ·simp only [if_true]; exact KY hl hs
   exact gen pl m 0 s0 s0 rfl rfl (fun o v ho=>by rw [zr] at ho; cases ho; exact eA)
 intro f
 induction f with
 |zero =>
  intro listed a c h1 h2 h3 h4 h5 hd hs iH;exact fin 0 listed a c h1 h2 h3 h4 h5 hd (fun i o ho _ => .inl (zq iH (Array.getElem?_eq_some_iff.1 ho).1)) hs iH
 |succ f ih =>
  intro listed a c h1 h2 h3 h4 h5 hd hs iH;by_cases aT:∀ i o,ops[i]? = some o→i<m+1→aN listed i=true∨(i<m∧jO o=true)
  ·exact fin (f+1) listed a c h1 h2 h3 h4 h5 hd aT hs iH
  ·have:∃ i o,ops[i]? = some o∧i<m+1∧aN listed i=false∧¬ (i<m∧jO o=true):=by
    apply Classical.byContradiction;intro aJ;apply aT;intro i o ho hi;cases hl:aN listed i with
    |true=>exact .inl rfl
    |false =>
     right;apply Classical.byContradiction;intro hf;exact aJ ⟨i,o,ho,hi,hl,hf⟩
   obtain ⟨i0,o0,TA,iC,jq,TB⟩:=this;refine ⟨fun hr=>?_,fun i hi=>?_⟩
   ·obtain ⟨i,-,hi⟩:=uu hc.pn hd (by omega) jq;rw [hr] at hi;cases hi
   obtain ⟨dF,dT⟩:=mJ hd hi;have FI:i<m+1:=by
    rcases Nat.lt_or_ge i (m+1) with h | h
    ·exact h
    ·rcases hc.aW i0 i o0 ops[i] (by omega) h TA (by simp [dT]) with hf | lY
     ·exact absurd hf TB
     ·have:=hd.ready hi lY;rw [jq] at this;cases this
   have bP:i<listed.size:=by rw [hd.1]; exact dT
   have cL:=fun q=>sq (i:=q) bP;have lW:er (aN (listed.setIfInBounds i true)) ops.size≤f:=by
    have:=(uv (L:=aN listed) (L':=aN (listed.setIfInBounds i true)) (j:=i) (fun q hq=>by rw [cL]; simp [hq]) dF (by rw [cL]; simp) ops.size).1 dT;omega
   have wN:∀ q,m+1≤q→aN (listed.setIfInBounds i true) q=false:=fun q hq=>by rw [cL,hs q hq]; simp; omega
   rcases Nat.lt_or_ge i m with ai | aP
   ·obtain ⟨⟨o,v⟩,dj⟩:∃ p,pl[i]? = some p:=⟨pl[i]'(by omega),by rw [List.getElem?_eq_getElem]⟩;have ec:=dH i o v dj;have TC:(uA pl m ox)[i]? = some (o,v):=by rw [eR i (by omega)]; exact dj
    obtain ⟨lg,kx⟩:=wQ hc.pair Lg hd hi TC h4;rw [Tt (by omega)] at kx;have mK:∀ u:Value,(a.put o.dst u).defers=[]:=fun u=>by cases gV:o.dst <;> simp [Act.put,h3]
    have qQ:dB E ops o (cur pl (fun k=>decide (k<i)) 0 s0) h v:=by
     cases iF:jO o with
     |true=>exact hx.lV i o v ai dj iF h
     |false=>exact hx.pre i o v ai dj iF
    refine qQ c a h1 h2 h3 kx i ec _ _ (fun c' u k1 k2 k3 k4=>?_);refine ih _ _ c' k1 k2 (mK u) (lg c' u (fun _ _=>k3.vr) k4) ?_ (hd.set hi) wN lW;have FY:aN (listed.setIfInBounds i true) m=aN listed m:=by rw [cL]; simp; omega
    rw [FY];cases FZ:aN listed m with
    |false=>rw [FZ] at h5; exact Step.trans h5 k3
    |true =>
     rw [FZ] at h5;obtain ⟨cA,p1,p2,p3,p4,p5⟩:=h5;refine ⟨cA,p1,p2,p3,p4.trans k3,fun t ht jr=>?_⟩;have aJ:o.dst≠some t:=fun e=>by
      have:=hd.dep (hc.pair i m o ox ai ec oB (ss e (List.mem_append_left _ (by simp [ht])))) FZ;rw [dF] at this;cases this
     cases gV:o.dst with
     |none=>rw [gV] at jr; simp only [Act.put] at jr ⊢; exact p5 t ht jr
     |some d =>
      have F0:d≠t:=fun e=>aJ (by rw [gV,e]);rw [gV] at jr;simp only [Act.put,Array.size_setIfInBounds] at jr;simp only [Act.put,Array.getElem?_setIfInBounds_ne F0];exact p5 t ht jr
   ·obtain rfl:i=m:=by omega
    obtain ⟨lg,-⟩:=wQ hc.pair Lg hd hi Lf h4;rw [dF] at h5;have h5:Step c0 c:=h5;have cR:(execOp a.eval ox).run E.P c.w = .ok (.value (.pointer (some ⟨c.w.heap.size,0,none⟩))) (c.w.alloc (.cells us.toArray ty)):=by
     simp only [execOp,cm,Instr.alloc,newVar,newRow,newObj,Sem.run_bind,Sem.run,Result.andThen_ok,Sem.run_pure,jG,o6];rfl
    unfold wpOp;have TD:Region.wanted ox (yielded ops a.tmps)=true:=by simp [Region.wanted,Cd]
    simp only [oB,TD,if_true];left;unfold Oper.wp;rw [cR];refine ih _ _ (c.cG (.cells us.toArray ty)) h1.cG h2 (by cases gV:ox.dst <;> simp [Act.put,h3]) (lg _ _ (fun _ _=>sy) (.any _)) ?_ (hd.set hi) wN lW;have FY:aN (listed.setIfInBounds i true) i=true:=by rw [cL]; simp
    rw [FY];refine ⟨c,h1,h2,h5,Step.refl _ h1.cG.bD,fun t ht jr=>?_⟩;rw [ht] at jr ⊢;simp only [Act.put,Array.size_setIfInBounds] at jr;simp only [Act.put];exact Array.getElem?_setIfInBounds_self_of_lt jr
end
end Go.ax
end
section
namespace Go.ax
open Go Go.RowKit
def Lh (ops:Array Oper) (m M:Nat):Bool :=
 let bs:=bits ops.toList []
 (List.range ops.size).all fun j=>match ops[j]? with
  |none=>true
  |some oj=>(oj.after.toList.all fun e => !Region.binds .any e||decide (e.on<j))&&(List.range j).all fun i=>match ops[i]? with
   |none=>true
   |some oi=>(bs.getD j 0).testBit i||(!jo ops oi oj&&(decide (j<M)||(decide (i<m)&&jO oi)))
theorem TE {ops:Array Oper} {m M:Nat} (h:Lh ops m M=true):zp ops m M:=by
 have hb:=zk ops ops.toList [] rfl (fun j i h=>by simp at h);have aT:∀ j oj,ops[j]? = some oj→(oj.after.toList.all fun e => !Region.binds .any e||decide (e.on<j))=true∧∀ i oi,i<j→ops[i]? = some oi→((bits ops.toList []).getD j 0).testBit i=true∨(jo ops oi oj=false∧(j<M∨(i<m∧jO oi=true))):=fun j oj hj=>by
  have ai:j<ops.size:=(Array.getElem?_eq_some_iff.1 hj).1;have h1:=List.all_eq_true.1 h j (List.mem_range.2 ai);simp only [hj,Bool.and_eq_true] at h1;refine ⟨h1.1,fun i oi hi ec=>?_⟩;have h2:=List.all_eq_true.1 h1.2 i (List.mem_range.2 hi);simp only [ec,Bool.or_eq_true,Bool.and_eq_true,decide_eq_true_eq,Bool.not_eq_true'] at h2;exact h2
 refine ⟨fun j o e hj he im=>?_,fun i j oi oj dA hi hj hc=>?_,fun i j oi oj dA hm hi hj=>?_⟩
 ·have:=List.all_eq_true.1 (aT j o hj).1 e (by simpa using he)
  simpa [im] using this
 ·rcases (aT j oj hj).2 i oi dA hi with h | ⟨h,-⟩
  ·exact hb j i h
  ·rw [hc] at h; cases h
 ·rcases (aT j oj hj).2 i oi dA hi with h | ⟨-,h | h⟩
  ·exact .inr (hb j i h)
  ·omega
  ·exact .inl h
theorem F1:∀ (a b:List (Oper × AV)) (L:Nat→Bool) (i:Nat) (s:List AV),cur (a++b) L i s=cur b L (i+a.length) (cur a L i s)
 | [],b,L,i,s=>rfl
 |(o,v)::a,b,L,i,s=>by
  rw [List.cons_append,cur,cur,F1 a b L (i+1),List.length_cons,show i+1+a.length=i+(a.length+1) by omega]
theorem Li:∀ (a:List (Oper × AV)) (L L':Nat→Bool) (i:Nat) (s:List AV),(∀ k,k<a.length→L (i+k)=L' (i+k))→cur a L i s=cur a L' i s
 | [],_,_,_,_,_=>rfl
 |(o,v)::a,L,L',i,s,h=>by
  have h0:=h 0 (by simp);rw [Nat.add_zero] at h0;rw [cur,cur,h0];exact Li a L L' (i+1) _ (fun k hk=>by have:=h (k+1) (by simpa using hk); rwa [show i+(k+1)=i+1+k by omega] at this)
theorem wR (d:Nat):∀ (a:List (Oper × AV)) (L:Nat→Bool) (i:Nat) (s:List AV),cur a L (i+d) s=cur a (fun k=>L (k+d)) i s
 | [],_,_,_=>rfl
 |(o,v)::a,L,i,s=>by
  rw [cur,cur,show i+d+1=i+1+d by omega,wR d a L (i+1)]
section
variable {E:Env} {ops:Array Oper}
theorem fW.lay {K:List AV→List ag→Prop}:∀ {l:List Oper} {s:List AV} {h:List ag},fW E ops K l s h→∃ (pl:List (Oper × AV)) (hs:Nat→List ag),pl.map (·.1)=l∧hs 0=h∧K (cur pl (fun k=>decide (k<pl.length)) 0 s) (hs pl.length) ∧
  ∀ (j:Nat) (o:Oper) (v:AV),pl[j]? = some (o,v)→dq E ops o (cur pl (fun k=>decide (k<j)) 0 s) (hs j) v (hs (j+1))∧pq E o (hs j) v (hs (j+1))
 | [],s,h,H=>⟨[],fun _=>h,rfl,rfl,H,fun j o v hj=>by simp at hj⟩
 |o::l,s,h,H=>by
  obtain ⟨v,h',h1,fT,H⟩:=H;obtain ⟨pl,hs,k1,k2,k3,k4⟩:=fW.lay H;have shift:∀ (n:Nat) (s:List AV),cur pl (fun k=>decide (k<n+1)) (0+1) s=cur pl (fun k=>decide (k<n)) 0 s:=fun n s=>by
   rw [wR 1]
   congr 1
   funext k;simp
  refine ⟨(o,v)::pl,fun n=>match n with | 0=>h | n+1=>hs n,by simp [k1],rfl,?_,fun j o' v' hj=>?_⟩
  ·rw [cur];simp only [List.length_cons,Nat.zero_lt_succ,decide_true,if_true];rw [shift];exact k3
  ·cases j with
   |zero =>
    simp at hj;obtain ⟨rfl,rfl⟩:=hj;rw [jN _ _ _ _ (fun k _=>decide_eq_false (by omega))];simp only [k2];exact ⟨h1,fT⟩
   |succ j =>
    have:=k4 j o' v' (by simpa using hj);rw [cur];simp only [Nat.zero_lt_succ,decide_true,if_true];rw [shift];exact this
theorem TF {m M:Nat} (Tp:m≤M) {s:List AV} {h:List ag} {K:List AV→List ag→Prop} (hm:m≤ops.size) (H:kv E ops h (fun s'=>fW E ops K (ops.toList.drop m) s' h) (ops.toList.take m) s) :
  ∃ (pl:List (Oper × AV)) (hp:Nat→List ag),XP E ops m M s h pl hp∧hp m=h∧K (cur pl (fun k=>decide (k<pl.length)) 0 s) (hp ops.size)∧∀ (o:Oper) (v:AV),pl[m]? = some (o,v)→pq E o h v (hp (m+1)):=by
 obtain ⟨p1,a1,H2,a3⟩:=kv.lay H;obtain ⟨p2,hs,b1,b2,b3,b4⟩:=fW.lay H2;have kh:p1.length=m:=by
  have:=congrArg List.length a1;simp at this;omega
 have rP:p2.length=ops.size - m:=by
  have:=congrArg List.length b1
  simpa using this
 have low:∀ j,j≤m→cur (p1++p2) (fun k=>decide (k<j)) 0 s=cur p1 (fun k=>decide (k<j)) 0 s:=fun j hj=>by
  rw [F1,jN p2 _ _ _ (fun k _=>decide_eq_false (by omega))]
 have high:∀ j,cur (p1++p2) (fun k=>decide (k<m+j)) 0 s=cur p2 (fun k=>decide (k<j)) 0 (cur p1 (fun k=>decide (k<p1.length)) 0 s):=fun j=>by
  rw [F1,wR,kh];have e1:(fun k=>decide (k+m<m+j))=(fun k=>decide (k<j)):=by funext k; simp; omega
  rw [e1]
  congr 1
  refine Li p1 _ _ 0 s (fun k hk=>?_);have e2:0+k<m:=by omega
  have e3:0+k<m+j:=by omega
  simp only [e2,e3]
 have Lj:∀ j,j<m→(p1++p2)[j]? = p1[j]? := fun j hj=>List.getElem?_append_left (by omega);have Lk:∀ j,(p1++p2)[m+j]? = p2[j]? := fun j=>by rw [List.getElem?_append_right (by omega),kh,Nat.add_sub_cancel_left]
 refine ⟨p1++p2,fun j=>hs (j - m),⟨?_,?_,?_,?_⟩,by simp [b2],?_,?_⟩
 ·rw [List.map_append,a1,b1,List.take_append_drop]
 ·intro j o v hj dj iF h';rw [Lj j hj] at dj;rw [low j (by omega)];exact (a3 j o v dj).2 iF h'
 ·intro j o v hj dj _;rw [Lj j hj] at dj;rw [low j (by omega)];exact (a3 j o v dj).1
 ·intro j o v hj dj;obtain ⟨i,rfl⟩:∃ i,j=m+i:=⟨j - m,by omega⟩;rw [Lk] at dj;have:=(b4 i o v dj).1;rw [high];simp only [Nat.add_sub_cancel_left,show m+i+1 - m=i+1 by omega];exact this
 ·have e:(p1++p2).length=m+p2.length:=by rw [List.length_append,kh]
  rw [e,high];show K _ (hs (ops.size - m));rw [show ops.size - m=p2.length from rP.symm];exact b3
 ·intro o v dj;have:=Lk 0;rw [Nat.add_zero] at this;rw [this] at dj;have:=(b4 0 o v dj).2;rw [b2] at this
  simpa using this
variable {ae:FuncId} {R:bY} {s:List AV} {h:List ag}
theorem AW.zu {id:Nat} {k:List aG} (hm:E.P.follows .mixedOrders=true) (dL:R.fx.cE=none) (dJ:R.fx.aH=[])
  (H:∀ (c:Cx) (t:Array Value) (Q:Exit→Act→World→Prop),(∀ (a:Act) (c':Cx) (s':List AV) (h':List ag),AW E R.fx.f0 ⟨⟨ae,R.fx.cE,R.fx.aH⟩,k,s'⟩ R.fx.cls h' R→aE E.G c'→c'.heap=h'→a.defers=[]→VS c' s' a.tmps→Step c c'→Q .normal a c'.w)→aE E.G c→c.heap=h→VS c s t→wpAny E.P .any ops Q ops.size (Array.replicate ops.size false) ⟨t,[]⟩ c.w) :
  AW E R.fx.f0 ⟨⟨ae,R.fx.cE,R.fx.aH⟩,.code (.region id ops true)::k,s⟩ R.fx.cls h R:=by
 have e:(⟨ae,R.fx.cE,R.fx.aH⟩:ie)=⟨ae,none,[]⟩:=by rw [dL,dJ]
 simp only [e] at H ⊢;unfold AW;intro c0 c t ts h0 h1 h2 h3 hr bX h4 h5 cs;have hx:Proofs.YtcmnpelmmekdkaaGreatDoor.Ext c.w { c.w with drawn:=c.w.drawn+1 }:=⟨rfl,rfl,rfl,Nat.le_refl _,fun _ _=>rfl⟩;obtain ⟨g1,g2⟩:=h3.grow hx;have FK:(Code.region id ops true).wp E.P (fun e a w=>e = .normal∧∃ (c':Cx) (s':List AV) (h':List ag),AW E R.fx.f0 ⟨⟨ae,none,[]⟩,k,s'⟩ R.fx.cls h' R∧aE E.G c'∧c'.heap=h'∧a.defers=[]∧VS c' s' a.tmps∧Step c c'∧w=c'.w) ⟨t,[]⟩ c.w:=by
  refine wp_region_any hm ?_;exact H (c.dN { c.w with drawn:=c.w.drawn+1 }) t _ (fun a c' s' h' hK r1 r2 r3 r4 r5=>⟨rfl,c',s',h',hK,r1,r2,r3,r4,g2.trans r5,rfl⟩) g1 h2 (g2.vs h4)
 obtain ⟨e,a',w',⟨rfl,c',s',h',hA,r1,r2,r3,r4,r5,rfl⟩,FL⟩:=FK (bf ⟨ae,none,[]⟩) (k.map aG.bM) (eY R.fx.cls ts++cs);unfold AW at hA;obtain ⟨c2,fr,r,v,q1,q2,q3,tM,q4,q5,q6⟩:=hA c0 c' a'.tmps ts h0 (eb h1) r2 r1 (hr.step r5) (bX.step h3 r5) r4 (r5.cr h5) cs;refine ⟨c2,fr,r,v,q1,q2,q3,tM,?_,q5,q6⟩;have yV:a'=⟨a'.tmps,[]⟩:=by cases a'; simp only at r3; subst r3; rfl
 have:Steps E.P (lone ((bf ⟨ae,none,[]⟩).at ⟨t,[]⟩ (.code (.region id ops true)::k.map aG.bM)) (eY R.fx.cls ts++cs) c.w) (lone ((bf ⟨ae,none,[]⟩).at a' (k.map aG.bM)) (eY R.fx.cls ts++cs) c'.w):=FL;rw [yV] at this;exact this.trans q4
theorem ky (n i:Nat):aN (Array.replicate n false) i=false:=by
 unfold aN;simp [Array.getElem?_replicate];split <;> rfl
theorem Ce (n:Nat):∀ k,er (aN (Array.replicate n false)) k≤k:=by
 intro k
 induction k with
 |zero=>exact Nat.le_refl _
 |succ k ih=>simp only [er]; split <;> omega
variable {k:List aG} {lits:List Nat}
theorem TG {l:List Oper} {s:List AV} {h:List ag} (H:fW E ops (fun s2 h2=>aa E ae R [] k s2 h2) l s h):fW E ops (fun s2 h2=>AW E R.fx.f0 ⟨⟨ae,R.fx.cE,R.fx.aH⟩,k,s2⟩ R.fx.cls h2 R) l s h:=by
 induction l generalizing s h with
 |nil=>exact aa.to H
 |cons o l ih=>obtain ⟨v,h',h1,fT,h2⟩:=H; exact ⟨v,h',h1,fT,ih h2⟩
theorem TH {aW l:List Oper} {s:List AV} {h:List ag} (H:kv E ops h (fun s'=>fW E ops (fun s2 h2=>aa E ae R [] k s2 h2) aW s' h) l s):kv E ops h (fun s'=>fW E ops (fun s2 h2=>AW E R.fx.f0 ⟨⟨ae,R.fx.cE,R.fx.aH⟩,k,s2⟩ R.fx.cls h2 R) aW s' h) l s:=by
 induction l generalizing s with
 |nil=>exact TG H
 |cons o l ih=>obtain ⟨v,h1,fT,h2⟩:=H; exact ⟨v,h1,fT,ih h2⟩
def Ll (o:Oper):Bool:=match o.op,o.guard with
 | .alloc _,none=>true
 |_,_=>false
theorem aa.Lm (hE:E.OK) (hm:E.P.follows .mixedOrders=true) (m n:Nat) {id:Nat} (jP:(Lh ops m (m+1)&&Nat.ble (m+1) ops.size&&(match ops[m]? with | some o=>Ll o | none=>false))=true) (H:rQ m ops.toList fun pre=>qa m ops.toList fun aW=>lU E ae R ops k n [] pre aW s h) (dL:R.fx.cE=none:=by rfl) (dJ:R.fx.aH=[]:=by rfl):aa E ae R lits (.code (.region id ops true)::k) s h:=by
 rw [Bc,x7] at H;rw [Bool.and_eq_true,Bool.and_eq_true] at jP;obtain ⟨⟨jI,nB⟩,uB⟩:=jP;have qP:=Nat.le_of_ble_eq_true nB;cases oB:ops[m]? with
 |none=>rw [oB] at uB; cases uB
 |some ox =>
  rw [oB] at uB;obtain ⟨ty,cm,Cd⟩:∃ ty,ox.op = .alloc ty∧ox.guard=none:=by
   have uB:Ll ox=true:=uB;clear oB;obtain ⟨dst,op,type,pos,after,guard⟩:=ox;cases op <;> first | (cases guard <;> first | exact ⟨_,rfl,rfl⟩ | cases uB) | cases uB
  obtain ⟨pl,hp,x1,x2,x3,x4⟩:=TF (M:=m+1) (by omega) (by omega) (TH (FN hE n [] _ _ s h H));obtain ⟨hlen,dH⟩:=qR x1.FT;obtain ⟨⟨o,v⟩,dj⟩:∃ p,pl[m]? = some p:=⟨pl[m]'(by omega),by rw [List.getElem?_eq_getElem]⟩;have Ln:=dH m o v dj;rw [oB] at Ln;cases Ln;obtain ⟨rfl,ti,t1,t2,t3,hh⟩:=x4 ox v dj ty cm Cd;refine .of (AW.zu hm dL dJ fun c t Q hQ h1 h2 h4=>?_);obtain ⟨us,aK⟩:=Tu hE (TE jI) qP oB cm Cd t1 t2 t3 x1 dj hh (Kf:=fun s2 h2=>AW E R.fx.f0 ⟨⟨ae,R.fx.cE,R.fx.aH⟩,k,s2⟩ R.fx.cls h2 R) (c0:=c) (Q:=Q) x3 hQ;refine aK ops.size _ ⟨t,[]⟩ c h1 h2 rfl ?_ (by rw [ky]; exact Step.refl c h1.bD) ⟨by simp,fun j o e _ hl=>by rw [ky] at hl; cases hl⟩ (fun i _=>ky _ i) (Ce _ _);rw [jN _ 0 s _ (fun i _=>ky _ _)];exact h4
end
end Go.ax
end
section
namespace Go.ax
open Go Go.RowKit
section
variable {E:Env} {s:List AV} {h:List ag} {c:Cx} {G:List (Nat × DV)}
theorem Lo (hE:E.OK) {t e len:Nat} {i ei:bB} (hi:E.T[t]? = some i) (cx:E.T[e]? = some ei) (hk:i.k = .slice e) {parts:Array (Nat × Operand)} {ps:List (Nat × AV)} (eF:yi E.G s parts.toList ps)
  (hz:ei.zero.length=ei.size) (cW:0<ei.size) (hlen:0<len) (Bp:len*ei.size≤16777216) {z:DV} (tC:z.cells=ei.zero) (gm:∀ y∈ei.zero,y.eW=true) {stop:Prop} {k:List DV→Prop} (H:n4 ei.size ps (List.replicate len z) stop k) :
  stop∨∃ l,k l∧aQ E (.buildSlice t len parts) s h (.own h.length 0) (h++[.arr 0 (e,ei.size) l]):=by
 have dO:gp ei.size (List.replicate len z):=fun j e' h'=>by
  rw [List.getElem?_replicate] at h';split at h'
  ·cases h'; rw [tC,hz]
  ·cases h'
 have mz:o7 (List.replicate len z):=fun j e' h'=>by
  rw [List.getElem?_replicate] at h';split at h'
  ·cases h'; rw [tC]; exact gm
  ·cases h'
 rcases Es dO mz H with h' | ⟨l,h1,h2,iN,h3,h4⟩
 ·exact .inl h'
 refine .inr ⟨l,h1,fun o c ac e1 e2 e3 e4=>?_⟩;subst e2;obtain ⟨ti,zv,g1,g2,g3,g4⟩:=zeroOf (hE.types e ei cx) hz cW;obtain ⟨zs,yk,gG⟩:=g4 c;obtain ⟨p1,p2⟩:=eF c ac e3 e4;have lK:zs.length=ei.size:=by rw [← gG.1]; simpa using hz
 have yl:VL c ((flat (List.replicate len z)).map .d) ((Array.range (len*ti.size)).map (zv.cells[· % zv.cells.size]!)).toList:=by
  refine .tz (by rw [kS dO]; simp [g3]) (fun j x v hx hv=>?_);have hj:j<len*ei.size:=by
   have:=kS dO;rw [List.length_replicate] at this;rw [← this];rcases Nat.lt_or_ge j (flat (List.replicate len z)).length with h | h
   ·exact h
   ·rw [List.getElem?_eq_none h] at hx; cases hx
  have hd:j / ei.size<len:=Nat.div_lt_of_lt_mul (by rw [Nat.mul_comm]; exact hj);have hm:j % ei.size<ei.size:=Nat.mod_lt _ cW;have h5:=flat_get dO (i:=j / ei.size) (j:=j % ei.size) (e:=z) (by simp [hd]) hm;rw [Nat.mul_comm,Nat.div_add_mod,hx,tC] at h5;have gR:v=zs[j % ei.size]'(by omega):=by
   have dK:j<len*ti.size:=by rw [← g3]; exact hj
   simp [dK,yk,lK] at hv;rw [← hv];simp [lK,hm]
  rw [gR];exact gG.o5 (j % ei.size) x _ h5.symm (by simp [lK,hm])
 obtain ⟨cX,f1,f2⟩:=h4 c _ _ yl p2;obtain ⟨ym,d,q1,q2,q3,-⟩:=cM (hE.types t i hi);obtain rfl:=lJ (hk.symm.trans q3);have eq:(parts.map fun (i,x)=>(i,ac.eval x)).toList=(ps.map (·.1)).zip (parts.toList.map fun p=>ac.eval p.2):=by
  rw [p1,Array.toList_map];generalize parts.toList=q
  induction q with
  |nil=>rfl
  |cons a q ih=>simp only [List.map_cons,List.zip_cons_cons,ih]
 have yp:Instr.fill (fun i=>some (i*ti.size,ti.size)) ((Array.range (len*ti.size)).map (zv.cells[· % zv.cells.size]!)) (parts.map fun (i,x)=>(i,ac.eval x)).toList=some cX.toArray:=by
  rw [eq,← f1,g3]
 have cR:=run_buildSlice (P:=E.P) c.w t e len (parts.map fun (i,x)=>(i,ac.eval x)) cX.toArray ti zv q2 g1 g2 (by rw [← g3]; omega) (by rw [← g3]; have:=Nat.mul_pos hlen cW; omega) yp;have tD:l.length=len:=by rw [h3]; simp
 obtain ⟨k1,k2⟩:=e3.add (.arr 0 (e,ei.size) l) len (.cells cX.toArray e);have bC:(c.add (.arr 0 (e,ei.size) l) len (.cells cX.toArray e)).own c.heap.length=some (c.w.heap.size,len):=by simp [Cx.add]
 have km:(c.add (.arr 0 (e,ei.size) l) len (.cells cX.toArray e)).heap[c.heap.length]? = some (.arr 0 (e,ei.size) l):=by simp [Cx.add]
 have bP:cX.length=len*ei.size:=by
  have:=f2.1;simp only [List.length_map] at this;rw [← this,kS h2,tD]
 have dX:jE (c.add (.arr 0 (e,ei.size) l) len (.cells cX.toArray e)) c.heap.length (.arr 0 (e,ei.size) l):=by
  refine ⟨cW,h2,.inr ⟨c.w.heap.size,len,cX.toArray,bC,heap_alloc_new _ _,by simpa using bP,by omega,by unfold maxLen; have:=Nat.le_mul_of_pos_right len cW; omega,fun i j e' x he hx=>?_⟩⟩;have hj:j<ei.size:=by
   have:=aZ hx;rw [h2 i e' he] at this;exact this
  have hf:=flat_get h2 he hj;rw [hx] at hf;have ai:i*ei.size+j<cX.length:=by
   have:=f2.1;simp only [List.length_map] at this;rw [← this];exact aZ hf
  refine ⟨cX[i*ei.size+j],by simp [ai],yb (f2.o5 _ x _ hf (by simp [ai])) (iN i e' he x (List.mem_of_getElem? hx)),k1.vd (f2.o5 _ x _ hf (by simp [ai]))⟩
 refine ⟨_,.slice (some ⟨c.w.heap.size,0,none⟩) len len,.inl (by simp only [execOp,e1,Sem.run_bind,cR,Result.andThen_ok,Sem.run_pure]; rfl),rfl,k2 dX,?_,k1⟩;have:=VR.own (c:=c.add (.arr 0 (e,ei.size) l) len (.cells cX.toArray e)) c.heap.length 0 (e,ei.size) l c.w.heap.size len km bC;rw [tD] at this;exact this
def F2 (E:Env) (o:Op) (s:List AV) (h:List ag) (stop:Prop) (k:AV→List ag→Prop):Prop :=
 match o with
 | .buildSlice t len parts=>aV E.T t stop fun i=>match i.k with
  | .slice e=>aV E.T e stop fun ei=>match Nat.beq ei.zero.length ei.size,Nat.blt 0 ei.size,Nat.blt 0 len,Nat.ble (len*ei.size) 16777216,ei.zero.all DV.eW with
   |true,true,true,true,true=>tv E.G s parts.toList stop fun ps =>
    match ei.zero with
    | [z]=>tu len z fun zs=>n4 ei.size ps zs stop fun l=>lH h (.arr 0 (e,ei.size) l) 0 fun h' n=>k (.own n 0) h'
    |zl=>tu len (.agg zl) fun zs=>n4 ei.size ps zs stop fun l=>lH h (.arr 0 (e,ei.size) l) 0 fun h' n=>k (.own n 0) h'
   |_,_,_,_,_=>stop
  |_=>stop
 |_=>stop
theorem TI (hE:E.OK) {o:Op} {stop:Prop} {k:AV→List ag→Prop} (H:F2 E o s h stop k):stop∨∃ v h',k v h'∧aQ E o s h v h':=by
 unfold F2 at H;split at H
 ·rcases bj H with h | ⟨i,hi,H⟩
  ·exact .inl h
  split at H
  ·rename_i e hk;rcases bj H with h | ⟨ei,cx,H⟩
   ·exact .inl h
   split at H
   ·rename_i q1 q2 q3 q4 q5;rcases yj H with h | ⟨ps,eF,H⟩
    ·exact .inl h
    simp only [nf,Nat.zero_add] at H;split at H
    ·rename_i z jG;rw [Bo] at H;have gm:z.eW=true:=by rw [jG] at q5; simpa using q5
     rcases Lo hE hi cx hk eF (Nat.eq_of_beq_eq_true q1) (iB q2) (iB q3) (Nat.le_of_ble_eq_true q4) (z:=z) (by rw [jG]; cases z <;> first | rfl | cases gm) (fun y hy=>List.all_eq_true.1 q5 y hy) H with h | ⟨l,H,hl⟩
     ·exact .inl h
     exact .inr ⟨_,_,H,hl⟩
    ·rw [Bo] at H;rcases Lo hE hi cx hk eF (Nat.eq_of_beq_eq_true q1) (iB q2) (iB q3) (Nat.le_of_ble_eq_true q4) (z := .agg ei.zero) rfl (fun y hy=>List.all_eq_true.1 q5 y hy) H with h | ⟨l,H,hl⟩
     ·exact .inl h
     exact .inr ⟨_,_,H,hl⟩
   ·exact .inl H
  ·exact .inl H
 ·exact .inl H
theorem aa.qS (hE:E.OK) {ae:FuncId} {R:bY} {lits:List Nat} {ops:Array Oper} {o:Oper} {l:List Oper} {r:List aG} (hg:o.guard=none)
  (H:F2 E o.op s h False fun v h'=>bJ s o.dst v fun s'=>aa E ae R lits (.bE ops l::r) s' h'):aa E ae R lits (.bE ops (o::l)::r) s h:=by
 rcases TI hE H with h | ⟨v,h',H,ho⟩
 ·exact h.elim
 ·rw [di] at H;exact .of (.op (eO hg) ho H.to)
end
mutual
def norm:DV→DV
 | .a8 => .sl []
 | .agg c => .agg (sA c)
 | .aL c => .aL (sA c)
 |x=>x
def sA:List DV→List DV
 | []=>[]
 |x::l=>norm x::sA l
end
theorem F3:∀ (l:List DV),sA l=l.map norm
 | []=>rfl
 |x::l=>by rw [sA,F3 l]; rfl
theorem TJ {bad:Nat→Prop} {w:World} {x:DV} {v:Value} (h:VD bad w x v):VD bad w (norm x) v:=by
 induction h with
 |a8=>exact .slnil
 |agg c vs hlen bT ih =>
  rw [norm,F3];refine .agg _ _ (by simpa using hlen) fun j y v hy hv=>?_;rw [List.getElem?_map] at hy;cases hc:c[j]? with
  |none=>rw [hc] at hy; cases hy
  |some z=>rw [hc] at hy; cases hy; exact ih j z v hc hv
 |aL c vs hlen bT ih =>
  rw [norm,F3];refine .aL _ _ (by simpa using hlen) fun j y v hy hv=>?_;rw [List.getElem?_map] at hy;cases hc:c[j]? with
  |none=>rw [hc] at hy; cases hy
  |some z=>rw [hc] at hy; cases hy; exact ih j z v hc hv
 |undef=>exact .undef
 |bool b=>exact .bool b
 |int k n=>exact .int k n
 |str l=>exact .str l
 |slnil=>exact .slnil
 |kO a=>exact .kO a
 |sl l blk off cap sz f hb bP je hlen dP bT cg ih=>exact .sl l blk off cap sz f hb bP je hlen dP bT cg
 |eD=>exact .eD
 |aD=>exact .aD
 |gN=>exact .gN
 |mr=>exact .mr
 |fn f=>exact .fn f
 |raw v h=>exact .raw v h
theorem aA.norm {E:Env} {f:FuncId} {args:List DV} {y:DV} (H:aA E f args (fun r=>ax.norm r=y)):aA E f args (· = y):=by
 unfold aA at H ⊢;exact ⟨H.1,fun au w vs h1 h2 h3=>(H.2 au w vs h1 h2 h3).mono fun e w' ⟨v,r,k1,k2,k3,k4⟩=>⟨v,y,k1,rfl,k2 ▸ TJ k3,k4⟩⟩
end Go.ax
end
section
namespace Go.ax
open Go Go.RowKit
inductive OT where
 |leaf
 |alt (i:Nat) (t r:OT)
def OT.uC:OT→List Nat
 | .leaf=>[]
 | .alt i _ r=>i::r.uC
def OT.depth:OT→Nat
 | .leaf=>0
 | .alt _ t r=>max (t.depth+1) r.depth
def uD (ops:Array Oper):Array Bool→OT→Bool
 |_,.leaf=>true
 |listed,.alt i t r=>(Region.ready .any ops (listed.setIfInBounds i true)==t.uC)&&uD ops (listed.setIfInBounds i true) t&&uD ops listed r
section
variable {E:Env} {ops:Array Oper} {K:List AV→List ag→Prop}
def qT (E:Env) (ops:Array Oper) (K:List AV→List ag→Prop):OT→List AV→List ag→Prop
 | .leaf,_,_=>True
 | .alt i t r,s,h=>(∃ o v h',ops[i]? = some o∧dq E ops o s h v h'∧(t = .leaf→K (bG s o.dst v) h')∧qT E ops K t (bG s o.dst v) h')∧qT E ops K r s h
@[irreducible] def gI (E : Env) (ops : Array Oper) (K : List AV → List ag → Prop) (t : OT) (s : List AV) (h : List ag) : Prop := (t = .leaf → K s h) ∧ qT E ops K t s h
theorem gI.leaf {s:List AV} {h:List ag} (H:K s h):gI E ops K .leaf s h:=by unfold gI; exact ⟨fun _=>H,trivial⟩
theorem gI.fst {s0:List AV} {h0:List ag} {q:List AV × List ag}:gI E ops (fun s h=>(s,h)∈[(s0,h0),q]) .leaf s0 h0:=gI.leaf (List.Mem.head _)
theorem gI.snd {s0:List AV} {h0:List ag} {p:List AV × List ag}:gI E ops (fun s h=>(s,h)∈[p,(s0,h0)]) .leaf s0 h0:=gI.leaf (List.Mem.tail _ (List.Mem.head _))
theorem gI.to {t:OT} {s:List AV} {h:List ag} (H:gI E ops K t s h):(t = .leaf→K s h)∧qT E ops K t s h:=by unfold gI at H; exact H
def F4 (E:Env) (ops:Array Oper) (K:List AV→List ag→Prop):OT→List AV→List ag→Prop
 | .leaf,_,_=>True
 | .alt i t r,s,h=>(aV ops.toList i False fun o=>match o.guard with
   |none=>sx (b9 ops o) 0 s fun so=>eX E.T E.G o.op so h (oq E o.op so h (fU E o.op so h False fun v h'=>bJ s o.dst v fun s'=>gI E ops K t s' h') fun v h'=>bJ s o.dst v fun s'=>gI E ops K t s' h') fun v h'=>bJ s o.dst v fun s'=>gI E ops K t s' h'
   |some _=>False)∧F4 E ops K r s h
theorem Lp (hE:E.OK):∀ (t:OT) {s:List AV} {h:List ag},F4 E ops K t s h→qT E ops K t s h
 | .leaf,_,_,_=>trivial
 | .alt i t r,s,h,H=>by
  obtain ⟨H,hr⟩:=H;refine ⟨?_,Lp hE r hr⟩;rcases bj H with H | ⟨o,ho,H⟩
  ·exact H.elim
  split at H
  ·rename_i hg;rw [zm] at H;have key:∀ v h',(bJ s o.dst v fun s'=>gI E ops K t s' h')→aQ E o.op (bZ (b9 ops o) 0 s) h v h'→∃ o v h',ops[i]? = some o∧dq E ops o s h v h'∧(t = .leaf→K (bG s o.dst v) h')∧qT E ops K t (bG s o.dst v) h':=fun v h' H aK=>by
    rw [di] at H;exact ⟨o,v,h',by simpa using ho,dq.of (eO hg) aK,H.to.1,H.to.2⟩
   rcases tE hE H with H | ⟨v,h',H,aK⟩
   ·rcases yL hE H with H | ⟨v,h',H,aK⟩
    ·rcases tW hE H with H | ⟨v,h',H,aK⟩
     ·exact H.elim
     ·exact key v h' H aK
    ·exact key v h' H aK
   ·exact key v h' H aK
  ·exact H.elim
theorem gI.step (hE:E.OK) {i:Nat} {t r:OT} {s:List AV} {h:List ag} (H:F4 E ops K (.alt i t r) s h):gI E ops K (.alt i t r) s h:=by
 unfold gI;exact ⟨fun e=>(by cases e),Lp hE _ H⟩
theorem Lq {listed:Array Bool}:∀ {t:OT} {s:List AV} {h:List ag} {i:Nat},uD ops listed t=true→qT E ops K t s h→i∈t.uC →
  ∃ t',uD ops (listed.setIfInBounds i true) t'=true∧Region.ready .any ops (listed.setIfInBounds i true)=t'.uC∧t'.depth+1≤t.depth∧∃ o v h',ops[i]? = some o∧dq E ops o s h v h'∧(t' = .leaf→K (bG s o.dst v) h')∧qT E ops K t' (bG s o.dst v) h'
 | .leaf,_,_,_,_,_,hi=>by simp [OT.uC] at hi
 | .alt j t r,s,h,i,aK,hp,hi=>by
  simp only [uD,Bool.and_eq_true,beq_iff_eq] at aK;rcases List.mem_cons.1 hi with rfl | hi
  ·exact ⟨t,aK.1.2,aK.1.1,by simp only [OT.depth]; omega,hp.1⟩
  ·obtain ⟨t',h1,h2,h3,h4⟩:=Lq aK.2 hp.2 hi;exact ⟨t',h1,h2,by simp only [OT.depth]; omega,h4⟩
theorem TL {c c':Cx} {s:List AV} {a:Act} {dst:Option Nat} {v:AV} {u:Value} (aR:Step c c') (h:VS c s a.tmps) (hv:VR c' v u):VS c' (bG s dst v) (a.put dst u).tmps:=by
 cases dst with
 |none=>exact aR.vs h
 |some d=>exact (aR.vs h).put d hv
theorem TM {Q:Exit→Act→World→Prop} {c0:Cx} (hQ:∀ (a:Act) (c:Cx) (s:List AV) (h:List ag),K s h→aE E.G c→c.heap=h→a.defers=[]→VS c s a.tmps→Step c0 c→Q .normal a c.w) :
  ∀ (f:Nat) (t:OT) (listed:Array Bool) (a:Act) (c:Cx) (s:List AV) (h:List ag),uD ops listed t=true→Region.ready .any ops listed=t.uC→t.depth≤f→(t = .leaf→K s h)→qT E ops K t s h→aE E.G c→c.heap=h→a.defers=[]→VS c s a.tmps→Step c0 c→wpAny E.P .any ops Q f listed a c.w:=by
 intro f
 induction f with
 |zero =>
  intro t listed a c s h h1 h2 h3 h4 h5 k1 k2 k3 k4 k5;cases t with
  |leaf=>exact ⟨h2,hQ a c s h (h4 rfl) k1 k2 k3 k4 k5⟩
  |alt i t r=>simp only [OT.depth] at h3; omega
 |succ f ih =>
  intro t listed a c s h h1 h2 h3 h4 h5 k1 k2 k3 k4 k5;refine ⟨fun hr=>?_,fun i hi=>?_⟩
  ·cases t with
   |leaf=>exact hQ a c s h (h4 rfl) k1 k2 k3 k4 k5
   |alt i t r=>rw [hr] at h2; cases h2
  ·rw [h2] at hi;obtain ⟨t',g1,g2,g3,o,v,h',g4,g5,g6,g7⟩:=Lq h1 h5 hi;refine g5 c a k1 k2 k3 k4.mask i g4 _ _ (fun c' u m1 m2 m3 m4=>?_);exact ih t' _ _ c' _ h' g1 g2 (by omega) g6 g7 m1 m2 (by cases gV:o.dst <;> simp [Act.put,k3]) (TL m3 k4 m4) (k5.trans m3)
theorem aa.TN (hE:E.OK) (hm:E.P.follows .mixedOrders=true) {ae:FuncId} {R:bY} {lits:List Nat} {k:List aG} {s:List AV} {h:List ag} {id:Nat} (T:OT) (p q:List AV × List ag)
  (jP:((Region.ready .any ops (Array.replicate ops.size false)==T.uC)&&uD ops (Array.replicate ops.size false) T&&Nat.ble T.depth ops.size)=true)
  (H:gI E ops (fun s h=>(s,h)∈[p,q]) T s h) (H1:aa E ae R [] k p.1 p.2) (H2:aa E ae R [] k q.1 q.2) (dL:R.fx.cE=none:=by rfl) (dJ:R.fx.aH=[]:=by rfl):aa E ae R lits (.code (.region id ops true)::k) s h:=by
 simp only [Bool.and_eq_true,beq_iff_eq] at jP;obtain ⟨⟨c1,c2⟩,c3⟩:=jP;refine .of (AW.zu hm dL dJ fun c t Q hQ h1 h2 h4=>?_);refine TM (K:=fun s h=>(s,h)∈[p,q]) (fun a c' s' h' hK=>hQ a c' s' h' ?_) ops.size T _ ⟨t,[]⟩ c s h c2 c1 (Nat.le_of_ble_eq_true c3) H.to.1 H.to.2 h1 h2 rfl h4 (Step.refl c h1.bD);rcases List.mem_cons.1 hK with e | hK
 ·cases e; exact H1.to
 ·rcases List.mem_cons.1 hK with e | hK
  ·cases e; exact H2.to
  ·cases hK
end
end Go.ax
end
