/- Plain laws of package copies: which stretches a host serves. No conditions. -/
import Derived.Test.YthikfaephakahaaGreatDoorZM7
import Derived.Test.YthikfaephakahaaGreatDoorZP21
import Derived.Test.YthikfaephakahaaGreatDoorZSrtI
set_option linter.unusedVariables false
set_option linter.unusedSimpArgs false
namespace Go.Proofs.YthikfaephakahaaGreatDoor.P
open Go Go.Eng
theorem some_of_lt2 {α:Type} {l:List α} {k:Nat} (h:k<l.length):∃ x,l[k]? = some x:=⟨l[k],by simp⟩
def newN (l:List Version) (t:Int):Nat:=(l.filter fun v=>decide (v.time≤t)).length
def VerS (l:List Version):Prop:=l.Pairwise fun a b=>a.time<b.time
theorem newN_le {l:List Version} {t:Int}:newN l t≤l.length:=List.length_filter_le ..
theorem newN_mono {s t:Int} (h:s≤t):∀ {l:List Version},newN l s≤newN l t
 | []=>Nat.le_refl _
 |v::l=>by
  have ih:=newN_mono h (l:=l);unfold newN at ih ⊢;simp only [List.filter_cons];by_cases h1:v.time≤s
  ·have h2:v.time≤t:=by omega
   simp only [h1,h2,decide_true,if_true,List.length_cons];omega
  ·simp only [h1,decide_false,Bool.false_eq_true,if_false];split <;> simp <;> omega
theorem newN_zero {l:List Version} {t:Int} (h:∀ v∈l,t<v.time):newN l t=0:=by
 unfold newN;rw [List.filter_eq_nil_iff.2 (fun v hv=>by have:=h v hv; simp; omega)];rfl
theorem newN_iff {t:Int}:∀ {l:List Version} (_:VerS l) {i:Nat} {v:Version} (_:l[i]? = some v),v.time≤t↔i<newN l t
 | [],_,i,v,hi=>by simp at hi
 |a::l,hs,i,v,hi=>by
  obtain ⟨h1,h2⟩:=List.pairwise_cons.1 hs;by_cases ha:a.time≤t
  ·have e:newN (a::l) t=newN l t+1:=by simp [newN,ha]
   rw [e];cases i with
   |zero=>simp at hi; subst hi; exact ⟨fun _=>by omega,fun _=>ha⟩
   |succ i =>
    have:=newN_iff h2 (i:=i) (v:=v) (by simpa using hi) (t:=t);rw [this]; omega
  ·have e:newN (a::l) t=0:=newN_zero fun v hv=>by
    rcases List.mem_cons.1 hv with rfl | hv
    ·omega
    ·have:=h1 v hv; omega
   rw [e];have:t<v.time:=by
    cases i with
    |zero=>simp at hi; subst hi; omega
    |succ i=>have:=h1 v (List.mem_of_getElem? (by simpa using hi)); omega
   omega
def minL:List Int→Option Int
 | []=>none
 |a::l=>match minL l with
  |none=>some a
  |some b=>some (if a≤b then a else b)
theorem minL_none {l:List Int}:minL l=none↔l=[]:=by
 cases l with
 |nil=>simp [minL]
 |cons a l=>unfold minL; split <;> simp
theorem minL_some:∀ {l:List Int} {m:Int},minL l=some m→m∈l∧∀ x∈l,m≤x
 | [],m,h=>by simp [minL] at h
 |a::l,m,h=>by
  unfold minL at h;split at h
  ·rename_i q;obtain rfl:=Option.some.inj h;rw [minL_none.1 q];simp
  ·rename_i b q;obtain ⟨h1,h2⟩:=minL_some q;obtain rfl:=Option.some.inj h;split
   ·refine ⟨by simp,fun x hx=>?_⟩;rcases List.mem_cons.1 hx with rfl | hx
    ·omega
    ·have:=h2 x hx; omega
   ·refine ⟨List.mem_cons_of_mem _ h1,fun x hx=>?_⟩;rcases List.mem_cons.1 hx with rfl | hx
    ·omega
    ·exact h2 x hx
theorem minL_ex {l:List Int} {x:Int} (h:x∈l):∃ m,minL l=some m:=by
 cases e:minL l with
 |none=>rw [minL_none.1 e] at h; simp at h
 |some m=>exact ⟨m,rfl⟩
def frmT (l:List Version) (T:List Int) (v:Nat):Option Int:=minL (T.filter fun t=>decide (newN l t=v+1))
theorem frmT_some {l:List Version} {T:List Int} {v:Nat} {t:Int} (h:frmT l T v=some t):t∈T∧newN l t=v+1∧∀ s∈T,newN l s=v+1→t≤s:=by
 obtain ⟨h1,h2⟩:=minL_some h;obtain ⟨h3,h4⟩:=List.mem_filter.1 h1;exact ⟨h3,by simpa using h4,fun s hs e=>h2 s (List.mem_filter.2 ⟨hs,by simpa using e⟩)⟩
theorem frmT_of {l:List Version} {T:List Int} {v:Nat} {t:Int} (h1:t∈T) (h2:newN l t=v+1) (h3:∀ s∈T,newN l s=v+1→t≤s):frmT l T v=some t:=by
 obtain ⟨m,hm⟩:=minL_ex (List.mem_filter.2 ⟨h1,by simpa using h2⟩:t∈T.filter fun t=>decide (newN l t=v+1));obtain ⟨k1,k2,k3⟩:=frmT_some (show frmT l T v=some m from hm);have:=h3 m k1 k2;have:=k3 t h1 h2;rw [frmT,hm]
 congr 1
 omega
def pairsG (l:List Version) (T:List Int) (n:Nat):List (Int × Nat):=(List.range n).filterMap fun v=>(frmT l T v).map fun t=>(t,v)
theorem pairs_mem {l:List Version} {T:List Int} {n:Nat} {p:Int × Nat}:p∈pairsG l T n↔p.2<n∧frmT l T p.2=some p.1:=by
 unfold pairsG;rw [List.mem_filterMap];constructor
 ·rintro ⟨v,hv,e⟩;cases h:frmT l T v with
  |none=>rw [h] at e; cases e
  |some t =>
   rw [h] at e;obtain rfl:=Option.some.inj e;exact ⟨by simpa using hv,h⟩
 ·rintro ⟨h1,h2⟩;exact ⟨p.2,by simpa using h1,by rw [h2]; rfl⟩
theorem pairs_lt {l:List Version} {T:List Int} {n:Nat}:(pairsG l T n).Pairwise fun a b=>a.1<b.1∧a.2<b.2:=by
 unfold pairsG;rw [List.pairwise_filterMap];refine List.pairwise_lt_range.imp fun {a b} hab x hx y hy=>?_;cases h1:frmT l T a with
 |none=>rw [h1] at hx; cases hx
 |some s =>
  cases h2:frmT l T b with
  |none=>rw [h2] at hy; cases hy
  |some t =>
   rw [h1] at hx;rw [h2] at hy;obtain rfl:=Option.some.inj hx;obtain rfl:=Option.some.inj hy;refine ⟨?_,hab⟩;obtain ⟨_,e1,_⟩:=frmT_some h1;obtain ⟨_,e2,_⟩:=frmT_some h2;simp only;rcases Int.lt_or_le s t with h | h
   ·exact h
   ·have:=newN_mono h (l:=l); omega
structure Stretch where
 frm:Int
 upto:Int
 ver:Int
 deriving DecidableEq
@[reducible] def Stretch.enc (x : Stretch) : DV := .agg [.int .i64 x.frm, .int .i64 x.upto, .int .i64 x.ver]
def nextF (r:List (Int × Nat)) (u:Int):Int:=match r with
 | []=>u
 |q::_=>q.1
def fixU:List (Int × Nat)→Int→List Stretch
 | [],_=>[]
 |p::r,u=>⟨p.1,nextF r u,p.2⟩::fixU r u
def strC (l:List Version) (T:List Int) (fin:Int):List Stretch:=fixU (pairsG l T l.length) fin
theorem fixU_len:∀ (r:List (Int × Nat)) (u:Int),(fixU r u).length=r.length
 | [],_=>rfl
 |_::r,u=>by simp [fixU,fixU_len r u]
theorem fixU_get {u:Int}:∀ {r:List (Int × Nat)} {j:Nat} {x:Stretch},(fixU r u)[j]? = some x→∃ p,r[j]? = some p∧x=⟨p.1,nextF (r.drop (j+1)) u,p.2⟩
 | [],j,x,h=>by simp [fixU] at h
 |p::r,j,x,h=>by
  cases j with
  |zero=>simp [fixU] at h; exact ⟨p,rfl,h.symm⟩
  |succ j =>
   obtain ⟨q,h1,h2⟩:=fixU_get (r:=r) (j:=j) (by simpa [fixU] using h);exact ⟨q,by simpa using h1,by simpa using h2⟩
theorem fixU_snoc {u:Int} {p:Int × Nat}:∀ (r:List (Int × Nat)),fixU (r++[p]) u=fixU r p.1++[⟨p.1,u,p.2⟩]
 | []=>rfl
 |q::r=>by
  rw [List.cons_append,fixU,fixU,fixU_snoc r,List.cons_append]
  congr 2
  cases r <;> rfl
theorem pairs_ext {a b:List (Int × Nat)} (ha:a.Pairwise fun x y=>x.2<y.2) (hb:b.Pairwise fun x y=>x.2<y.2) (h:∀ p,p∈a↔p∈b):a=b:=by
 induction a generalizing b with
 |nil =>
  cases b with
  |nil=>rfl
  |cons y b=>have:=(h y).2 (List.mem_cons_self ..); simp at this
 |cons x a ih =>
  cases b with
  |nil=>have:=(h x).1 (List.mem_cons_self ..); simp at this
  |cons y b =>
   obtain ⟨a1,a2⟩:=List.pairwise_cons.1 ha;obtain ⟨b1,b2⟩:=List.pairwise_cons.1 hb;have hxy:x=y:=by
    rcases List.mem_cons.1 ((h x).1 (List.mem_cons_self ..)) with e | e
    ·exact e
    ·rcases List.mem_cons.1 ((h y).2 (List.mem_cons_self ..)) with e2 | e2
     ·exact e2.symm
     ·have:=a1 y e2; have:=b1 x e; omega
   subst hxy;rw [ih a2 b2 fun p=>?_];constructor
   ·intro hp;rcases List.mem_cons.1 ((h p).1 (List.mem_cons_of_mem _ hp)) with e | e
    ·subst e; have:=a1 p hp; omega
    ·exact e
   ·intro hp;rcases List.mem_cons.1 ((h p).2 (List.mem_cons_of_mem _ hp)) with e | e
    ·subst e; have:=b1 p hp; omega
    ·exact e
def allP (l:List Version) (S:List Int):List (Int × Nat):=S.filterMap fun t=>if 0<newN l t then some (t,newN l t - 1) else none
def joinStep (out:List (Int × Nat)) (x:Int × Nat):List (Int × Nat):=match out.getLast? with
 |none=>out++[x]
 |some y=>if y.2=x.2 then out else out++[x]
def joinF (A:List (Int × Nat)):List (Int × Nat):=A.foldl joinStep []
structure Joined (A J:List (Int × Nat)):Prop where
 lt:J.Pairwise fun x y=>x.2<y.2
 sub:∀ x∈J,x∈A∧∀ y∈A,y.2=x.2→x.1≤y.1
 all:∀ y∈A,∃ x∈J,x.2=y.2
 last:J.getLast?.map (·.2)=A.getLast?.map (·.2)
theorem joined_snoc {A J:List (Int × Nat)} {x:Int × Nat} (h:Joined A J) (hle:∀ y∈A,y.1≤x.1∧y.2≤x.2):Joined (A++[x]) (joinStep J x):=by
 unfold joinStep;cases hj:J.getLast? with
 |none =>
  have hJ:J=[]:=by simpa using hj
  subst hJ;have hA:A=[]:=by
   cases A with
   |nil=>rfl
   |cons a A=>obtain ⟨x,hx,_⟩:=h.all a (List.mem_cons_self ..); simp at hx
  subst hA;exact ⟨by simp,fun y hy=>by simp at hy; subst hy; simp,fun y hy=>by simp at hy; subst hy; exact ⟨y,by simp,rfl⟩,by simp⟩
 |some z =>
  have hz:z∈J:=List.mem_of_getLast? hj;have hmax:∀ y∈J,y.2≤z.2:=fun y hy=>by
   obtain ⟨J',rfl⟩:∃ J',J=J'++[z]:=by
    rw [List.getLast?_eq_some_iff] at hj;exact hj
   rcases List.mem_append.1 hy with hy | hy
   ·have:=(List.pairwise_append.1 h.lt).2.2 y hy z (by simp); omega
   ·simp at hy; subst hy; exact Nat.le_refl _
  simp only;split
  ·rename_i e;refine ⟨h.lt,fun y hy=>⟨List.mem_append_left _ (h.sub y hy).1,fun w hw ew=>?_⟩,fun y hy=>?_,?_⟩
   ·rcases List.mem_append.1 hw with hw | hw
    ·exact (h.sub y hy).2 w hw ew
    ·simp at hw; subst hw; exact (hle y (h.sub y hy).1).1
   ·rcases List.mem_append.1 hy with hy | hy
    ·exact h.all y hy
    ·simp at hy; subst hy; exact ⟨z,hz,e⟩
   ·rw [hj]; simp [e]
  ·rename_i e;have hzx:z.2<x.2:=by have:=(hle z (h.sub z hz).1).2; omega
   refine ⟨?_,fun y hy=>?_,fun y hy=>?_,by simp⟩
   ·rw [List.pairwise_append];refine ⟨h.lt,by simp,fun y hy w hw=>?_⟩;simp at hw;subst hw;have:=hmax y hy;omega
   ·rcases List.mem_append.1 hy with hy1 | hy
    ·refine ⟨List.mem_append_left _ (h.sub y hy1).1,fun w hw ew=>?_⟩;rcases List.mem_append.1 hw with hw | hw
     ·exact (h.sub y hy1).2 w hw ew
     ·simp at hw; subst hw; exact (hle y (h.sub y hy1).1).1
    ·simp at hy;subst hy;refine ⟨by simp,fun w hw ew=>?_⟩;rcases List.mem_append.1 hw with hw | hw
     ·obtain ⟨v,hv,ev⟩:=h.all w hw;have:=hmax v hv;omega
     ·simp at hw; subst hw; exact Int.le_refl _
   ·rcases List.mem_append.1 hy with hy | hy
    ·obtain ⟨v,hv,ev⟩:=h.all y hy;exact ⟨v,List.mem_append_left _ hv,ev⟩
    ·simp at hy; subst hy; exact ⟨y,by simp,rfl⟩
theorem joined_of:∀ (A:List (Int × Nat)),A.Pairwise (fun x y=>x.1≤y.1∧x.2≤y.2)→Joined A (joinF A):=by
 intro A;have main:∀ n,n=A.length→A.Pairwise (fun x y=>x.1≤y.1∧x.2≤y.2)→∀ k,k≤n→Joined (A.take k) (joinF (A.take k)):=by
  intro n hn hp k
  induction k with
  |zero=>intro _; exact ⟨by simp [joinF],fun x hx=>by simp [joinF] at hx,fun y hy=>by simp at hy,rfl⟩
  |succ k ih =>
   intro hk;obtain ⟨x,hx⟩:=some_of_lt2 (l:=A) (k:=k) (by omega);have e:joinF (A.take (k+1))=joinStep (joinF (A.take k)) x:=by rw [take_next hx,joinF,List.foldl_append]; rfl
   rw [e,take_next hx];refine joined_snoc (ih (by omega)) fun y hy=>?_;obtain ⟨i,hi⟩:=List.getElem?_of_mem hy;have hik:i<k:=by have:=(List.getElem?_eq_some_iff.1 hi).1; simp at this; omega
   rw [List.getElem?_take,if_pos hik] at hi;obtain ⟨p1,e1⟩:=List.getElem?_eq_some_iff.1 hi;obtain ⟨p2,e2⟩:=List.getElem?_eq_some_iff.1 hx;have:=List.pairwise_iff_getElem.1 hp i k p1 p2 hik;rw [e1,e2] at this;exact this
 intro hp;have:=main A.length rfl hp A.length (Nat.le_refl _)
 rwa [List.take_length] at this
theorem all_mem {l:List Version} {S:List Int} {p:Int × Nat}:p∈allP l S↔p.1∈S∧newN l p.1=p.2+1:=by
 unfold allP;rw [List.mem_filterMap];constructor
 ·rintro ⟨t,ht,e⟩;split at e
  ·obtain rfl:=Option.some.inj e;exact ⟨ht,by simp only; omega⟩
  ·cases e
 ·rintro ⟨h1,h2⟩;refine ⟨p.1,h1,?_⟩;rw [if_pos (by omega),h2];rfl
theorem join_pairs {l:List Version} {T:List Int}:joinF (allP l (sortI T))=pairsG l T l.length:=by
 have hA:(allP l (sortI T)).Pairwise (fun x y=>x.1≤y.1∧x.2≤y.2):=by
  unfold allP;rw [List.pairwise_filterMap];refine (sortI_sorted T).imp fun {a b} hab x hx y hy=>?_;have hm:=newN_mono hab (l:=l);split at hx
  ·split at hy
   ·obtain rfl:=Option.some.inj hx;obtain rfl:=Option.some.inj hy;exact ⟨hab,by simp only; omega⟩
   ·cases hy
  ·cases hx
 have hJ:=joined_of _ hA;have hm:∀ t,t∈sortI T↔t∈T:=fun t=>(sortI_perm T).mem_iff;refine pairs_ext hJ.lt (pairs_lt.imp fun {a b} h=>h.2) fun p=>?_;rw [pairs_mem];constructor
 ·intro hp;obtain ⟨h1,h2⟩:=hJ.sub p hp;rw [all_mem,hm] at h1;have hle:=newN_le (l:=l) (t:=p.1);exact ⟨by omega,frmT_of h1.1 h1.2 fun s hs e=>h2 (s,p.2) (all_mem.2 ⟨(hm s).2 hs,e⟩) rfl⟩
 ·rintro ⟨h1,h2⟩;obtain ⟨k1,k2,k3⟩:=frmT_some h2;have hpA:p∈allP l (sortI T):=all_mem.2 ⟨(hm _).2 k1,k2⟩;obtain ⟨x,hx,e⟩:=hJ.all p hpA;obtain ⟨h3,h4⟩:=hJ.sub x hx;have h5:=h4 p hpA e.symm;rw [all_mem,hm] at h3;have h6:=k3 x.1 h3.1 (by rw [h3.2,e]);have:x=p:=Prod.ext (by omega) e;rw [← this]; exact hx
def svN (l:List Version) (T:List Int) (fin:Int) (v:Nat):Int:=T.foldl (fun a t=>if newN l t=v+1 then min a t else a) fin
theorem svN_snoc {l:List Version} {T:List Int} {fin t:Int} {v:Nat}:svN l (T++[t]) fin v=if newN l t=v+1 then min (svN l T fin v) t else svN l T fin v:=by
 rw [svN,List.foldl_append]; rfl
theorem svN_frm {l:List Version} {fin:Int} {v:Nat}:∀ {T:List Int},(∀ t∈T,t<fin)→svN l T fin v=(frmT l T v).getD fin:=by
 have main:∀ (T:List Int) (a:Int),T.foldl (fun a t=>if newN l t=v+1 then min a t else a) a=match frmT l T v with | none=>a | some m=>min a m:=by
  intro T
  induction T with
  |nil=>intro a; rfl
  |cons t T ih =>
   intro a;rw [List.foldl_cons,ih];by_cases h:newN l t=v+1
   ·have e:frmT l (t::T) v=match frmT l T v with | none=>some t | some b=>some (if t≤b then t else b):=by
     rw [frmT,List.filter_cons_of_pos (by simpa using h)]; rfl
    rw [if_pos h,e];cases frmT l T v with
    |none=>rfl
    |some b=>simp only; split <;> omega
   ·have e:frmT l (t::T) v=frmT l T v:=by rw [frmT,List.filter_cons_of_neg (by simpa using h)]; rfl
    rw [if_neg h,e]
 intro T hT;unfold svN;rw [main];cases h:frmT l T v with
 |none=>rfl
 |some m =>
  have:=hT m (frmT_some h).1;simp only [Option.getD_some];omega
def goR (F:Nat→Int):Nat→Int→List Stretch
 | 0,_=>[]
 |v+1,u=>if F v<u then ⟨F v,u,v⟩::goR F v (F v) else goR F v u
theorem goR_fix {l:List Version} {T:List Int} {fin:Int} (hT:∀ t∈T,t<fin):∀ (n:Nat) (u:Int),u≤fin→(∀ v t,v<n→frmT l T v=some t→t<u)→(goR (svN l T fin) n u).reverse=fixU (pairsG l T n) u
 | 0,_,_,_=>rfl
 |v+1,u,hu,h=>by
  have e1:pairsG l T (v+1)=pairsG l T v++((frmT l T v).map fun t=>(t,v)).toList:=by
   rw [pairsG,List.range_succ,List.filterMap_append]
   congr 1
   all_goals (cases h1:frmT l T v <;> simp [h1])
  rw [goR,svN_frm hT,e1];cases h1:frmT l T v with
  |none =>
   simp only [Option.getD_none,Option.map_none,Option.toList_none,List.append_nil];rw [if_neg (by omega)];exact goR_fix hT v u hu fun w t hw=>h w t (by omega)
  |some t =>
   have htu:=h v t (by omega) h1;simp only [Option.getD_some,Option.map_some,Option.toList_some];rw [if_pos htu,List.reverse_cons,fixU_snoc]
   congr 1
   refine goR_fix hT v t (by omega) fun w s hw hs=>?_;obtain ⟨_,e2,_⟩:=frmT_some hs;obtain ⟨_,e3,_⟩:=frmT_some h1;rcases Int.lt_or_le s t with h | h
   ·exact h
   ·have:=newN_mono h (l:=l); omega
theorem goR_str {l:List Version} {T:List Int} {fin:Int} (hT:∀ t∈T,t<fin):(goR (svN l T fin) l.length fin).reverse=strC l T fin :=
 goR_fix hT _ _ (Int.le_refl _) fun v t _ h=>hT t (frmT_some h).1
end Go.Proofs.YthikfaephakahaaGreatDoor.P
