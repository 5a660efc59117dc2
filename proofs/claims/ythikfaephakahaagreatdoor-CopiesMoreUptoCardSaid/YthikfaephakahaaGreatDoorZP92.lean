/- Plain laws of package copies: what a host serves at a time, and by how much it is behind. No conditions. -/
import Derived.Test.YthikfaephakahaaGreatDoorZP91
set_option linter.unusedVariables false
set_option linter.unusedSimpArgs false
namespace Go.Proofs.YthikfaephakahaaGreatDoor.P
open Go Go.Eng
def srvN (l:List Version) (T:List Int) (t:Int):Nat:=T.foldl (fun a s=>if s≤t then max a (newN l s) else a) 0
theorem srv_fold {l:List Version} {t:Int}:∀ (T:List Int) (a:Nat),a≤T.foldl (fun a s=>if s≤t then max a (newN l s) else a) a∧(∀ s∈T,s≤t→newN l s≤T.foldl (fun a s=>if s≤t then max a (newN l s) else a) a) ∧
  (T.foldl (fun a s=>if s≤t then max a (newN l s) else a) a=a∨∃ s∈T,s≤t∧newN l s=T.foldl (fun a s=>if s≤t then max a (newN l s) else a) a)
 | [],a=>⟨Nat.le_refl _,fun s hs=>by simp at hs,.inl rfl⟩
 |x::T,a=>by
  rw [List.foldl_cons];by_cases hx:x≤t
  ·rw [if_pos hx];obtain ⟨h1,h2,h3⟩:=srv_fold (l:=l) (t:=t) T (max a (newN l x));refine ⟨by omega,fun s hs hst=>?_,?_⟩
   ·rcases List.mem_cons.1 hs with rfl | hs
    ·omega
    ·exact h2 s hs hst
   ·rcases h3 with h3 | ⟨s,h4,h5,h6⟩
    ·by_cases hm:a≤newN l x
     ·exact .inr ⟨x,List.mem_cons_self ..,hx,by omega⟩
     ·exact .inl (by omega)
    ·exact .inr ⟨s,List.mem_cons_of_mem _ h4,h5,h6⟩
  ·rw [if_neg hx];obtain ⟨h1,h2,h3⟩:=srv_fold (l:=l) (t:=t) T a;refine ⟨h1,fun s hs hst=>?_,?_⟩
   ·rcases List.mem_cons.1 hs with rfl | hs
    ·omega
    ·exact h2 s hs hst
   ·rcases h3 with h3 | ⟨s,h4,h5,h6⟩
    ·exact .inl h3
    ·exact .inr ⟨s,List.mem_cons_of_mem _ h4,h5,h6⟩
theorem srv_ge {l:List Version} {T:List Int} {s t:Int} (hs:s∈T) (h:s≤t):newN l s≤srvN l T t:=(srv_fold T 0).2.1 s hs h
theorem srv_ex {l:List Version} {T:List Int} {t:Int}:srvN l T t=0∨∃ s∈T,s≤t∧newN l s=srvN l T t:=(srv_fold T 0).2.2
theorem srv_le {l:List Version} {T:List Int} {t:Int}:srvN l T t≤l.length:=by
 rcases srv_ex (l:=l) (T:=T) (t:=t) with h | ⟨s,_,_,h⟩
 ·omega
 ·have:=newN_le (l:=l) (t:=s); omega
theorem srv_sub {l:List Version} {T U:List Int} {t:Int} (h:∀ s∈T,s∈U):srvN l T t≤srvN l U t:=by
 rcases srv_ex (l:=l) (T:=T) (t:=t) with e | ⟨s,h1,h2,h3⟩
 ·omega
 ·have:=srv_ge (l:=l) (h s h1) h2; omega
theorem srv_last {l:List Version} {T:List Int} {t m:Int} (h1:∀ s∈T,s≤t→s≤m) (h2:m∈T∧m≤t∨newN l m=0):srvN l T t=newN l m:=by
 apply Nat.le_antisymm
 ·rcases srv_ex (l:=l) (T:=T) (t:=t) with e | ⟨s,h3,h4,h5⟩
  ·omega
  ·have:=newN_mono (h1 s h3 h4) (l:=l); omega
 ·rcases h2 with ⟨h3,h4⟩ | h3
  ·exact srv_ge h3 h4
  ·omega
theorem frmT_ex {l:List Version} {T:List Int} {v:Nat} {s:Int} (h1:s∈T) (h2:newN l s=v+1):∃ f,frmT l T v=some f∧f≤s:=by
 obtain ⟨m,hm⟩:=minL_ex (List.mem_filter.2 ⟨h1,by simpa using h2⟩:s∈T.filter fun t=>decide (newN l t=v+1));exact ⟨m,hm,(frmT_some (show frmT l T v=some m from hm)).2.2 s h1 h2⟩
theorem pair_at {a:List (Int × Nat)} (h:a.Pairwise fun x y=>x.1<y.1∧x.2<y.2) {i j:Nat} {x y:Int × Nat} (hi:a[i]? = some x) (hj:a[j]? = some y):(i<j↔x.2<y.2)∧(i≤j→x.1≤y.1)∧(i<j→x.1<y.1):=by
 obtain ⟨p1,e1⟩:=List.getElem?_eq_some_iff.1 hi;obtain ⟨p2,e2⟩:=List.getElem?_eq_some_iff.1 hj;have lt:i<j→x.1<y.1∧x.2<y.2:=fun hij=>by
  have:=List.pairwise_iff_getElem.1 h i j p1 p2 hij
  rwa [e1,e2] at this
 have gt:j<i→y.1<x.1∧y.2<x.2:=fun hij=>by
  have:=List.pairwise_iff_getElem.1 h j i p2 p1 hij
  rwa [e1,e2] at this
 refine ⟨⟨fun hij=>(lt hij).2,fun hxy=>?_⟩,fun hij=>?_,fun hij=>(lt hij).1⟩
 ·rcases Nat.lt_trichotomy i j with h3 | h3 | h3
  ·exact h3
  ·subst h3; rw [hi] at hj; obtain rfl:=Option.some.inj hj; omega
  ·have:=gt h3; omega
 ·rcases Nat.lt_or_ge i j with h3 | h3
  ·exact Int.le_of_lt (lt h3).1
  ·have:i=j:=by omega
   subst this; rw [hi] at hj; obtain rfl:=Option.some.inj hj; exact Int.le_refl _
theorem next_at {a:List (Int × Nat)} {j:Nat} {u:Int}:(nextF (a.drop (j+1)) u=u∧a.length≤j+1)∨∃ q,a[j+1]? = some q∧nextF (a.drop (j+1)) u=q.1:=by
 cases h:a.drop (j+1) with
 |nil=>exact .inl ⟨rfl,by simpa using h⟩
 |cons q r =>
  right;refine ⟨q,?_,rfl⟩;have:(a.drop (j+1))[0]? = some q:=by rw [h]; rfl
  rwa [List.getElem?_drop,Nat.add_zero] at this
theorem str_at {l:List Version} {T:List Int} {fin:Int} {x:Stretch} {j:Nat} (h:(strC l T fin)[j]? = some x):∃ v:Nat,x.ver=v∧v<l.length∧frmT l T v=some x.frm∧(pairsG l T l.length)[j]? = some (x.frm,v)∧x.upto=nextF ((pairsG l T l.length).drop (j+1)) fin:=by
 obtain ⟨p,h1,rfl⟩:=fixU_get h;obtain ⟨h2,h3⟩:=pairs_mem.1 (List.mem_of_getElem? h1);exact ⟨p.2,rfl,h2,h3,h1,rfl⟩
theorem str_range {l:List Version} {T:List Int} {fin:Int} (hT:∀ t∈T,0≤t∧t<fin) {x:Stretch} (h:x∈strC l T fin):0≤x.frm∧x.frm<x.upto∧x.upto≤fin∧0≤x.ver∧x.ver<l.length:=by
 obtain ⟨j,hj⟩:=List.getElem?_of_mem h;obtain ⟨v,h1,h2,h3,h4,h5⟩:=str_at hj;obtain ⟨k1,k2,k3⟩:=frmT_some h3;have:=hT _ k1;rcases next_at (a:=pairsG l T l.length) (j:=j) (u:=fin) with ⟨e,_⟩ | ⟨q,e1,e2⟩
 ·rw [h5,e]; omega
 ·obtain ⟨_,q2⟩:=pairs_mem.1 (List.mem_of_getElem? e1);have:=hT _ (frmT_some q2).1;have:=(pair_at pairs_lt h4 e1).2.2 (by omega);rw [h5,e2];simp only at this;omega
theorem str_next {l:List Version} {T:List Int} {fin:Int} {x y:Stretch} {j:Nat} (hx:(strC l T fin)[j]? = some x) (hy:(strC l T fin)[j+1]? = some y):y.frm=x.upto∧x.ver<y.ver:=by
 obtain ⟨v,h1,h2,h3,h4,h5⟩:=str_at hx;obtain ⟨w,k1,k2,k3,k4,k5⟩:=str_at hy;have:=(pair_at pairs_lt h4 k4).1.1 (by omega);rcases next_at (a:=pairsG l T l.length) (j:=j) (u:=fin) with ⟨e,e2⟩ | ⟨q,e1,e2⟩
 ·have:=(List.getElem?_eq_some_iff.1 k4).1; omega
 ·rw [k4] at e1;obtain rfl:=Option.some.inj e1;simp only at this;exact ⟨by rw [h5,e2],by omega⟩
theorem str_end {l:List Version} {T:List Int} {fin:Int} {x:Stretch} {j:Nat} (hx:(strC l T fin)[j]? = some x) (hj:(strC l T fin).length=j+1):x.upto=fin:=by
 obtain ⟨v,h1,h2,h3,h4,h5⟩:=str_at hx;rcases next_at (a:=pairsG l T l.length) (j:=j) (u:=fin) with ⟨e,e2⟩ | ⟨q,e1,e2⟩
 ·rw [h5,e]
 ·have h6:=(List.getElem?_eq_some_iff.1 e1).1;have h7:(strC l T fin).length=(pairsG l T l.length).length:=fixU_len _ _;omega
theorem str_srv {l:List Version} {T:List Int} {fin t:Int} (hf:t<fin) {x:Stretch} (h:x∈strC l T fin):(x.frm≤t∧t<x.upto)↔(srvN l T t:Int)=x.ver+1:=by
 obtain ⟨j,hj⟩:=List.getElem?_of_mem h;obtain ⟨v,h1,h2,h3,h4,h5⟩:=str_at hj;obtain ⟨k1,k2,k3⟩:=frmT_some h3;have hnext:=next_at (a:=pairsG l T l.length) (j:=j) (u:=fin);rw [← h5] at hnext;constructor
 ·rintro ⟨a1,a2⟩;have g1:=srv_ge (l:=l) k1 a1;rcases srv_ex (l:=l) (T:=T) (t:=t) with e | ⟨s,s1,s2,s3⟩
  ·omega
  ·by_cases hw:srvN l T t=v+1
   ·omega
   ·exfalso;obtain ⟨w,hw⟩:∃ w,srvN l T t=w+1:=⟨srvN l T t - 1,by omega⟩;obtain ⟨f,f1,f2⟩:=frmT_ex s1 (s3.trans hw);have hwl:w<l.length:=by have:=srv_le (l:=l) (T:=T) (t:=t); omega
    obtain ⟨i,hi⟩:=List.getElem?_of_mem (pairs_mem.2 ⟨hwl,f1⟩:(f,w)∈pairsG l T l.length);have hji:=(pair_at pairs_lt h4 hi).1.2 (by simp only; omega);rcases hnext with ⟨_,e2⟩ | ⟨q,e1,e2⟩
    ·have:=(List.getElem?_eq_some_iff.1 hi).1; omega
    ·have:=(pair_at pairs_lt e1 hi).2.1 (by omega);simp only at this;omega
 ·intro e;have e:srvN l T t=v+1:=by omega
  rcases srv_ex (l:=l) (T:=T) (t:=t) with e0 | ⟨s,s1,s2,s3⟩
  ·omega
  ·have:=k3 s s1 (s3.trans e);refine ⟨by omega,?_⟩;rcases hnext with ⟨e1,_⟩ | ⟨q,e1,e2⟩
   ·rw [e1]; exact hf
   ·obtain ⟨_,q2⟩:=pairs_mem.1 (List.mem_of_getElem? e1);obtain ⟨q3,q4,_⟩:=frmT_some q2;have hq:=(pair_at pairs_lt h4 e1).1.1 (by omega);simp only at hq;rcases Int.lt_or_le t q.1 with g | g
    ·rw [e2]; exact g
    ·have:=srv_ge (l:=l) q3 g; omega
theorem srv_str {l:List Version} {T:List Int} {fin t:Int} {v:Nat} (h:srvN l T t=v+1):∃ x∈strC l T fin,x.ver=v:=by
 rcases srv_ex (l:=l) (T:=T) (t:=t) with e | ⟨s,s1,s2,s3⟩
 ·omega
 ·obtain ⟨f,f1,_⟩:=frmT_ex s1 (s3.trans h);have hwl:v<l.length:=by have:=srv_le (l:=l) (T:=T) (t:=t); omega
  obtain ⟨i,hi⟩:=List.getElem?_of_mem (pairs_mem.2 ⟨hwl,f1⟩:(f,v)∈pairsG l T l.length);have hlen:(strC l T fin).length=(pairsG l T l.length).length:=fixU_len _ _;obtain ⟨x,hx⟩:=some_of_lt2 (l:=strC l T fin) (k:=i) (by have:=(List.getElem?_eq_some_iff.1 hi).1; omega);obtain ⟨w,h1,_,_,h4,_⟩:=str_at hx;rw [hi] at h4;have:=Option.some.inj h4;refine ⟨x,List.mem_of_getElem? hx,?_⟩;rw [h1];have:=congrArg Prod.snd this;simp only at this;omega
theorem str_same {l:List Version} {T U:List Int} {fin:Int} (h:∀ t,t∈T↔t∈U):strC l T fin=strC l U fin:=by
 have e:∀ v,frmT l T v=frmT l U v:=fun v=>by
  cases h1:frmT l T v with
  |none =>
   cases h2:frmT l U v with
   |none=>rfl
   |some m =>
    obtain ⟨k1,k2,_⟩:=frmT_some h2;obtain ⟨f,f1,_⟩:=frmT_ex ((h m).2 k1) k2;rw [h1] at f1; cases f1
  |some m =>
   obtain ⟨k1,k2,k3⟩:=frmT_some h1;exact (frmT_of ((h m).1 k1) k2 fun s hs e=>k3 s ((h s).2 hs) e).symm
 unfold strC pairsG;simp only [e]
def timeA (l:List Version) (n:Int):Int:=match l[n.toNat]? with | some v=>v.time | none=>0
def lagB (l:List Version) (lag at_ upto fol:Int):Int:=if at_<upto∧fol<l.length then max lag (upto - timeA l fol) else lag
def lagStep (l:List Version) (p:Int × Int) (s:Stretch):Int × Int:=(lagB l (lagB l p.1 p.2 s.frm 0) s.frm s.upto (s.ver+1),s.upto)
def lagL (l:List Version) (own:List Stretch) (fin:Int):Int:=lagB l (own.foldl (lagStep l) (0,0)).1 (own.foldl (lagStep l) (0,0)).2 fin 0
def dueN (l:List Version) (n:Nat) (t:Int):Int:=match l[n]? with
 |some v=>if v.time≤t then t+1 - v.time else 0
 |none=>0
theorem due_mono {l:List Version} (hs:VerS l) {m n:Nat} (h:m≤n) (t:Int):dueN l n t≤dueN l m t:=by
 unfold dueN;cases hn:l[n]? with
 |none=>simp only; cases l[m]? <;> simp only <;> (try split) <;> omega
 |some v =>
  obtain ⟨w,hw⟩:=some_of_lt2 (l:=l) (k:=m) (by have:=(List.getElem?_eq_some_iff.1 hn).1; omega);rw [hw];have:w.time≤v.time:=by
   rcases Nat.lt_or_ge m n with h1 | h1
   ·obtain ⟨p1,e1⟩:=List.getElem?_eq_some_iff.1 hn;obtain ⟨p2,e2⟩:=List.getElem?_eq_some_iff.1 hw;have:=List.pairwise_iff_getElem.1 hs m n p2 p1 h1;rw [e1,e2] at this;omega
   ·have:m=n:=by omega
    subst this; rw [hn] at hw; obtain rfl:=Option.some.inj hw; exact Int.le_refl _
  simp only;split <;> split <;> omega
theorem lagB_ge {l:List Version} {a b c d:Int}:a≤lagB l a b c d:=by unfold lagB; split <;> omega
theorem lagB_same {l:List Version} {a b d:Int}:lagB l a b b d=a:=by unfold lagB; rw [if_neg (by omega)]
theorem lag_fold {l:List Version} {fin:Int}:∀ (r:List (Int × Nat)) (p:Int × Nat) (a:Int),(p::r).Pairwise (fun x y=>x.1<y.1∧x.2<y.2)→(∀ q∈p::r,q.1<fin) →
  ((fixU (p::r) fin).foldl (lagStep l) (a,p.1)).2=fin∧a≤((fixU (p::r) fin).foldl (lagStep l) (a,p.1)).1 ∧
  (∀ s∈fixU (p::r) fin,s.ver+1<l.length→s.upto - timeA l (s.ver+1)≤((fixU (p::r) fin).foldl (lagStep l) (a,p.1)).1) ∧
  (((fixU (p::r) fin).foldl (lagStep l) (a,p.1)).1=a∨∃ s∈fixU (p::r) fin,s.ver+1<l.length∧((fixU (p::r) fin).foldl (lagStep l) (a,p.1)).1=s.upto - timeA l (s.ver+1))
 | [],p,a,hp,hf=>by
  have hpf:=hf p (List.mem_cons_self ..);have e:(fixU [p] fin).foldl (lagStep l) (a,p.1)=(lagB l a p.1 fin (p.2+1),fin):=by simp [fixU,nextF,lagStep,lagB_same]
  rw [e];refine ⟨rfl,lagB_ge,fun s hs hv=>?_,?_⟩
  ·simp [fixU,nextF] at hs;subst hs;simp only at hv ⊢;unfold lagB;rw [if_pos ⟨hpf,hv⟩];omega
  ·unfold lagB;simp only;split
   ·rename_i h;by_cases hm:a≤fin - timeA l (p.2+1)
    ·exact .inr ⟨⟨p.1,fin,p.2⟩,by simp [fixU,nextF],h.2,by simp only; omega⟩
    ·exact .inl (by omega)
   ·exact .inl rfl
 |q::r,p,a,hp,hf=>by
  obtain ⟨h1,h2⟩:=List.pairwise_cons.1 hp;have hpq:=(h1 q (List.mem_cons_self ..)).1;have e:(fixU (p::q::r) fin).foldl (lagStep l) (a,p.1)=(fixU (q::r) fin).foldl (lagStep l) (lagB l a p.1 q.1 (p.2+1),q.1):=by
   rw [fixU,List.foldl_cons]
   congr 1
   simp [lagStep,nextF,lagB_same]
  rw [e];obtain ⟨k1,k2,k3,k4⟩:=lag_fold r q (lagB l a p.1 q.1 (p.2+1)) h2 (fun x hx=>hf x (List.mem_cons_of_mem _ hx));refine ⟨k1,Int.le_trans lagB_ge k2,fun s hs hv=>?_,?_⟩
  ·rw [fixU] at hs;rcases List.mem_cons.1 hs with rfl | hs
   ·simp only [nextF] at hv ⊢;refine Int.le_trans ?_ k2;unfold lagB;rw [if_pos ⟨hpq,hv⟩];omega
   ·exact k3 s hs hv
  ·rcases k4 with k4 | ⟨s,s1,s2,s3⟩
   ·rw [k4];unfold lagB;split
    ·rename_i h;by_cases hm:a≤q.1 - timeA l (p.2+1)
     ·exact .inr ⟨⟨p.1,q.1,p.2⟩,by simp [fixU,nextF],h.2,by simp only; omega⟩
     ·exact .inl (by omega)
    ·exact .inl rfl
   ·exact .inr ⟨s,by rw [fixU]; exact List.mem_cons_of_mem _ s1,s2,s3⟩
theorem due_at {l:List Version} {v:Nat} {t:Int} (h:v<l.length):dueN l v t=if timeA l v≤t then t+1 - timeA l v else 0:=by
 obtain ⟨w,hw⟩:=some_of_lt2 h;simp [dueN,timeA,hw]
theorem due_none {l:List Version} {v:Nat} {t:Int} (h:l.length≤v):dueN l v t=0:=by
 unfold dueN;rw [List.getElem?_eq_none h]
theorem srv_zero {l:List Version} {T:List Int} {t:Int} {p:Int × Nat} {r:List (Int × Nat)} (h:pairsG l T l.length=p::r) (ht:t<p.1):srvN l T t=0:=by
 rcases srv_ex (l:=l) (T:=T) (t:=t) with e | ⟨s,s1,s2,s3⟩
 ·exact e
 ·apply Classical.byContradiction;intro hne;obtain ⟨w,hw⟩:∃ w,srvN l T t=w+1:=⟨srvN l T t - 1,by omega⟩;obtain ⟨f,f1,f2⟩:=frmT_ex s1 (s3.trans hw);have hwl:w<l.length:=by have:=srv_le (l:=l) (T:=T) (t:=t); omega
  have hm:(f,w)∈pairsG l T l.length:=pairs_mem.2 ⟨hwl,f1⟩;have hlt:=pairs_lt (l:=l) (T:=T) (n:=l.length);rw [h] at hm hlt;rcases List.mem_cons.1 hm with e | e
  ·have:=congrArg Prod.fst e; simp only at this; omega
  ·have:=((List.pairwise_cons.1 hlt).1 _ e).1; simp only at this; omega
theorem lag_bounds {l:List Version} {T:List Int} {fin:Int} (hl:0<l.length) (hfin:0<fin) (hT:∀ t∈T,0≤t∧t<fin) :
  (∀ t,0≤t→t<fin→dueN l (srvN l T t) t≤lagL l (strC l T fin) fin)∧0≤lagL l (strC l T fin) fin∧(lagL l (strC l T fin) fin=0∨∃ t,0≤t∧t<fin∧lagL l (strC l T fin) fin=dueN l (srvN l T t) t):=by
 cases hQ:pairsG l T l.length with
 |nil =>
  have hs:∀ t,srvN l T t=0:=fun t=>by
   rcases srv_ex (l:=l) (T:=T) (t:=t) with e | ⟨s,s1,s2,s3⟩
   ·exact e
   ·apply Classical.byContradiction;intro hne;obtain ⟨w,hw⟩:∃ w,srvN l T t=w+1:=⟨srvN l T t - 1,by omega⟩;obtain ⟨f,f1,f2⟩:=frmT_ex s1 (s3.trans hw);have hm:(f,w)∈pairsG l T l.length:=pairs_mem.2 ⟨by have:=srv_le (l:=l) (T:=T) (t:=t); omega,f1⟩;rw [hQ] at hm;simp at hm
  have e:lagL l (strC l T fin) fin=max 0 (fin - timeA l 0):=by
   simp only [lagL,strC,hQ,fixU,List.foldl_nil,lagB];rw [if_pos ⟨hfin,by omega⟩]
  rw [e];refine ⟨fun t h1 h2=>?_,by omega,?_⟩
  ·rw [hs,due_at hl];show (if timeA l 0≤t then t+1 - timeA l 0 else 0)≤_;split <;> omega
  ·by_cases h0:fin - timeA l 0≤0
   ·exact .inl (by omega)
   ·refine .inr ⟨fin - 1,by omega,by omega,?_⟩;rw [hs,due_at hl];show _=if timeA l 0≤fin - 1 then fin - 1+1 - timeA l 0 else 0;rw [if_pos (by omega)];omega
 |cons p r =>
  have hlt:=pairs_lt (l:=l) (T:=T) (n:=l.length);have hmem:∀ q∈p::r,0≤q.1∧q.1<fin:=fun q hq=>by
   rw [← hQ] at hq;exact hT _ (frmT_some (pairs_mem.1 hq).2).1
  rw [hQ] at hlt;have hp:=hmem p (List.mem_cons_self ..);obtain ⟨k1,k2,k3,k4⟩:=lag_fold (l:=l) (fin:=fin) r p (lagB l 0 0 p.1 0) hlt (fun q hq=>(hmem q hq).2);have e0:(strC l T fin).foldl (lagStep l) (0,0)=(fixU (p::r) fin).foldl (lagStep l) (lagB l 0 0 p.1 0,p.1):=by
   rw [strC,hQ,fixU,List.foldl_cons,List.foldl_cons]
   congr 1
   simp [lagStep,lagB_same]
  have e:lagL l (strC l T fin) fin=((fixU (p::r) fin).foldl (lagStep l) (lagB l 0 0 p.1 0,p.1)).1:=by
   rw [lagL,e0,k1,lagB_same]
  have hstr:strC l T fin=fixU (p::r) fin:=by rw [strC,hQ]
  rw [e];refine ⟨fun t h1 h2=>?_,Int.le_trans lagB_ge k2,?_⟩
  ·cases hn:srvN l T t with
   |zero =>
    have ht:t<p.1:=by
     rcases Int.lt_or_le t p.1 with g | g
     ·exact g
     ·have hpp:p∈pairsG l T l.length:=by rw [hQ]; exact List.mem_cons_self ..
      obtain ⟨q1,q2,q3⟩:=frmT_some (pairs_mem.1 hpp).2;have:=srv_ge (l:=l) q1 g;omega
    rw [due_at hl];show (if timeA l 0≤t then t+1 - timeA l 0 else 0)≤_;refine Int.le_trans ?_ k2;have e1:lagB l 0 0 p.1 0=max 0 (p.1 - timeA l 0):=by
     unfold lagB;rw [if_pos ⟨by omega,by omega⟩]
    rw [e1];split <;> omega
   |succ v =>
    by_cases hv:v+1<l.length
    ·obtain ⟨x,hx,ex⟩:=srv_str (fin:=fin) hn;have hc:=(str_srv h2 hx).2 (by rw [hn,ex]; omega);rw [hstr] at hx;have:=k3 x hx (by rw [ex]; omega);rw [due_at hv];have ec:x.ver+1=((v+1:Nat):Int):=by rw [ex]; omega
     rw [ec] at this;have h0:0≤lagB l 0 0 p.1 0:=lagB_ge;split <;> omega
    ·rw [due_none (by omega)];have h0:0≤lagB l 0 0 p.1 0:=lagB_ge;omega
  ·have first:lagB l 0 0 p.1 0=0∨∃ t,0≤t∧t<fin∧lagB l 0 0 p.1 0=dueN l (srvN l T t) t:=by
    unfold lagB;split
    ·rename_i h;by_cases h0:p.1 - timeA l 0≤0
     ·exact .inl (by omega)
     ·refine .inr ⟨p.1 - 1,by omega,by omega,?_⟩;rw [srv_zero hQ (by omega),due_at hl];show _=if timeA l 0≤p.1 - 1 then p.1 - 1+1 - timeA l 0 else 0;rw [if_pos (by omega)];omega
    ·exact .inl rfl
   rcases k4 with k4 | ⟨s,s1,s2,s3⟩
   ·rw [k4]; exact first
   ·rw [← hstr] at s1;obtain ⟨r1,r2,r3,r4,r5⟩:=str_range hT s1;by_cases h0:s.upto - timeA l (s.ver+1)≤0
    ·have h0':0≤lagB l 0 0 p.1 0:=lagB_ge;exact .inl (by omega)
    ·refine .inr ⟨s.upto - 1,by omega,by omega,?_⟩;have hc:=(str_srv (t:=s.upto - 1) (by omega) s1).1 ⟨by omega,by omega⟩;have e2:srvN l T (s.upto - 1)=(s.ver+1).toNat:=by omega
     rw [e2,due_at (by omega),Int.toNat_of_nonneg (by omega),if_pos (by omega),s3];omega
theorem lag_sub {l:List Version} {T U:List Int} {fin:Int} (hs:VerS l) (hl:0<l.length) (hfin:0<fin) (hT:∀ t∈T,0≤t∧t<fin) (hU:∀ t∈U,0≤t∧t<fin) (h:∀ t∈T,t∈U):lagL l (strC l U fin) fin≤lagL l (strC l T fin) fin:=by
 obtain ⟨a1,a2,a3⟩:=lag_bounds hl hfin hT;obtain ⟨b1,b2,b3⟩:=lag_bounds hl hfin hU;rcases b3 with b3 | ⟨t,t1,t2,t3⟩
 ·omega
 ·rw [t3];exact Int.le_trans (due_mono hs (srv_sub h) t) (a1 t t1 t2)
theorem lag_first {l:List Version} {fin:Int} (hs:VerS l) (hl:0<l.length) (hfin:0<fin) (hT:∀ v∈l,0≤v.time∧v.time<fin):lagL l (strC l (l.map (·.time)) fin) fin=0:=by
 obtain ⟨a1,a2,a3⟩:=lag_bounds hl hfin (T:=l.map (·.time)) (fun t ht=>by obtain ⟨v,hv,rfl⟩:=List.mem_map.1 ht; exact hT v hv);rcases a3 with a3 | ⟨t,t1,t2,t3⟩
 ·exact a3
 ·rw [t3];have hn:newN l t≤srvN l (l.map (·.time)) t:=by
   cases h:newN l t with
   |zero=>omega
   |succ n =>
    obtain ⟨v,hv⟩:=some_of_lt2 (l:=l) (k:=n) (by have:=newN_le (l:=l) (t:=t); omega);have h1:=(newN_iff hs hv (t:=t)).2 (by omega);have h2:=srv_ge (l:=l) (List.mem_map.2 ⟨v,List.mem_of_getElem? hv,rfl⟩:v.time∈l.map (·.time)) h1;have h3:=(newN_iff hs hv (t:=v.time)).1 (Int.le_refl _);omega
  have:=due_mono hs hn t;have h0:dueN l (newN l t) t=0:=by
   unfold dueN;cases hv:l[newN l t]? with
   |none=>rfl
   |some v =>
    have:=newN_iff hs hv (t:=t);simp only;rw [if_neg (by omega)]
  have h1:0≤dueN l (srvN l (l.map (·.time)) t) t:=by rw [← t3]; exact a2
  omega
end Go.Proofs.YthikfaephakahaaGreatDoor.P
