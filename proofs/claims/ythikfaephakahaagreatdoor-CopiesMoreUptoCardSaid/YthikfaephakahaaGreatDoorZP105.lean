/- Plain laws of package copies: what a host serves by the copies, and what it should. No conditions. -/
import Derived.Test.YthikfaephakahaaGreatDoorZP94
set_option linter.unusedVariables false
set_option linter.unusedSimpArgs false
namespace Go.Proofs.YthikfaephakahaaGreatDoor.P
open Go Go.Eng
def atGo (l:List Version) (h t:Int):Int→List Copy→Int
 |k,[]=>k
 |k,x::r=>if covB h t x then (if k ≠ -1∨verI l x.zone<0 then -2 else atGo l h t (verI l x.zone) r) else atGo l h t k r
def atV (l:List Version) (c:List Copy) (h t:Int):Int:=atGo l h t (-1) c
theorem atGo_none {l:List Version} {h t:Int}:∀ (c:List Copy) (k:Int),(∀ x∈c,covB h t x=false)→atGo l h t k c=k
 | [],_,_=>rfl
 |x::c,k,H=>by
  rw [atGo,if_neg (by rw [H x (List.mem_cons_self ..)]; decide)];exact atGo_none c k fun y hy=>H y (List.mem_cons_of_mem _ hy)
theorem atGo_one {l:List Version} {h t m:Int}:∀ (c:List Copy),(c.Pairwise fun a b=>¬ (covB h t a=true∧covB h t b=true))→(∀ x∈c,covB h t x=true→verI l x.zone=m∧0≤m)→atGo l h t (-1) c=if c.any (covB h t) then m else -1
 | [],_,_=>rfl
 |x::c,hp,H=>by
  obtain ⟨p1,p2⟩:=List.pairwise_cons.1 hp;rw [atGo,List.any_cons];cases hx:covB h t x
  ·rw [if_neg (by decide),Bool.false_or];exact atGo_one c p2 fun y hy=>H y (List.mem_cons_of_mem _ hy)
  ·obtain ⟨e1,e2⟩:=H x (List.mem_cons_self ..) hx;rw [if_pos rfl,if_neg (by omega),Bool.true_or,if_pos rfl,e1];refine atGo_none c m fun y hy=>?_;have:=p1 y hy;cases hy2:covB h t y
   ·rfl
   ·exact absurd ⟨hx,hy2⟩ this
theorem at_spread {l:List Version} {pr:Int} {polls:List Poll} {fin:Int} (hn:(l.map (·.zone)).Nodup) (hl:∀ v∈l,0≤v.time∧v.time<fin) (hp:∀ p∈polls,pollOK fin p=true) {h t:Int} (h0:0≤h) (h1:h<64) (ht:t<fin):atV l (spreadC l pr polls fin) h t=(srvN l (timesL l pr polls h) t:Int) - 1:=by
 unfold atV
 rw [atGo_one (m:=(srvN l (timesL l pr polls h) t:Int) - 1) (spreadC l pr polls fin) (cov_one ht 64) fun x hx hc=>by
  have:=cov_ver hn hl hp ht hx hc
  omega]
 split
 ·rfl
 ·rename_i hno;cases e:srvN l (timesL l pr polls h) t with
  |zero=>rfl
  |succ v =>
   obtain ⟨c,hc,hc2⟩:=cov_some (pr:=pr) (polls:=polls) (fin:=fin) h0 h1 ht e;exact absurd (List.any_eq_true.2 ⟨c,hc,hc2⟩) hno
theorem srv_prim {l:List Version} {t:Int} (hs:VerS l):srvN l (l.map (·.time)) t=newN l t:=by
 apply Nat.le_antisymm
 ·rcases srv_ex (l:=l) (T:=l.map (·.time)) (t:=t) with e | ⟨s,_,h2,h3⟩
  ·omega
  ·have:=newN_mono h2 (l:=l); omega
 ·cases h:newN l t with
  |zero=>omega
  |succ n =>
   obtain ⟨v,hv⟩:=some_of_lt2 (l:=l) (k:=n) (by have:=newN_le (l:=l) (t:=t); omega);have h1:=(newN_iff hs hv (t:=t)).2 (by omega);have h2:=srv_ge (l:=l) (List.mem_map.2 ⟨v,List.mem_of_getElem? hv,rfl⟩:v.time∈l.map (·.time)) h1;have h3:=(newN_iff hs hv (t:=v.time)).1 (Int.le_refl _);omega
def lastQ (h t:Int) (p:Poll):Bool:=decide (p.host=h)&&(!p.lost&&decide (p.time≤t))
def lastT (h t:Int) (polls:List Poll):Int:=polls.foldl (fun a p=>if lastQ h t p then max a p.time else a) (-1)
theorem lastT_fold {h t:Int}:∀ (polls:List Poll) (a:Int),a≤polls.foldl (fun a p=>if lastQ h t p then max a p.time else a) a∧(∀ p∈polls,lastQ h t p=true→p.time≤polls.foldl (fun a p=>if lastQ h t p then max a p.time else a) a)∧(polls.foldl (fun a p=>if lastQ h t p then max a p.time else a) a=a∨∃ p∈polls,lastQ h t p=true∧polls.foldl (fun a p=>if lastQ h t p then max a p.time else a) a=p.time)
 | [],a=>⟨Int.le_refl _,fun p hp=>by simp at hp,.inl rfl⟩
 |p::polls,a=>by
  obtain ⟨h1,h2,h3⟩:=lastT_fold polls (if lastQ h t p then max a p.time else a) (h:=h) (t:=t);rw [List.foldl_cons];generalize polls.foldl (fun a p=>if lastQ h t p then max a p.time else a) (if lastQ h t p then max a p.time else a)=r at h1 h2 h3 ⊢;cases hq:lastQ h t p
  ·rw [if_neg (by rw [hq]; decide)] at h1 h3;refine ⟨h1,fun q hq2 hq3=>?_,?_⟩
   ·rcases List.mem_cons.1 hq2 with rfl | hq2
    ·rw [hq] at hq3; cases hq3
    ·exact h2 q hq2 hq3
   ·rcases h3 with h3 | ⟨q,q1,q2,q3⟩
    ·exact .inl h3
    ·exact .inr ⟨q,List.mem_cons_of_mem _ q1,q2,q3⟩
  ·rw [if_pos hq] at h1 h3;refine ⟨by omega,fun q hq2 hq3=>?_,?_⟩
   ·rcases List.mem_cons.1 hq2 with rfl | hq2
    ·omega
    ·exact h2 q hq2 hq3
   ·rcases h3 with h3 | ⟨q,q1,q2,q3⟩
    ·rcases Int.le_total a p.time with h4 | h4
     ·exact .inr ⟨p,List.mem_cons_self ..,hq,by omega⟩
     ·exact .inl (by omega)
    ·exact .inr ⟨q,List.mem_cons_of_mem _ q1,q2,q3⟩
theorem lastT_next {h t:Int} {polls:List Poll} {k:Nat} {p:Poll} (hp:polls[k]? = some p):lastT h t (polls.take (k+1))=if lastQ h t p then max (lastT h t (polls.take k)) p.time else lastT h t (polls.take k):=by
 rw [take_next hp,lastT,List.foldl_append]; rfl
theorem srv_poll {l:List Version} {pr h t:Int} {polls:List Poll} (hne:h≠pr) (hl:∀ v∈l,0≤v.time):srvN l (timesL l pr polls h) t=newN l (lastT h t polls):=by
 obtain ⟨h1,h2,h3⟩:=lastT_fold polls (-1) (h:=h) (t:=t);refine srv_last (fun s hs hst=>?_) ?_
 ·rw [timesL,if_neg hne] at hs;obtain ⟨p,hp,rfl⟩:=List.mem_map.1 hs;obtain ⟨hp1,hp2⟩:=List.mem_filter.1 hp;refine h2 p hp1 ?_;simp only [Bool.and_eq_true,decide_eq_true_eq] at hp2;simp [lastQ,hp2.1,hst]
  simpa using hp2.2
 ·rcases h3 with h3 | ⟨p,p1,p2,p3⟩
  ·right;rw [lastT,h3];exact newN_zero fun v hv=>by have:=hl v hv; omega
  ·left;rw [lastT,p3];simp only [lastQ,Bool.and_eq_true,decide_eq_true_eq] at p2;refine ⟨?_,p2.2.2⟩;rw [timesL,if_neg hne];exact List.mem_map.2 ⟨p,List.mem_filter.2 ⟨p1,by simp [p2.1]; simpa using p2.2.1⟩,rfl⟩
end Go.Proofs.YthikfaephakahaaGreatDoor.P
