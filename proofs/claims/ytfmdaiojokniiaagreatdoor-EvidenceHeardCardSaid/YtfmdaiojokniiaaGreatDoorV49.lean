/- Several texts of mine, one behind the other. Conditions: as each says. -/
import Derived.Test.YtfmdaiojokniiaaGreatDoorV43
import Derived.Test.YtfmdaiojokniiaaGreatDoorV48
set_option linter.unusedVariables false
set_option linter.unusedSimpArgs false
namespace Go.Proofs.YtfmdaiojokniiaaGreatDoor.P
open Go Go.aw Go.Sort
def kn (h:bJ) (x:dF) (i:Nat) (t:Int):dC × Int:=l5 (eD (eS h x i) t) 0 x.q
theorem LZ {f u t s:Int} {K:List Int}:s∈kT f u K t↔s∈K∨(s=t∧f≤t∧t<u):=by
 unfold kT;split
 ·rename_i h; simp [h]
 ·rename_i h;exact ⟨.inl,fun h2=>h2.elim id fun h3=>absurd h3.2 h⟩
theorem L0 {f u s:Int}:∀ {l:List aS} {K:List Int},s∈l.foldl (s8 f u) K↔s∈K∨∃ c∈l,(s=c.bM∨s=c.upto)∧f≤s∧s<u
 | [],K=>by simp
 |c::l,K=>by
  rw [List.foldl_cons,L0];simp only [s8,LZ,List.mem_cons];constructor
  ·rintro ((⟨h | ⟨rfl,h⟩⟩ | ⟨rfl,h⟩) | ⟨d,hd,h⟩)
   ·exact .inl h
   ·exact .inr ⟨c,.inl rfl,.inl rfl,h⟩
   ·exact .inr ⟨c,.inl rfl,.inr rfl,h⟩
   ·exact .inr ⟨d,.inr hd,h⟩
  ·rintro (h | ⟨d,rfl | hd,h | h,h2⟩)
   ·exact .inl (.inl (.inl h))
   ·exact .inl (.inl (.inr ⟨h,h ▸ h2⟩))
   ·exact .inl (.inr ⟨h,h ▸ h2⟩)
   ·exact .inr ⟨d,hd,.inl h,h2⟩
   ·exact .inr ⟨d,hd,.inr h,h2⟩
theorem A8 {h:bJ} {x:dF} {i:Nat} {s:Int}:s∈jl h x i↔(kh h x≤s∧s<pP h x)∧(s=kh h x∨∃ c∈eS h x i,s=c.bM∨s=c.upto):=by
 unfold jl;rw [(s7 _).mem_iff,qX,kU,L0,LZ];simp only [List.not_mem_nil,false_or];constructor
 ·rintro (⟨rfl,h1,h2⟩ | ⟨c,hc,h1,h2⟩)
  ·exact ⟨⟨h1,h2⟩,.inl rfl⟩
  ·exact ⟨h2,.inr ⟨c,hc,h1⟩⟩
 ·rintro ⟨h1,rfl | ⟨c,hc,h2⟩⟩
  ·exact .inl ⟨rfl,h1⟩
  ·exact .inr ⟨c,hc,h2,h1⟩
theorem L1 {P:Int→Prop} [DecidablePred P]:∀ {l:List Int},(∃ a∈l,P a)→∃ m∈l,P m∧∀ a∈l,P a→a≤m
 | [],⟨a,h,_⟩=>by simp at h
 |b::l,h=>by
  by_cases hl:∃ a∈l,P a
  ·obtain ⟨m,h1,h2,h3⟩:=L1 hl;by_cases hb:P b∧m≤b
   ·exact ⟨b,List.mem_cons_self ..,hb.1,fun a ha hp=>(List.mem_cons.1 ha).elim (fun e=>by omega) fun h=>Int.le_trans (h3 a h hp) hb.2⟩
   ·exact ⟨m,List.mem_cons_of_mem _ h1,h2,fun a ha hp=>(List.mem_cons.1 ha).elim (fun e=>by subst e; have:¬ m≤a:=fun h=>hb ⟨hp,h⟩; omega) fun h=>h3 a h hp⟩
  ·obtain ⟨a,ha,hp⟩:=h;rcases List.mem_cons.1 ha with rfl | ha
   ·exact ⟨a,List.mem_cons_self ..,hp,fun c hc hq=>(List.mem_cons.1 hc).elim (fun e=>by omega) fun h=>absurd ⟨c,h,hq⟩ hl⟩
   ·exact absurd ⟨a,ha,hp⟩ hl
theorem WC {h:bJ} {x:dF} {i:Nat} {t:Int} (h1:kh h x≤t) (h2:t<pP h x):∃ s∈jl h x i,eD (eS h x i) s=eD (eS h x i) t:=by
 obtain ⟨m,m1,m2,m3⟩:=L1 (P:=fun s=>s≤t) (l:=jl h x i) ⟨kh h x,A8.2 ⟨⟨Int.le_refl _,by omega⟩,.inl rfl⟩,h1⟩;refine ⟨m,m1,?_⟩;unfold eD
 congr 1
 refine List.filter_congr fun c hc=>?_;have hm:=(A8.1 m1).1;have k1:kh h x≤c.bM→c.bM≤t→c.bM≤m:=fun a b=>m3 _ (A8.2 ⟨⟨a,by omega⟩,.inr ⟨c,hc,.inl rfl⟩⟩) b;have k2:kh h x≤c.upto→c.upto≤t→c.upto≤m:=fun a b=>m3 _ (A8.2 ⟨⟨a,by omega⟩,.inr ⟨c,hc,.inr rfl⟩⟩) b;simp only [kV];rw [Bool.eq_iff_iff];simp only [Bool.and_eq_true,decide_eq_true_eq];constructor
 ·rintro ⟨a,b⟩;refine ⟨by omega,?_⟩;rcases Int.lt_or_le t c.upto with u | u
  ·exact u
  ·rcases Int.lt_or_le c.upto (kh h x) with h' | h'
   ·omega
   ·have:=k2 h' u; omega
 ·rintro ⟨a,b⟩;refine ⟨?_,by omega⟩;rcases Int.lt_or_le c.bM (kh h x) with h' | h'
  ·omega
  ·exact k1 h' a
theorem WD {ask:Nat→Int→dC × Int} {h:bJ} {x:dF} {k:Int}:k∈kW ask h x↔(dg h&&jk x && !lX x.answer)=true∧∃ i:Nat,k=i∧i<h.aA.length∧gu ask h x i=true:=by
 unfold kW;split
 ·rename_i q;simp only [List.mem_map,List.mem_filter,List.mem_range,q,true_and];exact ⟨fun ⟨i,⟨h1,h2⟩,e⟩=>⟨i,e.symm,h1,h2⟩,fun ⟨i,e,h1,h2⟩=>⟨i,⟨h1,h2⟩,e.symm⟩⟩
 ·rename_i q; simp [q]
end Go.Proofs.YtfmdaiojokniiaaGreatDoor.P
