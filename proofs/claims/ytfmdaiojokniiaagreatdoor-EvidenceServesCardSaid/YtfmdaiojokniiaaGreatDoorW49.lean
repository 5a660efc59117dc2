/- Several texts of mine, one behind the other. Conditions: as each says. -/
import Derived.Test.YtfmdaiojokniiaaGreatDoorW35
import Derived.Test.YtfmdaiojokniiaaGreatDoorW48
set_option linter.unusedVariables false
set_option linter.unusedSimpArgs false
namespace Go.Proofs.YtfmdaiojokniiaaGreatDoor.P
open Go Go.aw Go.Sort
def fk (h:bN) (x:c9) (i:Nat) (t:Int):dj × Int:=ux (eh (dV h x i) t) 0 x.q
theorem KF {f u t s:Int} {K:List Int}:s∈kh f u K t↔s∈K∨(s=t∧f≤t∧t<u):=by
 unfold kh;split
 ·rename_i h; simp [h]
 ·rename_i h;exact ⟨.inl,fun h2=>h2.elim id fun h3=>absurd h3.2 h⟩
theorem KG {f u s:Int}:∀ {l:List aX} {K:List Int},s∈l.foldl (r8 f u) K↔s∈K∨∃ c∈l,(s=c.bQ∨s=c.upto)∧f≤s∧s<u
 | [],K=>by simp
 |c::l,K=>by
  rw [List.foldl_cons,KG];simp only [r8,KF,List.mem_cons];constructor
  ·rintro ((⟨h | ⟨rfl,h⟩⟩ | ⟨rfl,h⟩) | ⟨d,hd,h⟩)
   ·exact .inl h
   ·exact .inr ⟨c,.inl rfl,.inl rfl,h⟩
   ·exact .inr ⟨c,.inl rfl,.inr rfl,h⟩
   ·exact .inr ⟨d,.inr hd,h⟩
  ·rintro (h | ⟨d,rfl | hd,h | h,h2⟩)
   ·exact .inl (.inl (.inl h))
   ·exact .inl (.inl (.inr ⟨h,h ▸ h2⟩))
   ·exact .inl (.inr ⟨h,h ▸ h2⟩)
   ·exact .inr ⟨d,hd,.inl h,h2⟩
   ·exact .inr ⟨d,hd,.inr h,h2⟩
theorem uy {h:bN} {x:c9} {i:Nat} {s:Int}:s∈iL h x i↔(jg h x≤s∧s<nL h x)∧(s=jg h x∨∃ c∈dV h x i,s=c.bQ∨s=c.upto):=by
 unfold iL;rw [(rZ _).mem_iff,ub,ki,KG,KF];simp only [List.not_mem_nil,false_or];constructor
 ·rintro (⟨rfl,h1,h2⟩ | ⟨c,hc,h1,h2⟩)
  ·exact ⟨⟨h1,h2⟩,.inl rfl⟩
  ·exact ⟨h2,.inr ⟨c,hc,h1⟩⟩
 ·rintro ⟨h1,rfl | ⟨c,hc,h2⟩⟩
  ·exact .inl ⟨rfl,h1⟩
  ·exact .inr ⟨c,hc,h2,h1⟩
theorem KI {P:Int→Prop} [DecidablePred P]:∀ {l:List Int},(∃ a∈l,P a)→∃ m∈l,P m∧∀ a∈l,P a→a≤m
 | [],⟨a,h,_⟩=>by simp at h
 |b::l,h=>by
  by_cases hl:∃ a∈l,P a
  ·obtain ⟨m,h1,h2,h3⟩:=KI hl;by_cases hb:P b∧m≤b
   ·exact ⟨b,List.mem_cons_self ..,hb.1,fun a ha hp=>(List.mem_cons.1 ha).elim (fun e=>by omega) fun h=>Int.le_trans (h3 a h hp) hb.2⟩
   ·exact ⟨m,List.mem_cons_of_mem _ h1,h2,fun a ha hp=>(List.mem_cons.1 ha).elim (fun e=>by subst e; have:¬ m≤a:=fun h=>hb ⟨hp,h⟩; omega) fun h=>h3 a h hp⟩
  ·obtain ⟨a,ha,hp⟩:=h;rcases List.mem_cons.1 ha with rfl | ha
   ·exact ⟨a,List.mem_cons_self ..,hp,fun c hc hq=>(List.mem_cons.1 hc).elim (fun e=>by omega) fun h=>absurd ⟨c,h,hq⟩ hl⟩
   ·exact absurd ⟨a,ha,hp⟩ hl
theorem UX {h:bN} {x:c9} {i:Nat} {t:Int} (h1:jg h x≤t) (h2:t<nL h x):∃ s∈iL h x i,eh (dV h x i) s=eh (dV h x i) t:=by
 obtain ⟨m,m1,m2,m3⟩:=KI (P:=fun s=>s≤t) (l:=iL h x i) ⟨jg h x,uy.2 ⟨⟨Int.le_refl _,by omega⟩,.inl rfl⟩,h1⟩;refine ⟨m,m1,?_⟩;unfold eh
 congr 1
 refine List.filter_congr fun c hc=>?_;have hm:=(uy.1 m1).1;have k1:jg h x≤c.bQ→c.bQ≤t→c.bQ≤m:=fun a b=>m3 _ (uy.2 ⟨⟨a,by omega⟩,.inr ⟨c,hc,.inl rfl⟩⟩) b;have k2:jg h x≤c.upto→c.upto≤t→c.upto≤m:=fun a b=>m3 _ (uy.2 ⟨⟨a,by omega⟩,.inr ⟨c,hc,.inr rfl⟩⟩) b;simp only [kj];rw [Bool.eq_iff_iff];simp only [Bool.and_eq_true,decide_eq_true_eq];constructor
 ·rintro ⟨a,b⟩;refine ⟨by omega,?_⟩;rcases Int.lt_or_le t c.upto with u | u
  ·exact u
  ·rcases Int.lt_or_le c.upto (jg h x) with h' | h'
   ·omega
   ·have:=k2 h' u; omega
 ·rintro ⟨a,b⟩;refine ⟨?_,by omega⟩;rcases Int.lt_or_le c.bQ (jg h x) with h' | h'
  ·omega
  ·exact k1 h' a
theorem UY {h g:bN} {x:c9} {i:Nat} (e1:g.aG=h.aG) (e2:g.fin=h.fin) (hd:h.bM≤g.bM) (hc:eZ (fk h x) h x i=true):eZ (fk g x) g x i=true:=by
 unfold eZ at *;rw [List.any_eq_true] at hc ⊢;obtain ⟨t,ht,hv⟩:=hc;have hw:=(uy.1 ht).1;have ec:dV g x i=dV h x i:=by simp [dV,e1]
 obtain ⟨s,s1,s2⟩:=UX (h:=g) (x:=x) (i:=i) (t:=t) (by unfold jg at *; omega) (by unfold nL at *; rw [e2]; omega);refine ⟨s,s1,?_⟩;unfold fk at *;rw [s2,ec];exact hv
theorem UZ {h:bN} {x:c9} {i:Nat} (hc:eZ (fk h x) h x i=true):x.answer.kind=7∨∃ c∈h.aG,c.host=i∧Nm.fZ x.q.name c.ay.ai=true∧c.bQ≤x.time+h.bM∧x.time - h.bM<c.upto:=by
 unfold eZ at hc;rw [List.any_eq_true] at hc;obtain ⟨t,ht,hv⟩:=hc;have hw:=(uy.1 ht).1;simp only [Bool.and_eq_true,beq_iff_eq,decide_eq_true_eq] at hv;cases hz:eh (dV h x i) t with
 |nil =>
  left;rw [← hv.2];simp [fk,hz,ux,fc,mI,mJ]
 |cons p l =>
  right;have hp:p∈eh (dV h x i) t:=by rw [hz]; exact List.mem_cons_self ..
  obtain ⟨c,hc,rfl⟩:=List.mem_map.1 hp;obtain ⟨kp,U0⟩:=List.mem_filter.1 hc;obtain ⟨U1,Em⟩:=List.mem_filter.1 kp;simp only [kj,fj,Bool.and_eq_true,decide_eq_true_eq,beq_iff_eq] at U0 Em;unfold jg nL at hw;exact ⟨c,U1,Em.2,Em.1,by omega,by omega⟩
theorem KJ {ask:Nat→Int→dj × Int} {h:bN} {x:c9} {k:Int}:k∈fa ask h x↔(ez h&&iK x && !qd x.answer)=true∧∃ i:Nat,k=i∧i<h.aB.length∧eZ ask h x i=true:=by
 unfold fa;split
 ·rename_i q;simp only [List.mem_map,List.mem_filter,List.mem_range,q,true_and];exact ⟨fun ⟨i,⟨h1,h2⟩,e⟩=>⟨i,e.symm,h1,h2⟩,fun ⟨i,e,h1,h2⟩=>⟨i,⟨h1,h2⟩,e.symm⟩⟩
 ·rename_i q; simp [q]
theorem U2 {ask:Nat→Int→dj × Int} {h:bN} {x:c9}:(fa ask h x).Pairwise (· < ·):=by
 unfold fa;split
 ·rw [List.pairwise_map];exact (List.pairwise_lt_range.filter _).imp fun h=>by omega
 ·exact .nil
end Go.Proofs.YtfmdaiojokniiaaGreatDoor.P
