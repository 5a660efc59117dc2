/- Several texts of mine, one behind the other. Conditions: as each says. -/
import Derived.Test.YtfmdaiojokniiaaGreatDoorY25
import Derived.Test.YtfmdaiojokniiaaGreatDoorY39
set_option linter.unusedVariables false
set_option linter.unusedSimpArgs false
section
namespace Go.ax
open Go Go.RowKit
section
variable {E:Env} {s:List AV} {h:List ae} {c:Cx} {G:List (Nat × DV)}
theorem aK.rest (h3:aK G c) {b g:Nat} {ts:Nat × Nat} {l:List DV} (hb:c.heap[b]? = some (.arr g ts l)):∃ c':Cx,c'.heap=c.heap.set b .gone∧c'.w=c.w∧aK G c'∧Step c c'∧∀ v,VR c (.own b g) v→VR c' (.d (.sl l)) v:=by
 have er:=aT hb
 let c':Cx:={ c with own:=fun i=>if i=b then none else c.own i,heap:=c.heap.set b .gone }
 have eh:c'.heap[b]? = some .gone:=by show (c.heap.set b .gone)[b]? = _; rw [List.getElem?_set_self er]
 have iH:∀ i,i≠b→c'.heap[i]? = c.heap[i]? := fun i hi=>by show (c.heap.set b .gone)[i]? = _; rw [List.getElem?_set_ne (Ne.symm hi)]
 have bA:∀ i,i≠b→c'.own i=c.own i:=fun i hi=>by simp only [c',if_neg hi]
 have ig:∀ i p,c'.own i=some p→i≠b∧c.own i=some p:=fun i p hp=>by
  simp only [c'] at hp;split at hp
  ·cases hp
  ·rename_i q; exact ⟨q,hp⟩
 have aX:Step c c':=⟨rfl,h3.bN,rfl,rfl,rfl,Nat.le_refl _,fun _ _ _=>rfl,fun i x n hi _=>⟨n,(ig i _ hi).2⟩,fun i bx hi=>by
  by_cases bu:i=b
  ·subst bu;cases bx with
   |cells cs=>exact .inr eh
   |arr g sz l=>exact .inr eh
   |map es=>exact .inr eh
   |gone=>exact eh
   |hole=>exact ⟨_,eh⟩
  ·exact kM hi (iH i bu) (bA i bu)⟩
 refine ⟨c',rfl,rfl,?_,aX,fun v hv=>?_⟩
 ·refine h3.next aX (fun i x n hi=>?_) (fun i j x n m hi hj=>h3.inj i j x n m (ig i _ hi).2 (ig j _ hj).2) (fun i bx hi=>?_)
  ·have:=h3.br i x n (ig i _ hi).2;refine ⟨this.1,?_⟩;show i<(c.heap.set b .gone).length;rw [List.length_set];exact this.2
  ·by_cases bu:i=b
   ·subst bu;right;rw [eh] at hi;cases hi;show c'.own i=none;simp [c']
   ·rw [iH i bu] at hi;exact .inl ⟨hi,bA i bu,fun _ _ _=>rfl⟩
 ·obtain ⟨q0,q1,q2⟩:=h3.box b _ hb;rcases lU hb hv with ⟨blk,cap,r1,rfl⟩ | ⟨rfl,rfl,r1⟩
  ·rcases q2 with ⟨q2,-⟩ | ⟨je,iz,vs,q2,q3,q4,q5,q6,q7⟩
   ·rw [r1] at q2; cases q2
   rw [r1] at q2; cases q2;refine .d _ _ (.sl l blk 0 cap ts.2 (fun i j=>(vs[i*ts.2+j]?).getD undef) (fun _ gG=>?_) q0 q5 (fun i e he=>q1 i e he) (fun i j e x he hx=>?_) (fun i j e x he hx=>?_) (fun i j e x he hx=>?_))
   ·rcases gG with gG | ⟨i,n,hi⟩
    ·exact h3.sep b blk cap r1 gG
    ·obtain ⟨k1,k2⟩:=ig i _ hi;exact k1 (h3.inj i b blk n cap k2 r1)
   ·obtain ⟨v,p1,p2,p3⟩:=q7 i j e x he hx;rw [p1,Option.getD_some];exact kL q3 _ v (by simpa using p1)
   ·obtain ⟨v,p1,p2,p3⟩:=q7 i j e x he hx;simp only [p1,Option.getD_some];exact aX.vd p3
   ·obtain ⟨v,p1,p2,p3⟩:=q7 i j e x he hx;simp only [p1,Option.getD_some];exact p2
  ·exact .d _ _ .slnil
end
end Go.ax
end
section
namespace Go.ax
open Go Go.RowKit
section
variable {E:Env} {s:List AV} {h:List ae}
variable {ag:FuncId} {R:cx} {ops:Array Oper} {o:Oper} {l:List Oper} {k:List aP} {lits:List Nat}
end
end Go.ax
end
section
namespace Go.Proofs.YtfmdaiojokniiaaGreatDoor.P
open Go Go.ax Go.Sort Go.RowKit
end Go.Proofs.YtfmdaiojokniiaaGreatDoor.P
end
section
namespace Go.ax
open Go Go.RowKit
section
variable {E:Env} {s:List AV} {h:List ae}
end
end Go.ax
end
section
namespace Go.Proofs.YtfmdaiojokniiaaGreatDoor.P
open Go Go.ax
set_option maxRecDepth 100000
set_option maxHeartbeats 4000000
end Go.Proofs.YtfmdaiojokniiaaGreatDoor.P
end
section
namespace Go.Proofs.YtfmdaiojokniiaaGreatDoor.P
open Go Go.ax
set_option maxRecDepth 100000
set_option maxHeartbeats 4000000
end Go.Proofs.YtfmdaiojokniiaaGreatDoor.P
end
section
namespace Go.Proofs.YtfmdaiojokniiaaGreatDoor.P
open Go Go.ax
set_option maxRecDepth 100000
set_option maxHeartbeats 4000000
end Go.Proofs.YtfmdaiojokniiaaGreatDoor.P
end
