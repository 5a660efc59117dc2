/- Several texts of mine, one behind the other. Conditions: as each says. -/
import Derived.Test.YtfmdaiojokniiaaGreatDoorV17
import Derived.Test.YtfmdaiojokniiaaGreatDoorV22
import Derived.Test.YtfmdaiojokniiaaGreatDoorV23
set_option linter.unusedVariables false
set_option linter.unusedSimpArgs false
section
namespace Go.Proofs.YtfmdaiojokniiaaGreatDoor.P
open Go Go.aw
set_option maxRecDepth 100000
set_option maxHeartbeats 4000000
def Entry.ep (e:Entry):Prop:=e.signed.ep∧e.az.length≤maxLen
end Go.Proofs.YtfmdaiojokniiaaGreatDoor.P
end
section
namespace Go.aw
open Go Go.RowKit
section
variable {E:Env} {s:List AV} {h:List ae} {c:Cx} {G:List (Nat × DV)} {P:Program}
end
end Go.aw
end
section
namespace Go.aw
open Go Go.RowKit
section
variable {E:Env} {ag:FuncId} {R:cw} {td:List aN} {s:List AV} {h:List ae}
end
end Go.aw
end
section
namespace Go.aw
open Go Go.RowKit
section
variable {E:Env} {s:List AV} {h:List ae} {c:Cx} {G:List (Nat × DV)}
theorem aK.rest (h3:aK G c) {b g:Nat} {ts:Nat × Nat} {l:List DV} (hb:c.heap[b]? = some (.arr g ts l)):∃ c':Cx,c'.heap=c.heap.set b .gone∧c'.w=c.w∧aK G c'∧Step c c'∧∀ v,VR c (.own b g) v→VR c' (.d (.sl l)) v:=by
 have eu:=aR hb
 let c':Cx:={ c with own:=fun i=>if i=b then none else c.own i,heap:=c.heap.set b .gone }
 have ef:c'.heap[b]? = some .gone:=by show (c.heap.set b .gone)[b]? = _; rw [List.getElem?_set_self eu]
 have iQ:∀ i,i≠b→c'.heap[i]? = c.heap[i]? := fun i hi=>by show (c.heap.set b .gone)[i]? = _; rw [List.getElem?_set_ne (Ne.symm hi)]
 have bA:∀ i,i≠b→c'.own i=c.own i:=fun i hi=>by simp only [c',if_neg hi]
 have iw:∀ i p,c'.own i=some p→i≠b∧c.own i=some p:=fun i p hp=>by
  simp only [c'] at hp;split at hp
  ·cases hp
  ·rename_i q; exact ⟨q,hp⟩
 have bc:Step c c':=⟨rfl,h3.bN,rfl,rfl,rfl,Nat.le_refl _,fun _ _ _=>rfl,fun i x n hi _=>⟨n,(iw i _ hi).2⟩,fun i bx hi=>by
  by_cases bz:i=b
  ·subst bz;cases bx with
   |cells cs=>exact .inr ef
   |arr g sz l=>exact .inr ef
   |map es=>exact .inr ef
   |gone=>exact ef
   |hole=>exact ⟨_,ef⟩
  ·exact lb hi (iQ i bz) (bA i bz)⟩
 refine ⟨c',rfl,rfl,?_,bc,fun v hv=>?_⟩
 ·refine h3.next bc (fun i x n hi=>?_) (fun i j x n m hi hj=>h3.inj i j x n m (iw i _ hi).2 (iw j _ hj).2) (fun i bx hi=>?_)
  ·have:=h3.br i x n (iw i _ hi).2;refine ⟨this.1,?_⟩;show i<(c.heap.set b .gone).length;rw [List.length_set];exact this.2
  ·by_cases bz:i=b
   ·subst bz;right;rw [ef] at hi;cases hi;show c'.own i=none;simp [c']
   ·rw [iQ i bz] at hi;exact .inl ⟨hi,bA i bz,fun _ _ _=>rfl⟩
 ·obtain ⟨q0,q1,q2⟩:=h3.box b _ hb;rcases ln hb hv with ⟨blk,cap,r1,rfl⟩ | ⟨rfl,rfl,r1⟩
  ·rcases q2 with ⟨q2,-⟩ | ⟨iK,il,vs,q2,q3,q4,q5,q6,q7⟩
   ·rw [r1] at q2; cases q2
   rw [r1] at q2; cases q2;refine .d _ _ (.sl l blk 0 cap ts.2 (fun i j=>(vs[i*ts.2+j]?).getD undef) (fun _ gb=>?_) q0 q5 (fun i e he=>q1 i e he) (fun i j e x he hx=>?_) (fun i j e x he hx=>?_) (fun i j e x he hx=>?_))
   ·rcases gb with gb | ⟨i,n,hi⟩
    ·exact h3.sep b blk cap r1 gb
    ·obtain ⟨k1,k2⟩:=iw i _ hi;exact k1 (h3.inj i b blk n cap k2 r1)
   ·obtain ⟨v,p1,p2,p3⟩:=q7 i j e x he hx;rw [p1,Option.getD_some];exact ku q3 _ v (by simpa using p1)
   ·obtain ⟨v,p1,p2,p3⟩:=q7 i j e x he hx;simp only [p1,Option.getD_some];exact bc.vd p3
   ·obtain ⟨v,p1,p2,p3⟩:=q7 i j e x he hx;simp only [p1,Option.getD_some];exact p2
  ·exact .d _ _ .slnil
end
end Go.aw
end
section
namespace Go.aw
open Go Go.RowKit
section
variable {E:Env} {s:List AV} {h:List ae}
variable {ag:FuncId} {R:cw} {ops:Array Oper} {o:Oper} {l:List Oper} {k:List aN} {lits:List Nat}
end
end Go.aw
end
section
namespace Go.Proofs.YtfmdaiojokniiaaGreatDoor.P
open Go Go.aw
theorem KP {C H:List Text} (hA:hY H) (hP:qV H) (pE:∀ d∈H,d∈C) (uX:∀ c∈C,∃ d∈H,Nm.under c d=true) (aJ:∀ c∈C,c≠[]) :
  ∀ (rest done:List Text) (cut:Text) (k:Nat),hY (done++rest)→(∀ c∈C,c∈done++rest)→k≤H.length→(match done.getLast? with | none=>cut=[] | some p=>pD H p cut)→(∀ m d,m<k→H[m]? = some d→∃ p,done.getLast? = some p∧bu d p≤0)→∀ (i:Nat) (n r:Text),rest[i]? = some n→(lM H k rest)[i]? = some r→pD H n r
 | [],_,_,_,_,_,_,_,_=>fun i n r h=>by simp at h
 |n::rest,done,cut,k,pG,aW,hk,hcut,je=>by
  have my:∀ p,done.getLast? = some p→bu p n≤0:=fun p hp=>by
   have hl:0<done.length:=by cases done with | nil=>simp at hp | cons=>simp
   rw [List.getLast?_eq_getElem?] at hp;exact pG (done.length - 1) done.length p n (by omega) (by rw [List.getElem?_append_left (by omega)]; exact hp) (by simp)
  have Aq:∀ d∈H,bu d n<0→∃ p,done.getLast? = some p∧bu d p≤0:=fun d hd pF=>by
   have:=aW d (pE d hd);obtain ⟨i,hi⟩:=List.getElem?_of_mem this;have oT:(done++n::rest)[done.length]? = some n:=by simp
   have aj:i<done.length:=by
    rcases Nat.lt_trichotomy i done.length with h | h | h
    ·exact h
    ·subst h; rw [oT] at hi; cases hi; rw [nw] at pF; omega
    ·have h1:=pG done.length i n d h oT hi;have h2:=xI d n;omega
   rw [List.getElem?_append_left aj] at hi;obtain ⟨p,hp⟩:=aL (l:=done) (k:=done.length - 1) (by omega);refine ⟨p,by rw [List.getLast?_eq_getElem?]; exact hp,?_⟩;rcases Nat.lt_or_ge i (done.length - 1) with h | h
   ·exact pG i (done.length - 1) d p h (by rw [List.getElem?_append_left aj]; exact hi) (by rw [List.getElem?_append_left (by omega)]; exact hp)
   ·obtain rfl:i=done.length - 1:=by omega
    rw [hp] at hi; cases hi;rw [nw]; omega
  obtain ⟨f2,f3⟩:=Jp hA hP (n:=n) hk (fun m d hm hd=>by
   obtain ⟨p,hp,jD⟩:=je m d hm hd
   exact Ap jD (my p hp))
  have ih:=KP hA hP pE uX aJ rest (done++[n]) (kM H n (dZ H n k)) (dZ H n k) (by simpa using pG) (by simpa using aW) (Ag hk) (by simpa using f2) (fun m d hm hd=>⟨n,by simp,f3 m d hm hd⟩);intro i m r hm hr;cases i with
  |zero =>
   simp at hm;subst hm;simp only [lM,List.getElem?_cons_zero,Option.some.injEq] at hr;subst hr;exact f2
  |succ i=>exact ih i m r (by simpa using hm) (by simpa [lM] using hr)
end Go.Proofs.YtfmdaiojokniiaaGreatDoor.P
end
