/- Several texts of mine, one behind the other. Conditions: as each says. -/
import Derived.Test.YtfmdaiojokniiaaGreatDoorW16
import Derived.Test.YtfmdaiojokniiaaGreatDoorW23
set_option linter.unusedVariables false
set_option linter.unusedSimpArgs false
section
namespace Go.aw
open Go Go.RowKit
section
variable {E:Env} {s:List AV} {h:List ab} {c:Cx} {G:List (Nat × DV)}
theorem aC.rest (h3:aC G c) {b g:Nat} {ts:Nat × Nat} {l:List DV} (hb:c.heap[b]? = some (.arr g ts l)):∃ c':Cx,c'.heap=c.heap.set b .gone∧c'.w=c.w∧aC G c'∧Step c c'∧∀ v,VR c (.own b g) v→VR c' (.d (.sl l)) v:=by
 have eo:=aP hb
 let c':Cx:={ c with own:=fun i=>if i=b then none else c.own i,heap:=c.heap.set b .gone }
 have ea:c'.heap[b]? = some .gone:=by show (c.heap.set b .gone)[b]? = _; rw [List.getElem?_set_self eo]
 have im:∀ i,i≠b→c'.heap[i]? = c.heap[i]? := fun i hi=>by show (c.heap.set b .gone)[i]? = _; rw [List.getElem?_set_ne (Ne.symm hi)]
 have bz:∀ i,i≠b→c'.own i=c.own i:=fun i hi=>by simp only [c',if_neg hi]
 have gX:∀ i p,c'.own i=some p→i≠b∧c.own i=some p:=fun i p hp=>by
  simp only [c'] at hp;split at hp
  ·cases hp
  ·rename_i q; exact ⟨q,hp⟩
 have aV:Step c c':=⟨rfl,h3.bG,rfl,rfl,rfl,Nat.le_refl _,fun _ _ _=>rfl,fun i x n hi _=>⟨n,(gX i _ hi).2⟩,fun i bx hi=>by
  by_cases bq:i=b
  ·subst bq;cases bx with
   |cells cs=>exact .inr ea
   |arr g sz l=>exact .inr ea
   |map es=>exact .inr ea
   |gone=>exact ea
   |hole=>exact ⟨_,ea⟩
  ·exact kq hi (im i bq) (bz i bq)⟩
 refine ⟨c',rfl,rfl,?_,aV,fun v hv=>?_⟩
 ·refine h3.next aV (fun i x n hi=>?_) (fun i j x n m hi hj=>h3.inj i j x n m (gX i _ hi).2 (gX j _ hj).2) (fun i bx hi=>?_)
  ·have:=h3.bk i x n (gX i _ hi).2;refine ⟨this.1,?_⟩;show i<(c.heap.set b .gone).length;rw [List.length_set];exact this.2
  ·by_cases bq:i=b
   ·subst bq;right;rw [ea] at hi;cases hi;show c'.own i=none;simp [c']
   ·rw [im i bq] at hi;exact .inl ⟨hi,bz i bq,fun _ _ _=>rfl⟩
 ·obtain ⟨q0,q1,q2⟩:=h3.box b _ hb;rcases kz hb hv with ⟨blk,cap,r1,rfl⟩ | ⟨rfl,rfl,r1⟩
  ·rcases q2 with ⟨q2,-⟩ | ⟨ib,gR,vs,q2,q3,q4,q5,q6,q7⟩
   ·rw [r1] at q2; cases q2
   rw [r1] at q2; cases q2;refine .d _ _ (.sl l blk 0 cap ts.2 (fun i j=>(vs[i*ts.2+j]?).getD undef) (fun _ fL=>?_) q0 q5 (fun i e he=>q1 i e he) (fun i j e x he hx=>?_) (fun i j e x he hx=>?_) (fun i j e x he hx=>?_))
   ·rcases fL with fL | ⟨i,n,hi⟩
    ·exact h3.sep b blk cap r1 fL
    ·obtain ⟨k1,k2⟩:=gX i _ hi;exact k1 (h3.inj i b blk n cap k2 r1)
   ·obtain ⟨v,p1,p2,p3⟩:=q7 i j e x he hx;rw [p1,Option.getD_some];exact jM q3 _ v (by simpa using p1)
   ·obtain ⟨v,p1,p2,p3⟩:=q7 i j e x he hx;simp only [p1,Option.getD_some];exact aV.vd p3
   ·obtain ⟨v,p1,p2,p3⟩:=q7 i j e x he hx;simp only [p1,Option.getD_some];exact p2
  ·exact .d _ _ .slnil
end
end Go.aw
end
section
namespace Go.Proofs.YtfmdaiojokniiaaGreatDoor.P
open Go Go.aw
theorem JA {C H:List Text} (hA:gJ H) (hP:pZ H) (oK:∀ d∈H,d∈C) (tW:∀ c∈C,∃ d∈H,Nm.under c d=true) (aE:∀ c∈C,c≠[]) :
  ∀ (rest done:List Text) (cut:Text) (k:Nat),gJ (done++rest)→(∀ c∈C,c∈done++rest)→k≤H.length→(match done.getLast? with | none=>cut=[] | some p=>oJ H p cut)→(∀ m d,m<k→H[m]? = some d→∃ p,done.getLast? = some p∧bO d p≤0)→∀ (i:Nat) (n r:Text),rest[i]? = some n→(oE H k rest)[i]? = some r→oJ H n r
 | [],_,_,_,_,_,_,_,_=>fun i n r h=>by simp at h
 |n::rest,done,cut,k,oM,a7,hk,hcut,wT=>by
  have lF:∀ p,done.getLast? = some p→bO p n≤0:=fun p hp=>by
   have hl:0<done.length:=by cases done with | nil=>simp at hp | cons=>simp
   rw [List.getLast?_eq_getElem?] at hp;exact oM (done.length - 1) done.length p n (by omega) (by rw [List.getElem?_append_left (by omega)]; exact hp) (by simp)
  have zo:∀ d∈H,bO d n<0→∃ p,done.getLast? = some p∧bO d p≤0:=fun d hd oL=>by
   have:=a7 d (oK d hd);obtain ⟨i,hi⟩:=List.getElem?_of_mem this;have n0:(done++n::rest)[done.length]? = some n:=by simp
   have ah:i<done.length:=by
    rcases Nat.lt_trichotomy i done.length with h | h | h
    ·exact h
    ·subst h; rw [n0] at hi; cases hi; rw [oG] at oL; omega
    ·have h1:=oM done.length i n d h n0 hi;have h2:=zf d n;omega
   rw [List.getElem?_append_left ah] at hi;obtain ⟨p,hp⟩:=aU (l:=done) (k:=done.length - 1) (by omega);refine ⟨p,by rw [List.getLast?_eq_getElem?]; exact hp,?_⟩;rcases Nat.lt_or_ge i (done.length - 1) with h | h
   ·exact oM i (done.length - 1) d p h (by rw [List.getElem?_append_left ah]; exact hi) (by rw [List.getElem?_append_left (by omega)]; exact hp)
   ·obtain rfl:i=done.length - 1:=by omega
    rw [hp] at hi; cases hi;rw [oG]; omega
  obtain ⟨f2,f3⟩:=H4 hA hP (n:=n) hk (fun m d hm hd=>by
   obtain ⟨p,hp,jc⟩:=wT m d hm hd
   exact zn jc (lF p hp))
  have ih:=JA hA hP oK tW aE rest (done++[n]) (wG H n (iE H n k)) (iE H n k) (by simpa using oM) (by simpa using a7) (CV hk) (by simpa using f2) (fun m d hm hd=>⟨n,by simp,f3 m d hm hd⟩);intro i m r hm hr;cases i with
  |zero =>
   simp at hm;subst hm;simp only [oE,List.getElem?_cons_zero,Option.some.injEq] at hr;subst hr;exact f2
  |succ i=>exact ih i m r (by simpa using hm) (by simpa [oE] using hr)
end Go.Proofs.YtfmdaiojokniiaaGreatDoor.P
end
