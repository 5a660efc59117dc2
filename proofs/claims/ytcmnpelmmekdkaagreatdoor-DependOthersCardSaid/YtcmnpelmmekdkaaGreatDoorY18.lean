/- Several texts of mine, one behind the other. Conditions: as each says. -/
import Derived.Test.YtcmnpelmmekdkaaGreatDoorY11
import Derived.Test.YtcmnpelmmekdkaaGreatDoorY16
import Derived.Shelf.Slices.CompactI
set_option linter.unusedVariables false
set_option linter.unusedSimpArgs false
section
namespace Go.Proofs.YtcmnpelmmekdkaaGreatDoor.P
open Go Go.ax
theorem Ot {C H:List Text} (hA:iW H) (hP:sR H) (rp:∀ d∈H,d∈C) (xm:∀ c∈C,∃ d∈H,Nm.under c d=true) (aJ:∀ c∈C,c≠[]) :
  ∀ (rest done:List Text) (cut:Text) (k:Nat),iW (done++rest)→(∀ c∈C,c∈done++rest)→k≤H.length→(match done.getLast? with | none=>cut=[] | some p=>rn H p cut)→(∀ m d,m<k→H[m]? = some d→∃ p,done.getLast? = some p∧bA d p≤0)→∀ (i:Nat) (n r:Text),rest[i]? = some n→(mO H k rest)[i]? = some r→rn H n r
 | [],_,_,_,_,_,_,_,_=>fun i n r h=>by simp at h
 |n::rest,done,cut,k,ru,aT,hk,hcut,uU=>by
  have xp:∀ p,done.getLast? = some p→bA p n≤0:=fun p hp=>by
   have hl:0<done.length:=by cases done with | nil=>simp at hp | cons=>simp
   rw [List.getLast?_eq_getElem?] at hp;exact ru (done.length - 1) done.length p n (by omega) (by rw [List.getElem?_append_left (by omega)]; exact hp) (by simp)
  have C6:∀ d∈H,bA d n<0→∃ p,done.getLast? = some p∧bA d p≤0:=fun d hd rq=>by
   have:=aT d (rp d hd);obtain ⟨i,hi⟩:=List.getElem?_of_mem this;have qy:(done++n::rest)[done.length]? = some n:=by simp
   have ai:i<done.length:=by
    rcases Nat.lt_trichotomy i done.length with h | h | h
    ·exact h
    ·subst h; rw [qy] at hi; cases hi; rw [mb] at rq; omega
    ·have h1:=ru done.length i n d h qy hi;have h2:=uR d n;omega
   rw [List.getElem?_append_left ai] at hi;obtain ⟨p,hp⟩:=aY (l:=done) (k:=done.length - 1) (by omega);refine ⟨p,by rw [List.getLast?_eq_getElem?]; exact hp,?_⟩;rcases Nat.lt_or_ge i (done.length - 1) with h | h
   ·exact ru i (done.length - 1) d p h (by rw [List.getElem?_append_left ai]; exact hi) (by rw [List.getElem?_append_left (by omega)]; exact hp)
   ·obtain rfl:i=done.length - 1:=by omega
    rw [hp] at hi; cases hi;rw [mb]; omega
  obtain ⟨f2,f3⟩:=NI hA hP (n:=n) hk (fun m d hm hd=>by
   obtain ⟨p,hp,lY⟩:=uU m d hm hd
   exact C5 lY (xp p hp))
  have ih:=Ot hA hP rp xm aJ rest (done++[n]) (l9 H n (eJ H n k)) (eJ H n k) (by simpa using ru) (by simpa using aT) (CP hk) (by simpa using f2) (fun m d hm hd=>⟨n,by simp,f3 m d hm hd⟩);intro i m r hm hr;cases i with
  |zero =>
   simp at hm;subst hm;simp only [mO,List.getElem?_cons_zero,Option.some.injEq] at hr;subst hr;exact f2
  |succ i=>exact ih i m r (by simpa using hm) (by simpa [mO] using hr)
end Go.Proofs.YtcmnpelmmekdkaaGreatDoor.P
end
section
namespace Go.ax
open Go Go.RowKit
section
variable {E:Env} {s:List AV} {h:List ag}
end
end Go.ax
end
section
namespace Go.Proofs.YtcmnpelmmekdkaaGreatDoor.P
open Go Go.ax Go.Sort Go.RowKit
end Go.Proofs.YtcmnpelmmekdkaaGreatDoor.P
end
