/- Several texts of mine, one behind the other. Conditions: as each says. -/
import Derived.Test.YtfmdaiojokniiaaGreatDoorW31
set_option linter.unusedVariables false
set_option linter.unusedSimpArgs false
section
namespace Go.Proofs.YtfmdaiojokniiaaGreatDoor.P
open Go Go.aw
set_option maxRecDepth 100000
set_option maxHeartbeats 4000000
theorem Rx (a b:List Datum) (hl:a.length≤2147483648):au E 113 [.sl (a.map Datum.enc),.sl (b.map Datum.enc)] (· = .bool (decide (a=b))):=by
 refine eP Tryz.func113 ?_;refine aj (fun h3=>?_) (fun h3=>?_)
 ·have aE:a≠b:=by rintro rfl; simp at h3
  rw [decide_eq_false aE];refine gO Tryz.func113 ?_
  with_reducible rfl
 have mL:a.length=b.length:=by simp at h3; omega
 refine gO Tryz.func113 ?_;refine I.loop (κ:=Nat) ([4,5]++rg 13 13) (fun k=>[(13,.d (.int .i64 k))]) (fun _=>[]) (fun k=>k≤a.length∧a.take k=b.take k) (fun k=>a.length - k) 0 ⟨Nat.zero_le _,rfl⟩ ?_ ?_
 ·exact sZ
 intro k hk IH;refine I.head ag Tryz.func113 2000 ?_;(conv=>whnf);refine aj (fun h7=>?_) (fun h7=>?_)
 ·have ah:k<a.length:=by simpa using h7
  obtain ⟨u,hu⟩:=aU ah;obtain ⟨w,hw⟩:=aU (l:=b) (k:=k) (by omega);refine gO Tryz.func113 ?_;refine I.bU ag bV 2000 (by kernel_rfl) ?_;(conv=>whnf);refine aT (e:=u.enc) (bu hu) rfl ?_;refine gD ?_;refine aT (e:=w.enc) (bu hw) rfl ?_;refine gD ?_;refine gO Tryz.func113 ?_;refine aj (fun h8=>?_) (fun h8=>?_)
  ·have aE:u≠w:=by rintro rfl; simp at h8
   refine gO Tryz.func113 ?_;rw [decide_eq_false (lO hu hw aE)]
  ·have e1:u=w:=by
    obtain ⟨u1,u2,u3⟩:=u;obtain ⟨w1,w2,w3⟩:=w;simp at h8;simp [h8]
   refine gO Tryz.func113 ?_;refine I.back (IH (k+1) ⟨by omega,oB hk.2 hu hw e1⟩ (by omega)) ?_;exact sZ
 ·have aK:k=a.length:=by simp at h7; omega
  have rY:a=b:=oC hk.2 (by omega) (by omega);refine gO Tryz.func113 ?_;simp [rY]
theorem Ry (a b:List di) (hl:a.length≤2147483648):au E 114 [.sl (a.map di.enc),.sl (b.map di.enc)] (· = .bool (decide (a=b))):=by
 refine eP Tryz.func114 ?_;refine aj (fun h3=>?_) (fun h3=>?_)
 ·have aE:a≠b:=by rintro rfl; simp at h3
  rw [decide_eq_false aE];refine gO Tryz.func114 ?_
  with_reducible rfl
 have mL:a.length=b.length:=by simp at h3; omega
 refine gO Tryz.func114 ?_;refine I.loop (κ:=Nat) ([4,5]++rg 13 13) (fun k=>[(13,.d (.int .i64 k))]) (fun _=>[]) (fun k=>k≤a.length∧a.take k=b.take k) (fun k=>a.length - k) 0 ⟨Nat.zero_le _,rfl⟩ ?_ ?_
 ·exact sZ
 intro k hk IH;refine I.head ag Tryz.func114 2000 ?_;(conv=>whnf);refine aj (fun h7=>?_) (fun h7=>?_)
 ·have ah:k<a.length:=by simpa using h7
  obtain ⟨u,hu⟩:=aU ah;obtain ⟨w,hw⟩:=aU (l:=b) (k:=k) (by omega);refine gO Tryz.func114 ?_;refine I.bU ag bV 2000 (by kernel_rfl) ?_;(conv=>whnf);refine aT (e:=u.enc) (bu hu) rfl ?_;refine gD ?_;refine aT (e:=w.enc) (bu hw) rfl ?_;refine gD ?_;refine gO Tryz.func114 ?_;refine aj (fun h8=>?_) (fun h8=>?_)
  ·have aE:u≠w:=by rintro rfl; simp at h8
   refine gO Tryz.func114 ?_;rw [decide_eq_false (lO hu hw aE)]
  ·have e1:u=w:=by
    obtain ⟨u1,u2,u3,u4,u5,u6⟩:=u;obtain ⟨w1,w2,w3,w4,w5,w6⟩:=w;simp at h8;simp [h8]
   refine gO Tryz.func114 ?_;refine I.back (IH (k+1) ⟨by omega,oB hk.2 hu hw e1⟩ (by omega)) ?_;exact sZ
 ·have aK:k=a.length:=by simp at h7; omega
  have rY:a=b:=oC hk.2 (by omega) (by omega);refine gO Tryz.func114 ?_;simp [rY]
end Go.Proofs.YtfmdaiojokniiaaGreatDoor.P
end
section
namespace Go.Proofs.YtfmdaiojokniiaaGreatDoor.P
open Go Go.aw
set_option maxRecDepth 100000
section
variable {α:Type} [DecidableEq α] {en:α→DV}
theorem Jn (hk:∀ a b,dR (en a) (en b)=decide (a=b)) {x:α}:∀ {l:List α},x∈l→bI (en x) (.bool true) (l.map fun a=>(en a,DV.bool true))=l.map fun a=>(en a,DV.bool true)
 | [],h=>by simp at h
 |y::l,h=>by
  show bI (en x) (.bool true) ((en y,DV.bool true)::l.map fun a=>(en a,DV.bool true))=_;simp only [bI,hk];by_cases e:y=x
  ·subst e; simp
  ·have hm:x∈l:=(List.mem_cons.1 h).resolve_left fun q=>e q.symm;have:=Jn hk hm;first
    |rw [if_neg (by simpa using e),this]; rfl
    |rw [if_neg (by simpa using fun q=>e q.symm),this]; rfl
theorem Jo (hk:∀ a b,dR (en a) (en b)=decide (a=b)) {x:α}:∀ {l:List α},x ∉ l→bI (en x) (.bool true) (l.map fun a=>(en a,DV.bool true))=(l++[x]).map fun a=>(en a,DV.bool true)
 | [],h=>rfl
 |y::l,h=>by
  have h1:y≠x:=fun e=>h (e ▸ List.mem_cons_self ..);have h2:x ∉ l:=fun e=>h (List.mem_cons_of_mem _ e);show bI (en x) (.bool true) ((en y,DV.bool true)::l.map fun a=>(en a,DV.bool true))=_;have:=Jo hk h2;simp only [bI,hk];first
   |rw [if_neg (by simpa using h1),this]; rfl
   |rw [if_neg (by simpa using fun q=>h1 q.symm),this]; rfl
theorem R6 (hk:∀ a b,dR (en a) (en b)=decide (a=b)) (l:List α):dK en l=(dP [] l).map fun a=>(en a,DV.bool true):=by
 have main:∀ (n:Nat),dK en (l.take n)=(dP [] (l.take n)).map fun a=>(en a,DV.bool true):=by
  intro n
  induction n with
  |zero=>rfl
  |succ n ih =>
   cases h:l[n]? with
   |none =>
    have:l.length≤n:=by simpa using h
    rw [List.take_of_length_le (by omega),← List.take_of_length_le this];exact ih
   |some x =>
    rw [Dm h,ih,dm h,IL];split
    ·rename_i hm; exact Jn hk hm
    ·rename_i hm; exact Jo hk hm
 have:=main l.length
 rwa [List.take_length] at this
end
section
variable {α:Type}
def jE (xs:List α) (seen:List Nat):List α:=seen.filterMap fun j=>xs[j]?
theorem Jp {xs:List α} {seen:List Nat} {j:Nat} {a:α} (h:xs[j]? = some a):jE xs (seen++[j])=jE xs seen++[a]:=by
 rw [jE,List.filterMap_append];simp [jE,h]
theorem R7 {xs:List α} {seen:List Nat}:(jE xs seen).length≤seen.length:=List.length_filterMap_le ..
theorem R8 (xs:List α):jE xs (List.range xs.length)=xs:=by
 have main:∀ (n:Nat),n≤xs.length→jE xs (List.range n)=xs.take n:=by
  intro n
  induction n with
  |zero=>intro _; simp [jE]
  |succ n ih =>
   intro h;obtain ⟨a,ha⟩:=aU (l:=xs) (k:=n) (by omega);rw [List.range_succ,Jp ha,ih (by omega),dm ha]
 rw [main _ (Nat.le_refl _),List.take_length]
theorem R9 {xs:List α} {seen:List Nat} (hn:seen.Nodup) (ah:∀ j∈seen,j<xs.length) (a7:∀ j,j<xs.length→j∈seen):(jE xs seen).Perm xs:=by
 have h:seen.Perm (List.range xs.length):=(List.perm_ext_iff_of_nodup hn List.nodup_range).2 fun j=>by
  rw [List.mem_range];exact ⟨ah j,a7 j⟩
 have:=h.filterMap (fun j=>xs[j]?);have e:=R8 xs;unfold jE at e;rw [e] at this;exact this
theorem Jq {xs:List α} {seen:List Nat} (hn:seen.Nodup) (ah:∀ j∈seen,j<xs.length):seen.length≤xs.length:=by
 have:=Cq hn (U:=List.range xs.length) fun j hj=>List.mem_range.2 (ah j hj)
 simpa using this
end
end Go.Proofs.YtfmdaiojokniiaaGreatDoor.P
end
