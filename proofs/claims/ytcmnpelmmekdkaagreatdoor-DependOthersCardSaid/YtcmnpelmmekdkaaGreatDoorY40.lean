/- Several texts of mine, one behind the other. Conditions: as each says. -/
import Derived.Test.YtcmnpelmmekdkaaGreatDoorY38
import Derived.Test.YtcmnpelmmekdkaaGreatDoorY39
set_option linter.unusedVariables false
set_option linter.unusedSimpArgs false
section
namespace Go.Proofs.YtcmnpelmmekdkaaGreatDoor.P
open Go Go.ax
set_option maxRecDepth 100000
set_option maxHeartbeats 4000000
def vy (l:List cu):Prop:=l.Pairwise (fun a b=>iw a b=true)∧∀ y∈l,IB y
theorem vy.with {l:List cu} (h:vy l) {x:cu} (hx:IB x):vy (pW iw l x):=⟨Ie AA Dx h.1,fun y hy=>(Dq.1 hy).elim (h.2 y) fun e=>e ▸ hx⟩
theorem vy.all {l:List cu} (h:vy l):∀ {xs:List cu},(∀ x∈xs,IB x)→vy (nV (lt:=iw) l xs)
 | [],_=>h
 |x::xs,hx=>by
  rw [nV,List.foldl_cons];exact vy.all (h.with (hx x (List.mem_cons_self ..))) fun y hy=>hx y (List.mem_cons_of_mem _ hy)
end Go.Proofs.YtcmnpelmmekdkaaGreatDoor.P
end
section
namespace Go.Proofs.YtcmnpelmmekdkaaGreatDoor.P
open Go Go.ax
set_option maxRecDepth 100000
set_option maxHeartbeats 4000000
theorem IF {z:aU} (h:eV z=true):0≤aO z.af ⟨z.ab,2⟩:=by
 simp only [eV,rh,Bool.and_eq_true,Bool.not_eq_true',decide_eq_false_iff_not] at h;omega
end Go.Proofs.YtcmnpelmmekdkaaGreatDoor.P
end
section
namespace Go.Proofs.YtcmnpelmmekdkaaGreatDoor.P
open Go Go.ax
set_option maxRecDepth 100000
set_option maxHeartbeats 4000000
def ZE (l:List aS):DV:=if l=[] then .a8 else .sl (l.map aS.enc)
def AS (l:List Text):DV:=if l=[] then .a8 else .sl (l.map .str)
@[reducible] def bK.enc (v : bK) : DV := .agg [.str v.name, ZE v.list, AS v.aq]
theorem ZF {l:List aB} {s:Text}:(gz l s).1≠[]:=fun e=>by
 have:[46]∈(gz l s).1:=vq;rw [e] at this;cases this
theorem ZG {l:List aB} (H:dW l) {s:Text} (hs:Nm.valid s=true) {D W:List bK} (K:ev (gz l) s D W):∀ v∈D++W,Nm.valid v.name=true:=fun v hv=>by
 have:=K.least ((s::univ l).filter fun t=>Nm.valid t) (by simp [hs]) (fun n _ x hx=>by
  obtain ⟨h1,h2⟩:=AF H (vp.1 hx)
  simp [h1,h2]) v hv
 simpa using (List.mem_filter.1 this).2
theorem ZH {z:aU} (h:eV z=true):(dZ z.ab z.af).length≤8:=by
 have V:=lv h;obtain ⟨y,hy,-⟩:=rA (IF h);rw [Pu V.sorted (IF h) hy];simp [kI];exact ta V y (List.mem_of_getElem? hy)
theorem P3 {l:List aB} (H:dW l) {s:Text}:∀ {n:Nat} {ab:Text},(cJ l s n ab).2.length≤16*n
 | 0,ab=>by simp [cJ]
 |n+1,ab=>by
  cases e:dz l ab with
  |none=>rw [IE e]; simp
  |some z =>
   obtain ⟨hz,DI⟩:=H.at_ e;have h1:=ZH hz;rw [DI] at h1;by_cases k4:(bO z ⟨s,1⟩).kind=4
   ·obtain ⟨y,m,q1,q2,q3,q4,q5⟩:=Im (lv hz) k4;have h2:(dZ (bO z ⟨s,1⟩).cut (bO z ⟨s,1⟩).af).length≤8:=by
     rw [q5]; simp [kI]; exact ta (lv hz) y q2
    have h3:=P3 H (s:=s) (n:=n) (ab:=(bO z ⟨s,1⟩).cut);rw [IC e k4];simp only [List.length_append];omega
   ·rw [ID e k4];have:(rG s (bO z ⟨s,1⟩)).length≤1:=by unfold rG; split <;> simp
    simp only [List.length_append];omega
end Go.Proofs.YtcmnpelmmekdkaaGreatDoor.P
end
section
namespace Go.Proofs.YtcmnpelmmekdkaaGreatDoor.P
open Go Go.ax
set_option maxRecDepth 100000
set_option maxHeartbeats 4000000
theorem P4 (Z:List Text):AJ Z=nV (lt:=jc) [] Z:=by
 obtain ⟨h1,h2⟩:=PL Z;refine Dt (lt:=jc) Py Dz (h1.imp fun h=>by simpa [jc] using h) (Ds Dz Px List.Pairwise.nil) fun x=>?_;rw [h2,Dr]; simp
theorem ZI {R:List bK} {i:Nat} {v:bK} (h:R[i]? = some v):fL (R.take (i+1))=fL (R.take i)++v.aq:=by
 rw [eI h,fL,fL,List.flatMap_append]; simp
def tc (l:List aB):List Text:=[46]::l.flatMap fun p=>p.ay.af.map fun s=>s.set.name
theorem ZJ {l:List aB} {p:aB} {s:Signed} (hp:p∈l) (hs:s∈p.ay.af):s.set.name∈tc l:=List.mem_cons_of_mem _ (List.mem_flatMap.2 ⟨p,hp,List.mem_map.2 ⟨s,hs,rfl⟩⟩)
theorem P5 {l:List aB} (H:dW l) {s:Text}:∀ {n:Nat} {ab:Text},ab∈tc l→(cJ l s n ab).1.length≤n+1∧∀ z∈(cJ l s n ab).1,z∈tc l
 | 0,ab,ha=>by simp [cJ]; exact ha
 |n+1,ab,ha=>by
  cases e:dz l ab with
  |none=>rw [IE e]; simp; exact ha
  |some z =>
   obtain ⟨hz,DI⟩:=H.at_ e;obtain ⟨-,p,hp,rfl⟩:=AE e;by_cases k4:(bO p.ay ⟨s,1⟩).kind=4
   ·obtain ⟨y,m,q1,q2,q3,q4,q5⟩:=Im (lv hz) k4;have h3:=P5 H (s:=s) (n:=n) (ab:=(bO p.ay ⟨s,1⟩).cut) (q3 ▸ ZJ hp q2);rw [IC e k4];refine ⟨by simp; exact h3.1,fun z pZ=>?_⟩;rcases List.mem_cons.1 pZ with rfl | h
    ·exact ha
    ·exact h3.2 z h
   ·rw [ID e k4]; simp; exact ha
theorem IG {l:List aB} (H:dW l) {s:Text} {v:bK} (hv:v∈dM l s):v.aq≠[]∧v.aq.length≤65∧∀ z∈v.aq,z∈tc l∧z.length≤1000:=by
 have e:=((lB H s).shut v hv).1;rw [e];have h:=P5 H (s:=v.name) (n:=64) (ab:=[46]) (List.mem_cons_self ..);refine ⟨ZF,h.1,fun z hz=>⟨h.2 z hz,?_⟩⟩;have:=fF (Dy H (by decide) z hz);omega
theorem P6 {l:List aB} (H:dW l) {s:Text} {i:Nat}:∀ z∈fL ((dM l s).take i),z∈tc l∧z.length≤1000:=fun z hz=>by
 obtain ⟨v,hv,pb⟩:=List.mem_flatMap.1 hz;exact (IG H (List.mem_of_mem_take hv)).2.2 z pb
theorem P7 {Z U:List Text} (h:∀ z∈Z,z∈U):(AJ Z).length≤U.length:=by
 obtain ⟨h1,h2⟩:=PL Z;refine s4 ?_ fun x hx=>h x ((h2 x).1 hx);rw [List.nodup_iff_pairwise_ne];refine h1.imp fun {a b} yE e=>?_;subst e;rw [mb] at yE;omega
end Go.Proofs.YtcmnpelmmekdkaaGreatDoor.P
end
