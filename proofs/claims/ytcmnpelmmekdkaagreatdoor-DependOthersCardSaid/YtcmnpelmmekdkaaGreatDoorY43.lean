/- Several texts of mine, one behind the other. Conditions: as each says. -/
import Derived.Test.YtcmnpelmmekdkaaGreatDoorY41
import Derived.Test.YtcmnpelmmekdkaaGreatDoorY42
set_option linter.unusedVariables false
set_option linter.unusedSimpArgs false
section
namespace Go.Proofs.YtcmnpelmmekdkaaGreatDoor.P
open Go Go.ax
set_option maxRecDepth 100000
set_option maxHeartbeats 4000000
theorem ZM {l:List aB} (H:dW l) (hl:l.length≤4000):(tc l).length≤2000000000:=by
 have:(l.flatMap fun p=>p.ay.af.map fun s=>s.set.name).length≤l.length*20000:=AT fun p hp=>by simp; exact (lv (H p hp)).len
 have:=Nat.mul_le_mul_right 20000 hl;simp only [tc,List.length_cons];omega
def kL (w:ca) (s:Text):Int:=if (dn w&&Nm.valid s)=true then 0 else 1
def ke (w:ca) (s:Text):List Text:=if (dn w&&Nm.valid s)=true then cB w.aq s else []
end Go.Proofs.YtcmnpelmmekdkaaGreatDoor.P
end
section
namespace Go.Proofs.YtcmnpelmmekdkaaGreatDoor.P
open Go Go.ax
set_option maxRecDepth 100000
set_option maxHeartbeats 4000000
def kf (w:ca) (p:aB):Int:=match w.cd[p.host.toNat]? with
 |some h=>h.owner
 |none=>0
def xR (w:ca) (zs:List Text) (o:Int):Bool:=w.aq.any fun p=>decide (kf w p=o)&&decide (p.ay.ab∈zs)
theorem IS {w:ca} {zs:List Text} {o:Int}:xR w zs o=true↔∃ p∈w.aq,kf w p=o∧p.ay.ab∈zs:=by
 simp [xR,List.any_eq_true]
def nX (w:ca) (zs:List Text) (k:Nat):List Int:=((List.range k).map Int.ofNat).filter (xR w zs)
theorem P9 {w:ca} {zs:List Text} {k:Nat} {o:Int}:o∈nX w zs k↔(0≤o∧o<k)∧xR w zs o=true:=by
 rw [nX,List.mem_filter,List.mem_map];constructor
 ·rintro ⟨⟨a,h1,rfl⟩,h2⟩;rw [List.mem_range] at h1;exact ⟨⟨Int.natCast_nonneg a,Int.ofNat_lt.2 h1⟩,h2⟩
 ·rintro ⟨⟨h1,h2⟩,h3⟩;exact ⟨⟨o.toNat,by rw [List.mem_range]; omega,Int.toNat_of_nonneg h1⟩,h3⟩
theorem ZN {w:ca} {zs:List Text} {k:Nat}:(nX w zs k).length≤k:=by
 have:=List.length_filter_le (xR w zs) ((List.range k).map Int.ofNat)
 simpa [nX] using this
theorem P' {w:ca} {zs:List Text} {k:Nat}:(nX w zs k).Pairwise fun a b=>decide (a<b)=true:=by
 refine List.Pairwise.filter _ ?_;rw [List.pairwise_map];exact List.pairwise_lt_range.imp fun {a b} h=>by simpa using h
theorem ZO {l:List aB} {s:Text} {K L:List Text} (hK:K.Nodup) (hm:∀ z,z∈K↔z∈fL (dM l s)) (hp:L.Perm K) (hs:L.Pairwise fun x y=>¬ bA y x<0):L=cB l s:=by
 refine Dt Py Dz ?_ Ir fun z=>?_
 ·have h2:L.Nodup:=hp.nodup_iff.2 hK;rw [List.nodup_iff_pairwise_ne] at h2;exact (hs.and h2).imp fun {a b} h=>by
   simp only [jc,decide_eq_true_eq];rcases AB h.2 with h3 | h3
   ·exact h3
   ·exact absurd h3 h.1
 ·rw [hp.mem_iff,hm,lC]
def te (a b:cu):Int:=oE [bA a.bH.name b.bH.name,fZ a.bH.type b.bH.type,bA a.other b.other]
theorem ZP (a b:Int):fZ a b<0↔a<b:=by
 unfold fZ;split
 ·omega
 ·split <;> omega
theorem Qa (a b:Int):fZ a b=0↔a=b:=by
 unfold fZ;split
 ·omega
 ·split <;> omega
theorem tf (a b:cu):te a b<0↔iw a b=true:=by
 simp only [te,oE,iw,Bool.or_eq_true,Bool.and_eq_true,decide_eq_true_eq];by_cases e1:a.bH.name=b.bH.name
 ·rw [e1,mb,if_pos rfl];by_cases e2:a.bH.type=b.bH.type
  ·rw [e2,(Qa _ _).2 rfl,if_pos rfl];split
   ·rename_i h; rw [h]; simp
   ·simp
  ·have h2:fZ a.bH.type b.bH.type≠0:=fun h=>e2 ((Qa _ _).1 h);rw [if_neg h2,ZP];simp [e2]
 ·have h1:bA a.bH.name b.bH.name≠0:=fun h=>e1 (pI h);rw [if_neg h1];simp [e1]
theorem Qb {l:List aB} {s:Text} {L:List cu} {met:List Text} {b:Int} {dw:List aS} (hp:L.Perm (nW l s)) (hs:L.Pairwise fun x y=>¬ te y x<0):dm met b dw L=dm met b dw (gz l s).2:=by
 refine Pg (lt:=fun a b=>iw a b=true) (fun a h=>by rw [Pk] at h; cases h) AA YJ (hs.imp fun {x y} h=>?_) fun x=>?_
 ·rw [tf] at h;by_cases e:x=y
  ·exact .inr e
  ·exact .inl (Dx y x (fun h=>e h.symm) (by simpa using h))
 ·rw [hp.mem_iff,vp]
def AU (x:cu):Prop:=Nm.valid x.bH.name=true∧Nm.valid x.other=true
theorem ZQ {l:List aB} (H:dW l) {s:Text} (hs:Nm.valid s=true):∀ x∈nW l s,AU x:=fun x hx=>by
 refine ⟨?_,(AF H hx).2⟩;rcases Ih hx with ⟨-,h2⟩ | h1
 ·exact Dy H (by decide) _ h2
 ·rw [h1]; exact hs
end Go.Proofs.YtcmnpelmmekdkaaGreatDoor.P
end
