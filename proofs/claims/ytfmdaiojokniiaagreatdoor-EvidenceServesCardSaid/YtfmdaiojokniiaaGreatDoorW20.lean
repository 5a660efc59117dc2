/- Several texts of mine, one behind the other. Conditions: as each says. -/
import Derived.Test.YtfmdaiojokniiaaGreatDoorW18
import Derived.Test.YtfmdaiojokniiaaGreatDoorW19
set_option linter.unusedVariables false
set_option linter.unusedSimpArgs false
namespace Go.Proofs.YtfmdaiojokniiaaGreatDoor.P
open Go Go.aw
set_option maxRecDepth 100000
set_option maxHeartbeats 4000000
theorem IP {α:Type} {l:List α} (hn:l.Nodup) {i j:Nat} {a:α} (hi:l[i]? = some a) (hj:l[j]? = some a):i=j:=by
 obtain ⟨p1,e1⟩:=List.getElem?_eq_some_iff.1 hi;obtain ⟨p2,e2⟩:=List.getElem?_eq_some_iff.1 hj;have h:=List.pairwise_iff_getElem.1 (List.nodup_iff_pairwise_ne.1 hn);rcases Nat.lt_trichotomy i j with dp | dp | dp
 ·exact absurd (e1.trans e2.symm) (h i j p1 p2 dp)
 ·exact dp
 ·exact absurd (e2.trans e1.symm) (h j i p2 p1 dp)
theorem zB (p:cL):cS E.T (TK.struct [(0,3),(1,9)]) (cL.en p):=⟨_,rfl,rfl,⟨_,rfl,_,rfl⟩,rfl,⟨_,rfl,_,rfl⟩,trivial⟩
def bj.spot (p:bj):cL:=(p.host,p.ay.ai)
theorem zC {l:List bj} {k:Nat} {x:bj} (h:l[k]? = some x):(l.take (k+1)).map bj.spot=(l.take k).map bj.spot++[x.spot]:=by
 rw [dm h,List.map_append]; rfl
theorem IQ {l:List bj} {i:Nat} {x:bj} (hx:l[i]? = some x) (h:x.spot∈(l.take i).map bj.spot):¬ (l.map bj.spot).Nodup:=fun hn=>by
 obtain ⟨y,hy,e⟩:=List.mem_map.1 h;obtain ⟨m,hm⟩:=List.getElem?_of_mem hy;rw [List.getElem?_take] at hm;split at hm
 ·rename_i lC;have h1:(l.map bj.spot)[i]? = some x.spot:=by simp [hx]
  have h2:(l.map bj.spot)[m]? = some x.spot:=by simp [hm,e]
  have:=IP hn h1 h2;omega
 ·cases hm
theorem IS {l:List bj} {i:Nat} {x:bj} (hx:l[i]? = some x) (h:((l.take i).map bj.spot).Nodup) (hn:x.spot ∉ (l.take i).map bj.spot):((l.take (i+1)).map bj.spot).Nodup:=by
 rw [zC hx,List.nodup_append];exact ⟨h,by simp,fun a ha b hb e=>by simp at hb; subst hb; subst e; exact hn ha⟩
theorem ud {es:List (DV × DV)} (h:kR cL.en es):∀ p∈es,cS E.T (TK.struct [(0,3),(1,9)]) p.1:=fun p hp=>by
 obtain ⟨a,e⟩:=h p hp;rw [e];exact zB a
theorem IT {α:Type} [DecidableEq α] {en:α→DV} (hk:∀ a b,dR (en a) (en b)=decide (a=b)) {b:α} {v:DV}:∀ {es:List (DV × DV)},kR en es→(bI (en b) v es).length=es.length+(if (findD (en b) es).isSome then 0 else 1)
 | [],_=>by simp [bI,findD]
 |q::es,h=>by
  obtain ⟨s,hs⟩:=h q (List.mem_cons_self ..);obtain ⟨q1,q2⟩:=q;simp only at hs;subst hs;unfold bI;simp only [hk];by_cases e:b=s
  ·subst e;simp [findD,hk]
  ·have ih:=IT hk (b:=b) (v:=v) (es:=es) (fun r hr=>h r (List.mem_cons_of_mem _ hr));simp only [e,decide_false,Bool.false_eq_true,if_false,findD,hk,List.length_cons,ih];omega
theorem Dt {α:Type} [DecidableEq α] {en:α→DV} (hk:∀ a b,dR (en a) (en b)=decide (a=b)) (l:List α):∀ k,k≤l.length→(dK en (l.take k)).length=(dP [] (l.take k)).length
 | 0,_=>rfl
 |k+1,h=>by
  obtain ⟨x,hx⟩:=aU (l:=l) (k:=k) (by omega);have ih:=Dt hk l k (by omega);rw [Dm hx,IM hx,IT hk (mr hk _).1,(ua hk _ x).2,ih];by_cases hm:x∈l.take k
  ·simp [hm]
  ·simp [hm]
def mu (n:Nat) (p:bj):Bool:=decide (0≤p.host)&&decide (p.host<n)&&ep p.ay
def zD (l:List bj):Nat:=(dP [] (l.map (·.ay.ai))).length
def kS (n:Nat) (l:List bj):Bool:=decide (l.length≤4000)&&l.all (mu n)&&decide ((l.map bj.spot).Nodup)&&decide (zD l≤500)
def nH (w:kP):Bool:=fG w.aB&&kS w.aB.length w.cW&&lR w.anchor w.hints
theorem IU {n:Nat} {l:List bj}:kS n l=true↔l.length≤4000∧(∀ p∈l,mu n p=true)∧(l.map bj.spot).Nodup∧zD l≤500:=by
 simp only [kS,Bool.and_eq_true,decide_eq_true_eq,List.all_eq_true,and_assoc]
theorem QC {w:kP}:nH w=true↔fG w.aB=true∧kS w.aB.length w.cW=true∧lR w.anchor w.hints=true:=by
 simp only [nH,Bool.and_eq_true,and_assoc]
def jB (x:Host):Bool := !(decide ((x.name.length:Int)>100))
def ue (a b c d:Nat):Bool:=decide (a≤20)&&decide (b≤70)&&decide (c≤20)&&decide (d≤20)
end Go.Proofs.YtfmdaiojokniiaaGreatDoor.P
