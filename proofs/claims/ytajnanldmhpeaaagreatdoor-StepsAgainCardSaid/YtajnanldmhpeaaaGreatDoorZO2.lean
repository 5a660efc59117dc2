/- Several texts of mine, one behind the other. Conditions: as each says. -/
import Derived.Test.YtajnanldmhpeaaaGreatDoorZO1
set_option linter.unusedVariables false
set_option linter.unusedSimpArgs false
section
namespace Go.Proofs.YtajnanldmhpeaaaGreatDoor.P
open Go Go.Eng
theorem chain_pair {α:Type} {ok:α→Bool} {rel:α→α→Bool} (tr:∀ a b c,rel a b=true→rel b c=true→rel a c=true):∀ {l:List α} {p:Option α},chain ok rel p l=true→l.Pairwise (fun a b=>rel a b=true)∧∀ q,p=some q→∀ x∈l,rel q x=true
 | [],_,_=>⟨List.Pairwise.nil,fun _ _ x hx=>by simp at hx⟩
 |y::l,p,h=>by
  simp only [chain,Bool.and_eq_true] at h;obtain ⟨h1,h2⟩:=chain_pair tr h.2;refine ⟨List.pairwise_cons.2 ⟨fun x hx=>h2 y rfl x hx,h1⟩,fun q hq x hx=>?_⟩;subst hq;have hy:rel q y=true:=h.1.2;rcases List.mem_cons.1 hx with rfl | hx
  ·exact hy
  ·exact tr _ _ _ hy (h2 y rfl x hx)
theorem chain_of {α:Type} {ok:α→Bool} {rel:α→α→Bool}:∀ (p:Option α) (l:List α),(∀ x∈l,ok x=true)→(∀ q,p=some q→∀ x∈l,rel q x=true)→l.Pairwise (fun a b=>rel a b=true)→chain ok rel p l=true
 |_,[],_,_,_=>by simp [chain]
 |p,x::l,h1,h2,h3=>by
  have h4:=List.pairwise_cons.1 h3;simp only [chain,Bool.and_eq_true];refine ⟨⟨h1 x (List.mem_cons_self ..),?_⟩,chain_of (some x) l (fun y hy=>h1 y (List.mem_cons_of_mem _ hy)) (fun q hq y hy=>?_) h4.2⟩
  ·cases p with
   |none=>rfl
   |some q=>exact h2 q rfl x (List.mem_cons_self ..)
  ·obtain rfl:=Option.some.inj hq;exact h4.1 y hy
theorem validS_iff {h:History} {l:List Step}:validS h l=true↔histB h=true∧l.length≤400∧(∀ s∈l,0≤s.time∧s.time<h.fin∧stageB h.hosts.length s.stage=true)∧l.Pairwise (fun a b=>a.time<b.time):=by
 have tr:∀ a b c:Step,stepLt a b=true→stepLt b c=true→stepLt a c=true:=fun a b c h1 h2=>by
  simp only [stepLt,decide_eq_true_eq] at *;omega
 simp only [validS,stepsB,Bool.and_eq_true,decide_eq_true_eq];constructor
 ·rintro ⟨h1,h2,h3⟩;refine ⟨h1,h2,fun s hs=>?_,(chain_pair tr h3).1.imp fun h=>by simpa [stepLt] using h⟩;have:=chain_mem h3 s hs;simp only [stepOK,Bool.and_eq_true,decide_eq_true_eq] at this;exact ⟨this.1.1,this.1.2,this.2⟩
 ·rintro ⟨h1,h2,h3,h4⟩;refine ⟨h1,h2,chain_of none l (fun s hs=>?_) (fun q hq=>by cases hq) (h4.imp fun h=>by simpa [stepLt] using h)⟩;obtain ⟨a,b,c⟩:=h3 s hs;simp [stepOK,a,b,c]
def earlyB (p:Progress) (r:Report) (t:Int):Bool:=(match p.done[p.done.length - 1]? with | some u=>decide (r.time≤u) | none=>false)||((decide (r.kind=1)||decide (r.kind=4))&&decide (r.time<t))
def stuckB (p:Progress) (r:Report):Bool:=p.paused||(p.over||(decide (p.done.length=p.steps.length)||decide (r.step≠p.done.length)))
structure Taken (h:History) (p:Progress) (r:Report) (s:Step):Prop where
 valid:validP h p=true
 rep:repB h.fin r=true
 here:p.steps[p.done.length]? = some s
 free:stuckB p r=false
 intime:earlyB p r s.time=false
theorem mono_at {l:List Step} (h:l.Pairwise (fun a b=>a.time<b.time)) {i j:Nat} {a b:Step} (hij:i<j) (ha:l[i]? = some a) (hb:l[j]? = some b):a.time<b.time:=by
 have h1:=lt_of_getElem? ha;have h2:=lt_of_getElem? hb;have:=List.pairwise_iff_getElem.1 h i j h1 h2 hij;rw [List.getElem?_eq_getElem h1] at ha;rw [List.getElem?_eq_getElem h2] at hb;obtain rfl:=Option.some.inj ha;obtain rfl:=Option.some.inj hb;exact this
end Go.Proofs.YtajnanldmhpeaaaGreatDoor.P
end
section
namespace Go.Proofs.YtajnanldmhpeaaaGreatDoor.P
open Go Go.Eng
set_option maxRecDepth 100000
set_option maxHeartbeats 4000000
end Go.Proofs.YtajnanldmhpeaaaGreatDoor.P
end
section
namespace Go.Proofs.YtajnanldmhpeaaaGreatDoor.P
open Go Go.Eng
set_option maxRecDepth 100000
set_option maxHeartbeats 4000000
end Go.Proofs.YtajnanldmhpeaaaGreatDoor.P
end
section
namespace Go.Proofs.YtajnanldmhpeaaaGreatDoor.P
open Go Go.Eng
set_option maxRecDepth 100000
set_option maxHeartbeats 4000000
end Go.Proofs.YtajnanldmhpeaaaGreatDoor.P
end
