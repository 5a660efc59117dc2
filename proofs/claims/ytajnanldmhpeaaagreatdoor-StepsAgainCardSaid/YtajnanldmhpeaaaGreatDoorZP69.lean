/- The laws of package operator: what is few, and the example. Conditions: lengths that Go allows. -/
import Derived.Test.YtajnanldmhpeaaaGreatDoorZP68
import Derived.Test.YtajnanldmhpeaaaGreatDoorZM7
set_option linter.unusedVariables false
set_option linter.unusedSimpArgs false
namespace Go.Proofs.YtajnanldmhpeaaaGreatDoor.P
open Go Go.Eng
set_option maxRecDepth 100000
set_option maxHeartbeats 4000000
theorem fewZ_of {z:Zone} (hg:z.Good) (h:fewZ z=true):z.Fits∧z.Short∧z.Lens:=by
 simp only [fewZ,Bool.and_eq_true,decide_eq_true_eq] at h;obtain ⟨h1,h2⟩:=h;rw [List.take_of_length_le (by omega)] at h1;have he:∀ s∈z.sets,s.set.data.length≤20∧s.sigs.length≤20:=fun s hs=>by
  have:=List.all_eq_true.1 h1 s hs;simp [few1] at this;omega
 refine ⟨⟨hg.1,fun s hs=>⟨((hg.2.2 s hs).1).1,by have:=he s hs; omega,fun d hd=>(((hg.2.2 s hs).1).2.2.2.2 d hd).1⟩⟩,⟨by omega,fun s hs=>by have:=he s hs; omega⟩,⟨by omega,fun s hs=>⟨by have:=he s hs; omega,by have:=he s hs; omega⟩⟩⟩
theorem fewH_of {h:History} (hg:h.Good) (hf:fewH h=true):h.Fits∧h.copies.length≤20∧h.hints.length≤1000000∧h.Lens:=by
 simp only [fewH,fewL,Bool.and_eq_true,decide_eq_true_eq] at hf;obtain ⟨⟨h1,h2⟩,⟨⟨h3,h4⟩,h5⟩,h6⟩:=hf;rw [List.take_of_length_le (by omega)] at h1 h2;obtain ⟨g1,g2,g3,g4,g5⟩:=hg;have hz:∀ c∈h.copies,c.zone.Fits∧c.zone.Short∧c.zone.Lens:=fun c hc=>by
  have:=List.all_eq_true.1 h1 c hc;simp only [fewC,Bool.and_eq_true] at this;exact fewZ_of (g2.2 c hc).2.2.2 this.1
 refine ⟨⟨fun x hx=>(g1.2 x hx).1,⟨g3.1,by omega,fun d hd=>(g3.2.2.2.2 d hd).1⟩,g4.1,fun c hc=>(hz c hc).1⟩,h3,by omega,⟨by omega,by omega,by omega,by omega,fun c hc=>(hz c hc).2.2⟩⟩
theorem fewSteps_of {l:List Step} (hg:∀ s∈l,s.Good) (hf:fewStepsB l=true):Steps.Fits l∧l.length≤20∧(∀ s∈l,s.stage.puts.length≤1000000∧∀ x∈s.stage.puts,x.zone.Short)∧(∀ s∈l,s.stage.puts.length≤1000000∧∀ x∈s.stage.puts,x.zone.Lens):=by
 simp only [fewStepsB,Bool.and_eq_true,decide_eq_true_eq] at hf;obtain ⟨h1,h2⟩:=hf;have hp:∀ s∈l,s.stage.puts.length≤20∧∀ x∈s.stage.puts,x.zone.Fits∧x.zone.Short∧x.zone.Lens:=fun s hs=>by
  have:=List.all_eq_true.1 h2 s hs;simp only [fewStageB,Bool.and_eq_true,decide_eq_true_eq] at this;exact ⟨this.1,fun x hx=>fewZ_of (((hg s hs).2).2 x hx).2 (List.all_eq_true.1 this.2 x hx)⟩
 exact ⟨⟨fun s hs=>⟨fun x hx=>((hp s hs).2 x hx).1,by have:=(hp s hs).1; omega⟩,by omega⟩,h1,fun s hs=>⟨by have:=(hp s hs).1; omega,fun x hx=>((hp s hs).2 x hx).2.1⟩,fun s hs=>⟨by have:=(hp s hs).1; omega,fun x hx=>((hp s hs).2 x hx).2.2⟩⟩
end Go.Proofs.YtajnanldmhpeaaaGreatDoor.P
