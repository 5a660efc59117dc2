/- The law OperatorMatchesReference: the walk. Conditions: what Go allows of the arguments. -/
import Derived.Test.YtajnanldmhpeaaaGreatDoorZP69
set_option linter.unusedVariables false
set_option linter.unusedSimpArgs false
namespace Go.Proofs.YtajnanldmhpeaaaGreatDoor.P
open Go Go.Eng
set_option maxRecDepth 100000
set_option maxHeartbeats 4000000
theorem zeroH_lens:zeroH.Lens:=⟨by simp [zeroH],by simp [zeroH],by simp [zeroH],by simp [zeroH],fun c hc=>by simp [zeroH] at hc⟩
theorem apply_lens {h:History} {l:List Step} (hh:h.Lens) (hc:h.copies.length≤20) (hl:l.length≤400) (hp:∀ s∈l,s.stage.puts.length≤500) (he:∀ s∈l,∀ x∈s.stage.puts,x.zone.Lens):(applyH h l).Lens:=by
 unfold applyH;split
 ·have:=runS_len (fin:=h.fin) (cs:=h.copies) hp l.length (Nat.le_refl _);rw [List.take_length] at this;exact ⟨hh.hosts,by simp only; omega,hh.hints,hh.anchor,runS_zones hh.zones (fun s hs x hx _=>he s hs x hx)⟩
 ·exact zeroH_lens
end Go.Proofs.YtajnanldmhpeaaaGreatDoor.P
