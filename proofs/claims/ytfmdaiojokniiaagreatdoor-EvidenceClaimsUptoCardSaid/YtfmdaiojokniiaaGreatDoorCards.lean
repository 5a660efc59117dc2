/-
  DERIVED. GIVEN WITH THE SEED: THE CARDS: each row of YtfmdaiojokniiaaGreatDoorRows.lean that lists a variable, with what it lists TIED to the program's text (the seventh form; the later family's looks); each row that meets fmt, with fmt's text TOLD by the authors' own Lean function (tested against real Go, not proved from fmt's source: count such statements apart). THE CARD IS WHAT COUNTS. Prove the row's statement (the work); the ties are given (YtfmdaiojokniiaaGreatDoorTie.lean); close each card by the builder's one call (the guide's Derived/Test/ToyasCard.lean, 'card_holds'). Laid BY PROGRAM, IN A SANDBOX (cutbox-door.mjs). By AI agents, Wed Nov 11 2026. No macro, syntax, notation, axiom, sorry.
-/
import Derived.Test.YtfmdaiojokniiaaGreatDoorRows
import GoSem.ClaimSeven
namespace Go.Proofs.YtfmdaiojokniiaaGreatDoor
namespace Rows

/-- THE TIED CARD OF 'nameplanlaw43.EvidenceMatchesReference'. -/
def evidenceMatchesReferenceCard : Claim7 := { stood := { row := evidenceMatchesReferenceRow, standIns := [], harness := (true, "c6cfc7f965f9ae495ae7982c168ee01292274bcfa289cf3ac75c2048fdc69b49"), looks := false }, kinds := [], alts := [], laidByText := true, laidKinds := [.sentinel, .data], laidTests := true, laidLooks := .later }
def EvidenceMatchesReferenceCardSaid : Prop := Claim7.holds Tryz.pinned (.plain (OpenSpec.ofChange evidenceMatchesReferenceSpec)) evidenceMatchesReferenceCard

/-- THE TIED CARD OF 'nameplanlaw43.EvidenceHonest'. -/
def evidenceHonestCard : Claim7 := { stood := { row := evidenceHonestRow, standIns := [], harness := (true, "c6cfc7f965f9ae495ae7982c168ee01292274bcfa289cf3ac75c2048fdc69b49"), looks := false }, kinds := [], alts := [], laidByText := true, laidKinds := [.sentinel, .data], laidTests := true, laidLooks := .later }
def EvidenceHonestCardSaid : Prop := Claim7.holds Tryz.pinned (.plain (OpenSpec.ofChange evidenceHonestSpec)) evidenceHonestCard

/-- THE TIED CARD OF 'nameplanlaw43.EvidenceServes'. -/
def evidenceServesCard : Claim7 := { stood := { row := evidenceServesRow, standIns := [], harness := (true, "c6cfc7f965f9ae495ae7982c168ee01292274bcfa289cf3ac75c2048fdc69b49"), looks := false }, kinds := [], alts := [], laidByText := true, laidKinds := [.sentinel, .data], laidTests := true, laidLooks := .later }
def EvidenceServesCardSaid : Prop := Claim7.holds Tryz.pinned (.plain (OpenSpec.ofChange evidenceServesSpec)) evidenceServesCard

/-- THE TIED CARD OF 'nameplanlaw43.EvidenceDamage'. -/
def evidenceDamageCard : Claim7 := { stood := { row := evidenceDamageRow, standIns := [], harness := (true, "c6cfc7f965f9ae495ae7982c168ee01292274bcfa289cf3ac75c2048fdc69b49"), looks := false }, kinds := [], alts := [], laidByText := true, laidKinds := [.sentinel, .data], laidTests := true, laidLooks := .later }
def EvidenceDamageCardSaid : Prop := Claim7.holds Tryz.pinned (.plain (OpenSpec.ofChange evidenceDamageSpec)) evidenceDamageCard

/-- THE TIED CARD OF 'nameplanlaw43.EvidenceClaims'. -/
def evidenceClaimsCard : Claim7 := { stood := { row := evidenceClaimsRow, standIns := [], harness := (true, "c6cfc7f965f9ae495ae7982c168ee01292274bcfa289cf3ac75c2048fdc69b49"), looks := false }, kinds := [], alts := [], laidByText := true, laidKinds := [.sentinel, .data], laidTests := true, laidLooks := .later }
def EvidenceClaimsCardSaid : Prop := Claim7.holds Tryz.pinned (.plain (OpenSpec.ofChange evidenceClaimsSpec)) evidenceClaimsCard

/-- THE TIED CARD OF 'nameplanlaw43.EvidenceHeard'. -/
def evidenceHeardCard : Claim7 := { stood := { row := evidenceHeardRow, standIns := [], harness := (true, "c6cfc7f965f9ae495ae7982c168ee01292274bcfa289cf3ac75c2048fdc69b49"), looks := false }, kinds := [], alts := [], laidByText := true, laidKinds := [.sentinel, .data], laidTests := true, laidLooks := .later }
def EvidenceHeardCardSaid : Prop := Claim7.holds Tryz.pinned (.plain (OpenSpec.ofChange evidenceHeardSpec)) evidenceHeardCard

/-- THE SECOND FORM's CARD OF 'nameplanlaw43.EvidenceMatchesReference'. -/
def evidenceMatchesReferenceUptoCard : Claim7 := { stood := { row := evidenceMatchesReferenceUptoRow, standIns := [], harness := (true, "c6cfc7f965f9ae495ae7982c168ee01292274bcfa289cf3ac75c2048fdc69b49"), looks := false }, kinds := [], alts := [], laidByText := true, laidKinds := [.sentinel, .data], laidTests := true, laidLooks := .later }
def EvidenceMatchesReferenceUptoCardSaid : Prop := Claim7.holds Tryz.pinned (.plain (OpenSpec.upto evidenceMatchesReferenceSpec)) evidenceMatchesReferenceUptoCard

/-- THE SECOND FORM's CARD OF 'nameplanlaw43.EvidenceHonest'. -/
def evidenceHonestUptoCard : Claim7 := { stood := { row := evidenceHonestUptoRow, standIns := [], harness := (true, "c6cfc7f965f9ae495ae7982c168ee01292274bcfa289cf3ac75c2048fdc69b49"), looks := false }, kinds := [], alts := [], laidByText := true, laidKinds := [.sentinel, .data], laidTests := true, laidLooks := .later }
def EvidenceHonestUptoCardSaid : Prop := Claim7.holds Tryz.pinned (.plain (OpenSpec.upto evidenceHonestSpec)) evidenceHonestUptoCard

/-- THE SECOND FORM's CARD OF 'nameplanlaw43.EvidenceServes'. -/
def evidenceServesUptoCard : Claim7 := { stood := { row := evidenceServesUptoRow, standIns := [], harness := (true, "c6cfc7f965f9ae495ae7982c168ee01292274bcfa289cf3ac75c2048fdc69b49"), looks := false }, kinds := [], alts := [], laidByText := true, laidKinds := [.sentinel, .data], laidTests := true, laidLooks := .later }
def EvidenceServesUptoCardSaid : Prop := Claim7.holds Tryz.pinned (.plain (OpenSpec.upto evidenceServesSpec)) evidenceServesUptoCard

/-- THE SECOND FORM's CARD OF 'nameplanlaw43.EvidenceDamage'. -/
def evidenceDamageUptoCard : Claim7 := { stood := { row := evidenceDamageUptoRow, standIns := [], harness := (true, "c6cfc7f965f9ae495ae7982c168ee01292274bcfa289cf3ac75c2048fdc69b49"), looks := false }, kinds := [], alts := [], laidByText := true, laidKinds := [.sentinel, .data], laidTests := true, laidLooks := .later }
def EvidenceDamageUptoCardSaid : Prop := Claim7.holds Tryz.pinned (.plain (OpenSpec.upto evidenceDamageSpec)) evidenceDamageUptoCard

/-- THE SECOND FORM's CARD OF 'nameplanlaw43.EvidenceClaims'. -/
def evidenceClaimsUptoCard : Claim7 := { stood := { row := evidenceClaimsUptoRow, standIns := [], harness := (true, "c6cfc7f965f9ae495ae7982c168ee01292274bcfa289cf3ac75c2048fdc69b49"), looks := false }, kinds := [], alts := [], laidByText := true, laidKinds := [.sentinel, .data], laidTests := true, laidLooks := .later }
def EvidenceClaimsUptoCardSaid : Prop := Claim7.holds Tryz.pinned (.plain (OpenSpec.upto evidenceClaimsSpec)) evidenceClaimsUptoCard

/-- THE SECOND FORM's CARD OF 'nameplanlaw43.EvidenceHeard'. -/
def evidenceHeardUptoCard : Claim7 := { stood := { row := evidenceHeardUptoRow, standIns := [], harness := (true, "c6cfc7f965f9ae495ae7982c168ee01292274bcfa289cf3ac75c2048fdc69b49"), looks := false }, kinds := [], alts := [], laidByText := true, laidKinds := [.sentinel, .data], laidTests := true, laidLooks := .later }
def EvidenceHeardUptoCardSaid : Prop := Claim7.holds Tryz.pinned (.plain (OpenSpec.upto evidenceHeardSpec)) evidenceHeardUptoCard
end Rows
end Go.Proofs.YtfmdaiojokniiaaGreatDoor
