/-
  DERIVED. GIVEN WITH THE SEED: THE CARDS: each row of YtlhehdgciafakaaGreatDoorRows.lean that lists a variable, with what it lists TIED to the program's text (the seventh form; the later family's looks); each row that meets fmt, with fmt's text TOLD by the authors' own Lean function (tested against real Go, not proved from fmt's source: count such statements apart). THE CARD IS WHAT COUNTS. Prove the row's statement (the work); the ties are given (YtlhehdgciafakaaGreatDoorTie.lean); close each card by the builder's one call (the guide's Derived/Test/ToyasCard.lean, 'card_holds'). Laid BY PROGRAM, IN A SANDBOX (cutbox-door.mjs). By AI agents, Wed Nov 11 2026. No macro, syntax, notation, axiom, sorry.
-/
import Derived.Test.YtlhehdgciafakaaGreatDoorRows
import GoSem.ClaimSeven
namespace Go.Proofs.YtlhehdgciafakaaGreatDoor
namespace Rows

/-- THE TIED CARD OF 'nameplanlaw43.EvidenceMatchesReference'. -/
def evidenceMatchesReferenceCard : Claim7 := { stood := { row := evidenceMatchesReferenceRow, standIns := [], harness := (true, "89caef1ba3e7bfdcae4b7fb4870e32e3dd18d6125d4ca7f550b540191a837708"), looks := false }, kinds := [], alts := [], laidByText := true, laidKinds := [.sentinel, .data], laidTests := true, laidLooks := .later }
def EvidenceMatchesReferenceCardSaid : Prop := Claim7.holds Tryz.pinned (.plain (OpenSpec.ofChange evidenceMatchesReferenceSpec)) evidenceMatchesReferenceCard

/-- THE SECOND FORM's CARD OF 'nameplanlaw43.EvidenceMatchesReference'. -/
def evidenceMatchesReferenceUptoCard : Claim7 := { stood := { row := evidenceMatchesReferenceUptoRow, standIns := [], harness := (true, "89caef1ba3e7bfdcae4b7fb4870e32e3dd18d6125d4ca7f550b540191a837708"), looks := false }, kinds := [], alts := [], laidByText := true, laidKinds := [.sentinel, .data], laidTests := true, laidLooks := .later }
def EvidenceMatchesReferenceUptoCardSaid : Prop := Claim7.holds Tryz.pinned (.plain (OpenSpec.upto evidenceMatchesReferenceSpec)) evidenceMatchesReferenceUptoCard
end Rows
end Go.Proofs.YtlhehdgciafakaaGreatDoor
