/-
  DERIVED. GIVEN WITH THE SEED: THE CARDS: each row of YtcmnpelmmekdkaaGreatDoorRows.lean that lists a variable, with what it lists TIED to the program's text (the seventh form; the later family's looks); each row that meets fmt, with fmt's text TOLD by the authors' own Lean function (tested against real Go, not proved from fmt's source: count such statements apart). THE CARD IS WHAT COUNTS. Prove the row's statement (the work); the ties are given (YtcmnpelmmekdkaaGreatDoorTie.lean); close each card by the builder's one call (the guide's Derived/Test/ToyasCard.lean, 'card_holds'). Laid BY PROGRAM, IN A SANDBOX (cutbox-door.mjs). By AI agents, Wed Nov 11 2026. No macro, syntax, notation, axiom, sorry.
-/
import Derived.Test.YtcmnpelmmekdkaaGreatDoorRows
import GoSem.ClaimSeven
namespace Go.Proofs.YtcmnpelmmekdkaaGreatDoor
namespace Rows

/-- THE TIED CARD OF 'nameplanlaw19.DependMatchesReference'. -/
def dependMatchesReferenceCard : Claim7 := { stood := { row := dependMatchesReferenceRow, standIns := [], harness := (true, "ffa1d27bfb79db85c75cedd14c23e18a8595aa63cbea8095011fc82324a9ce30"), looks := false }, kinds := [], alts := [], laidByText := true, laidKinds := [.data], laidTests := true, laidLooks := .later }
def DependMatchesReferenceCardSaid : Prop := Claim7.holds Tryz.pinned (.plain (OpenSpec.ofChange dependMatchesReferenceSpec)) dependMatchesReferenceCard

/-- THE TIED CARD OF 'nameplanlaw19.DependClosed'. -/
def dependClosedCard : Claim7 := { stood := { row := dependClosedRow, standIns := [], harness := (true, "ffa1d27bfb79db85c75cedd14c23e18a8595aa63cbea8095011fc82324a9ce30"), looks := false }, kinds := [], alts := [], laidByText := true, laidKinds := [.data], laidTests := true, laidLooks := .later }
def DependClosedCardSaid : Prop := Claim7.holds Tryz.pinned (.plain (OpenSpec.ofChange dependClosedSpec)) dependClosedCard

/-- THE TIED CARD OF 'nameplanlaw19.DependShortest'. -/
def dependShortestCard : Claim7 := { stood := { row := dependShortestRow, standIns := [], harness := (true, "ffa1d27bfb79db85c75cedd14c23e18a8595aa63cbea8095011fc82324a9ce30"), looks := false }, kinds := [], alts := [], laidByText := true, laidKinds := [.data], laidTests := true, laidLooks := .later }
def DependShortestCardSaid : Prop := Claim7.holds Tryz.pinned (.plain (OpenSpec.ofChange dependShortestSpec)) dependShortestCard

/-- THE TIED CARD OF 'nameplanlaw19.DependOwners'. -/
def dependOwnersCard : Claim7 := { stood := { row := dependOwnersRow, standIns := [], harness := (true, "ffa1d27bfb79db85c75cedd14c23e18a8595aa63cbea8095011fc82324a9ce30"), looks := false }, kinds := [], alts := [], laidByText := true, laidKinds := [.data], laidTests := true, laidLooks := .later }
def DependOwnersCardSaid : Prop := Claim7.holds Tryz.pinned (.plain (OpenSpec.ofChange dependOwnersSpec)) dependOwnersCard

/-- THE TIED CARD OF 'nameplanlaw19.DependOthers'. -/
def dependOthersCard : Claim7 := { stood := { row := dependOthersRow, standIns := [], harness := (true, "ffa1d27bfb79db85c75cedd14c23e18a8595aa63cbea8095011fc82324a9ce30"), looks := false }, kinds := [], alts := [], laidByText := true, laidKinds := [.data], laidTests := true, laidLooks := .later }
def DependOthersCardSaid : Prop := Claim7.holds Tryz.pinned (.plain (OpenSpec.ofChange dependOthersSpec)) dependOthersCard

/-- THE TIED CARD OF 'nameplanlaw19.DependTruth'. -/
def dependTruthCard : Claim7 := { stood := { row := dependTruthRow, standIns := [], harness := (true, "ffa1d27bfb79db85c75cedd14c23e18a8595aa63cbea8095011fc82324a9ce30"), looks := false }, kinds := [], alts := [], laidByText := true, laidKinds := [.data], laidTests := true, laidLooks := .later }
def DependTruthCardSaid : Prop := Claim7.holds Tryz.pinned (.plain (OpenSpec.ofChange dependTruthSpec)) dependTruthCard

/-- THE SECOND FORM's CARD OF 'nameplanlaw19.DependMatchesReference'. -/
def dependMatchesReferenceUptoCard : Claim7 := { stood := { row := dependMatchesReferenceUptoRow, standIns := [], harness := (true, "ffa1d27bfb79db85c75cedd14c23e18a8595aa63cbea8095011fc82324a9ce30"), looks := false }, kinds := [], alts := [], laidByText := true, laidKinds := [.data], laidTests := true, laidLooks := .later }
def DependMatchesReferenceUptoCardSaid : Prop := Claim7.holds Tryz.pinned (.plain (OpenSpec.upto dependMatchesReferenceSpec)) dependMatchesReferenceUptoCard

/-- THE SECOND FORM's CARD OF 'nameplanlaw19.DependClosed'. -/
def dependClosedUptoCard : Claim7 := { stood := { row := dependClosedUptoRow, standIns := [], harness := (true, "ffa1d27bfb79db85c75cedd14c23e18a8595aa63cbea8095011fc82324a9ce30"), looks := false }, kinds := [], alts := [], laidByText := true, laidKinds := [.data], laidTests := true, laidLooks := .later }
def DependClosedUptoCardSaid : Prop := Claim7.holds Tryz.pinned (.plain (OpenSpec.upto dependClosedSpec)) dependClosedUptoCard

/-- THE SECOND FORM's CARD OF 'nameplanlaw19.DependShortest'. -/
def dependShortestUptoCard : Claim7 := { stood := { row := dependShortestUptoRow, standIns := [], harness := (true, "ffa1d27bfb79db85c75cedd14c23e18a8595aa63cbea8095011fc82324a9ce30"), looks := false }, kinds := [], alts := [], laidByText := true, laidKinds := [.data], laidTests := true, laidLooks := .later }
def DependShortestUptoCardSaid : Prop := Claim7.holds Tryz.pinned (.plain (OpenSpec.upto dependShortestSpec)) dependShortestUptoCard

/-- THE SECOND FORM's CARD OF 'nameplanlaw19.DependOwners'. -/
def dependOwnersUptoCard : Claim7 := { stood := { row := dependOwnersUptoRow, standIns := [], harness := (true, "ffa1d27bfb79db85c75cedd14c23e18a8595aa63cbea8095011fc82324a9ce30"), looks := false }, kinds := [], alts := [], laidByText := true, laidKinds := [.data], laidTests := true, laidLooks := .later }
def DependOwnersUptoCardSaid : Prop := Claim7.holds Tryz.pinned (.plain (OpenSpec.upto dependOwnersSpec)) dependOwnersUptoCard

/-- THE SECOND FORM's CARD OF 'nameplanlaw19.DependOthers'. -/
def dependOthersUptoCard : Claim7 := { stood := { row := dependOthersUptoRow, standIns := [], harness := (true, "ffa1d27bfb79db85c75cedd14c23e18a8595aa63cbea8095011fc82324a9ce30"), looks := false }, kinds := [], alts := [], laidByText := true, laidKinds := [.data], laidTests := true, laidLooks := .later }
def DependOthersUptoCardSaid : Prop := Claim7.holds Tryz.pinned (.plain (OpenSpec.upto dependOthersSpec)) dependOthersUptoCard

/-- THE SECOND FORM's CARD OF 'nameplanlaw19.DependTruth'. -/
def dependTruthUptoCard : Claim7 := { stood := { row := dependTruthUptoRow, standIns := [], harness := (true, "ffa1d27bfb79db85c75cedd14c23e18a8595aa63cbea8095011fc82324a9ce30"), looks := false }, kinds := [], alts := [], laidByText := true, laidKinds := [.data], laidTests := true, laidLooks := .later }
def DependTruthUptoCardSaid : Prop := Claim7.holds Tryz.pinned (.plain (OpenSpec.upto dependTruthSpec)) dependTruthUptoCard
end Rows
end Go.Proofs.YtcmnpelmmekdkaaGreatDoor
