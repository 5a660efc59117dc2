/-
  DERIVED. GIVEN WITH THE SEED: THE CARDS: each row of YthikfaephakahaaGreatDoorRows.lean that lists a variable, with what it lists TIED to the program's text (the seventh form; the later family's looks); each row that meets fmt, with fmt's text TOLD by the authors' own Lean function (tested against real Go, not proved from fmt's source: count such statements apart). THE CARD IS WHAT COUNTS. Prove the row's statement (the work); the ties are given (YthikfaephakahaaGreatDoorTie.lean); close each card by the builder's one call (the guide's Derived/Test/ToyasCard.lean, 'card_holds'). Laid BY PROGRAM, IN A SANDBOX (cutbox-door.mjs). By AI agents, Wed Nov 11 2026. No macro, syntax, notation, axiom, sorry.
-/
import Derived.Test.YthikfaephakahaaGreatDoorRows
import GoSem.ClaimSeven
namespace Go.Proofs.YthikfaephakahaaGreatDoor
namespace Rows

/-- THE TIED CARD OF 'nameplanlaw15.CopiesMatchesReference'. -/
def copiesMatchesReferenceCard : Claim7 := { stood := { row := copiesMatchesReferenceRow, standIns := [], harness := (true, "82e29f69e39bd0b54eaedaf52bab6a67c5c823ec319333d0afb7d375c2bf874d"), looks := false }, kinds := [], alts := [], laidByText := true, laidKinds := [.data], laidTests := true, laidLooks := .later }
def CopiesMatchesReferenceCardSaid : Prop := Claim7.holds Tryz.pinned (.plain (OpenSpec.ofChange copiesMatchesReferenceSpec)) copiesMatchesReferenceCard

/-- THE TIED CARD OF 'nameplanlaw15.CopiesTimes'. -/
def copiesTimesCard : Claim7 := { stood := { row := copiesTimesRow, standIns := [], harness := (true, "82e29f69e39bd0b54eaedaf52bab6a67c5c823ec319333d0afb7d375c2bf874d"), looks := false }, kinds := [], alts := [], laidByText := true, laidKinds := [.data], laidTests := true, laidLooks := .later }
def CopiesTimesCardSaid : Prop := Claim7.holds Tryz.pinned (.plain (OpenSpec.ofChange copiesTimesSpec)) copiesTimesCard

/-- THE TIED CARD OF 'nameplanlaw15.CopiesFollow'. -/
def copiesFollowCard : Claim7 := { stood := { row := copiesFollowRow, standIns := [], harness := (true, "82e29f69e39bd0b54eaedaf52bab6a67c5c823ec319333d0afb7d375c2bf874d"), looks := false }, kinds := [], alts := [], laidByText := true, laidKinds := [.data], laidTests := true, laidLooks := .later }
def CopiesFollowCardSaid : Prop := Claim7.holds Tryz.pinned (.plain (OpenSpec.ofChange copiesFollowSpec)) copiesFollowCard

/-- THE TIED CARD OF 'nameplanlaw15.CopiesLost'. -/
def copiesLostCard : Claim7 := { stood := { row := copiesLostRow, standIns := [], harness := (true, "82e29f69e39bd0b54eaedaf52bab6a67c5c823ec319333d0afb7d375c2bf874d"), looks := false }, kinds := [], alts := [], laidByText := true, laidKinds := [.data], laidTests := true, laidLooks := .later }
def CopiesLostCardSaid : Prop := Claim7.holds Tryz.pinned (.plain (OpenSpec.ofChange copiesLostSpec)) copiesLostCard

/-- THE TIED CARD OF 'nameplanlaw15.CopiesMore'. -/
def copiesMoreCard : Claim7 := { stood := { row := copiesMoreRow, standIns := [], harness := (true, "82e29f69e39bd0b54eaedaf52bab6a67c5c823ec319333d0afb7d375c2bf874d"), looks := false }, kinds := [], alts := [], laidByText := true, laidKinds := [.data], laidTests := true, laidLooks := .later }
def CopiesMoreCardSaid : Prop := Claim7.holds Tryz.pinned (.plain (OpenSpec.ofChange copiesMoreSpec)) copiesMoreCard

/-- THE TIED CARD OF 'nameplanlaw15.CopiesNothing'. -/
def copiesNothingCard : Claim7 := { stood := { row := copiesNothingRow, standIns := [], harness := (true, "82e29f69e39bd0b54eaedaf52bab6a67c5c823ec319333d0afb7d375c2bf874d"), looks := false }, kinds := [], alts := [], laidByText := true, laidKinds := [.data], laidTests := true, laidLooks := .later }
def CopiesNothingCardSaid : Prop := Claim7.holds Tryz.pinned (.plain (OpenSpec.ofChange copiesNothingSpec)) copiesNothingCard

/-- THE TIED CARD OF 'nameplanlaw19.DependMatchesReference'. -/
def dependMatchesReferenceCard : Claim7 := { stood := { row := dependMatchesReferenceRow, standIns := [], harness := (true, "82e29f69e39bd0b54eaedaf52bab6a67c5c823ec319333d0afb7d375c2bf874d"), looks := false }, kinds := [], alts := [], laidByText := true, laidKinds := [.data], laidTests := true, laidLooks := .later }
def DependMatchesReferenceCardSaid : Prop := Claim7.holds Tryz.pinned (.plain (OpenSpec.ofChange dependMatchesReferenceSpec)) dependMatchesReferenceCard

/-- THE TIED CARD OF 'nameplanlaw19.DependClosed'. -/
def dependClosedCard : Claim7 := { stood := { row := dependClosedRow, standIns := [], harness := (true, "82e29f69e39bd0b54eaedaf52bab6a67c5c823ec319333d0afb7d375c2bf874d"), looks := false }, kinds := [], alts := [], laidByText := true, laidKinds := [.data], laidTests := true, laidLooks := .later }
def DependClosedCardSaid : Prop := Claim7.holds Tryz.pinned (.plain (OpenSpec.ofChange dependClosedSpec)) dependClosedCard

/-- THE TIED CARD OF 'nameplanlaw19.DependShortest'. -/
def dependShortestCard : Claim7 := { stood := { row := dependShortestRow, standIns := [], harness := (true, "82e29f69e39bd0b54eaedaf52bab6a67c5c823ec319333d0afb7d375c2bf874d"), looks := false }, kinds := [], alts := [], laidByText := true, laidKinds := [.data], laidTests := true, laidLooks := .later }
def DependShortestCardSaid : Prop := Claim7.holds Tryz.pinned (.plain (OpenSpec.ofChange dependShortestSpec)) dependShortestCard

/-- THE TIED CARD OF 'nameplanlaw19.DependOwners'. -/
def dependOwnersCard : Claim7 := { stood := { row := dependOwnersRow, standIns := [], harness := (true, "82e29f69e39bd0b54eaedaf52bab6a67c5c823ec319333d0afb7d375c2bf874d"), looks := false }, kinds := [], alts := [], laidByText := true, laidKinds := [.data], laidTests := true, laidLooks := .later }
def DependOwnersCardSaid : Prop := Claim7.holds Tryz.pinned (.plain (OpenSpec.ofChange dependOwnersSpec)) dependOwnersCard

/-- THE TIED CARD OF 'nameplanlaw19.DependOthers'. -/
def dependOthersCard : Claim7 := { stood := { row := dependOthersRow, standIns := [], harness := (true, "82e29f69e39bd0b54eaedaf52bab6a67c5c823ec319333d0afb7d375c2bf874d"), looks := false }, kinds := [], alts := [], laidByText := true, laidKinds := [.data], laidTests := true, laidLooks := .later }
def DependOthersCardSaid : Prop := Claim7.holds Tryz.pinned (.plain (OpenSpec.ofChange dependOthersSpec)) dependOthersCard

/-- THE TIED CARD OF 'nameplanlaw19.DependTruth'. -/
def dependTruthCard : Claim7 := { stood := { row := dependTruthRow, standIns := [], harness := (true, "82e29f69e39bd0b54eaedaf52bab6a67c5c823ec319333d0afb7d375c2bf874d"), looks := false }, kinds := [], alts := [], laidByText := true, laidKinds := [.data], laidTests := true, laidLooks := .later }
def DependTruthCardSaid : Prop := Claim7.holds Tryz.pinned (.plain (OpenSpec.ofChange dependTruthSpec)) dependTruthCard

/-- THE SECOND FORM's CARD OF 'nameplanlaw15.CopiesMatchesReference'. -/
def copiesMatchesReferenceUptoCard : Claim7 := { stood := { row := copiesMatchesReferenceUptoRow, standIns := [], harness := (true, "82e29f69e39bd0b54eaedaf52bab6a67c5c823ec319333d0afb7d375c2bf874d"), looks := false }, kinds := [], alts := [], laidByText := true, laidKinds := [.data], laidTests := true, laidLooks := .later }
def CopiesMatchesReferenceUptoCardSaid : Prop := Claim7.holds Tryz.pinned (.plain (OpenSpec.upto copiesMatchesReferenceSpec)) copiesMatchesReferenceUptoCard

/-- THE SECOND FORM's CARD OF 'nameplanlaw15.CopiesTimes'. -/
def copiesTimesUptoCard : Claim7 := { stood := { row := copiesTimesUptoRow, standIns := [], harness := (true, "82e29f69e39bd0b54eaedaf52bab6a67c5c823ec319333d0afb7d375c2bf874d"), looks := false }, kinds := [], alts := [], laidByText := true, laidKinds := [.data], laidTests := true, laidLooks := .later }
def CopiesTimesUptoCardSaid : Prop := Claim7.holds Tryz.pinned (.plain (OpenSpec.upto copiesTimesSpec)) copiesTimesUptoCard

/-- THE SECOND FORM's CARD OF 'nameplanlaw15.CopiesFollow'. -/
def copiesFollowUptoCard : Claim7 := { stood := { row := copiesFollowUptoRow, standIns := [], harness := (true, "82e29f69e39bd0b54eaedaf52bab6a67c5c823ec319333d0afb7d375c2bf874d"), looks := false }, kinds := [], alts := [], laidByText := true, laidKinds := [.data], laidTests := true, laidLooks := .later }
def CopiesFollowUptoCardSaid : Prop := Claim7.holds Tryz.pinned (.plain (OpenSpec.upto copiesFollowSpec)) copiesFollowUptoCard

/-- THE SECOND FORM's CARD OF 'nameplanlaw15.CopiesLost'. -/
def copiesLostUptoCard : Claim7 := { stood := { row := copiesLostUptoRow, standIns := [], harness := (true, "82e29f69e39bd0b54eaedaf52bab6a67c5c823ec319333d0afb7d375c2bf874d"), looks := false }, kinds := [], alts := [], laidByText := true, laidKinds := [.data], laidTests := true, laidLooks := .later }
def CopiesLostUptoCardSaid : Prop := Claim7.holds Tryz.pinned (.plain (OpenSpec.upto copiesLostSpec)) copiesLostUptoCard

/-- THE SECOND FORM's CARD OF 'nameplanlaw15.CopiesMore'. -/
def copiesMoreUptoCard : Claim7 := { stood := { row := copiesMoreUptoRow, standIns := [], harness := (true, "82e29f69e39bd0b54eaedaf52bab6a67c5c823ec319333d0afb7d375c2bf874d"), looks := false }, kinds := [], alts := [], laidByText := true, laidKinds := [.data], laidTests := true, laidLooks := .later }
def CopiesMoreUptoCardSaid : Prop := Claim7.holds Tryz.pinned (.plain (OpenSpec.upto copiesMoreSpec)) copiesMoreUptoCard

/-- THE SECOND FORM's CARD OF 'nameplanlaw15.CopiesNothing'. -/
def copiesNothingUptoCard : Claim7 := { stood := { row := copiesNothingUptoRow, standIns := [], harness := (true, "82e29f69e39bd0b54eaedaf52bab6a67c5c823ec319333d0afb7d375c2bf874d"), looks := false }, kinds := [], alts := [], laidByText := true, laidKinds := [.data], laidTests := true, laidLooks := .later }
def CopiesNothingUptoCardSaid : Prop := Claim7.holds Tryz.pinned (.plain (OpenSpec.upto copiesNothingSpec)) copiesNothingUptoCard

/-- THE SECOND FORM's CARD OF 'nameplanlaw19.DependMatchesReference'. -/
def dependMatchesReferenceUptoCard : Claim7 := { stood := { row := dependMatchesReferenceUptoRow, standIns := [], harness := (true, "82e29f69e39bd0b54eaedaf52bab6a67c5c823ec319333d0afb7d375c2bf874d"), looks := false }, kinds := [], alts := [], laidByText := true, laidKinds := [.data], laidTests := true, laidLooks := .later }
def DependMatchesReferenceUptoCardSaid : Prop := Claim7.holds Tryz.pinned (.plain (OpenSpec.upto dependMatchesReferenceSpec)) dependMatchesReferenceUptoCard

/-- THE SECOND FORM's CARD OF 'nameplanlaw19.DependClosed'. -/
def dependClosedUptoCard : Claim7 := { stood := { row := dependClosedUptoRow, standIns := [], harness := (true, "82e29f69e39bd0b54eaedaf52bab6a67c5c823ec319333d0afb7d375c2bf874d"), looks := false }, kinds := [], alts := [], laidByText := true, laidKinds := [.data], laidTests := true, laidLooks := .later }
def DependClosedUptoCardSaid : Prop := Claim7.holds Tryz.pinned (.plain (OpenSpec.upto dependClosedSpec)) dependClosedUptoCard

/-- THE SECOND FORM's CARD OF 'nameplanlaw19.DependShortest'. -/
def dependShortestUptoCard : Claim7 := { stood := { row := dependShortestUptoRow, standIns := [], harness := (true, "82e29f69e39bd0b54eaedaf52bab6a67c5c823ec319333d0afb7d375c2bf874d"), looks := false }, kinds := [], alts := [], laidByText := true, laidKinds := [.data], laidTests := true, laidLooks := .later }
def DependShortestUptoCardSaid : Prop := Claim7.holds Tryz.pinned (.plain (OpenSpec.upto dependShortestSpec)) dependShortestUptoCard

/-- THE SECOND FORM's CARD OF 'nameplanlaw19.DependOwners'. -/
def dependOwnersUptoCard : Claim7 := { stood := { row := dependOwnersUptoRow, standIns := [], harness := (true, "82e29f69e39bd0b54eaedaf52bab6a67c5c823ec319333d0afb7d375c2bf874d"), looks := false }, kinds := [], alts := [], laidByText := true, laidKinds := [.data], laidTests := true, laidLooks := .later }
def DependOwnersUptoCardSaid : Prop := Claim7.holds Tryz.pinned (.plain (OpenSpec.upto dependOwnersSpec)) dependOwnersUptoCard

/-- THE SECOND FORM's CARD OF 'nameplanlaw19.DependOthers'. -/
def dependOthersUptoCard : Claim7 := { stood := { row := dependOthersUptoRow, standIns := [], harness := (true, "82e29f69e39bd0b54eaedaf52bab6a67c5c823ec319333d0afb7d375c2bf874d"), looks := false }, kinds := [], alts := [], laidByText := true, laidKinds := [.data], laidTests := true, laidLooks := .later }
def DependOthersUptoCardSaid : Prop := Claim7.holds Tryz.pinned (.plain (OpenSpec.upto dependOthersSpec)) dependOthersUptoCard

/-- THE SECOND FORM's CARD OF 'nameplanlaw19.DependTruth'. -/
def dependTruthUptoCard : Claim7 := { stood := { row := dependTruthUptoRow, standIns := [], harness := (true, "82e29f69e39bd0b54eaedaf52bab6a67c5c823ec319333d0afb7d375c2bf874d"), looks := false }, kinds := [], alts := [], laidByText := true, laidKinds := [.data], laidTests := true, laidLooks := .later }
def DependTruthUptoCardSaid : Prop := Claim7.holds Tryz.pinned (.plain (OpenSpec.upto dependTruthSpec)) dependTruthUptoCard
end Rows
end Go.Proofs.YthikfaephakahaaGreatDoor
