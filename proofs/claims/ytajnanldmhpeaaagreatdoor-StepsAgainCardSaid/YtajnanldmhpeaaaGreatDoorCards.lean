/-
  DERIVED. GIVEN WITH THE SEED: THE CARDS: each row of YtajnanldmhpeaaaGreatDoorRows.lean that lists a variable, with what it lists TIED to the program's text (the seventh form; the later family's looks); each row that meets fmt, with fmt's text TOLD by the authors' own Lean function (tested against real Go, not proved from fmt's source: count such statements apart). THE CARD IS WHAT COUNTS. Prove the row's statement (the work); the ties are given (YtajnanldmhpeaaaGreatDoorTie.lean); close each card by the builder's one call (the guide's Derived/Test/ToyasCard.lean, 'card_holds'). Laid BY PROGRAM, IN A SANDBOX (cutbox-door.mjs). By AI agents, Wed Nov 11 2026. No macro, syntax, notation, axiom, sorry.
-/
import Derived.Test.YtajnanldmhpeaaaGreatDoorRows
import GoSem.ClaimSeven
namespace Go.Proofs.YtajnanldmhpeaaaGreatDoor
namespace Rows

/-- THE TIED CARD OF 'nameplanlaw42.OperatorOnTime'. -/
def operatorOnTimeCard : Claim7 := { stood := { row := operatorOnTimeRow, standIns := [], harness := (true, "a6a15fee7aa04a0dfebf4efbd442428d4e9a997661970dfb52b65f93880ea876"), looks := false }, kinds := [], alts := [], laidByText := true, laidKinds := [.data], laidTests := true, laidLooks := .later }
def OperatorOnTimeCardSaid : Prop := Claim7.holds Tryz.pinned (.plain (OpenSpec.ofChange operatorOnTimeSpec)) operatorOnTimeCard

/-- THE TIED CARD OF 'nameplanlaw42.OperatorWaits'. -/
def operatorWaitsCard : Claim7 := { stood := { row := operatorWaitsRow, standIns := [], harness := (true, "a6a15fee7aa04a0dfebf4efbd442428d4e9a997661970dfb52b65f93880ea876"), looks := false }, kinds := [], alts := [], laidByText := true, laidKinds := [.data], laidTests := true, laidLooks := .later }
def OperatorWaitsCardSaid : Prop := Claim7.holds Tryz.pinned (.plain (OpenSpec.ofChange operatorWaitsSpec)) operatorWaitsCard

/-- THE TIED CARD OF 'nameplanlaw42.OperatorPause'. -/
def operatorPauseCard : Claim7 := { stood := { row := operatorPauseRow, standIns := [], harness := (true, "a6a15fee7aa04a0dfebf4efbd442428d4e9a997661970dfb52b65f93880ea876"), looks := false }, kinds := [], alts := [], laidByText := true, laidKinds := [.data], laidTests := true, laidLooks := .later }
def OperatorPauseCardSaid : Prop := Claim7.holds Tryz.pinned (.plain (OpenSpec.ofChange operatorPauseSpec)) operatorPauseCard

/-- THE TIED CARD OF 'nameplanlaw42.OperatorOver'. -/
def operatorOverCard : Claim7 := { stood := { row := operatorOverRow, standIns := [], harness := (true, "a6a15fee7aa04a0dfebf4efbd442428d4e9a997661970dfb52b65f93880ea876"), looks := false }, kinds := [], alts := [], laidByText := true, laidKinds := [.data], laidTests := true, laidLooks := .later }
def OperatorOverCardSaid : Prop := Claim7.holds Tryz.pinned (.plain (OpenSpec.ofChange operatorOverSpec)) operatorOverCard

/-- THE TIED CARD OF 'nameplanlaw42.OperatorDelays'. -/
def operatorDelaysCard : Claim7 := { stood := { row := operatorDelaysRow, standIns := [], harness := (true, "a6a15fee7aa04a0dfebf4efbd442428d4e9a997661970dfb52b65f93880ea876"), looks := false }, kinds := [], alts := [], laidByText := true, laidKinds := [.data], laidTests := true, laidLooks := .later }
def OperatorDelaysCardSaid : Prop := Claim7.holds Tryz.pinned (.plain (OpenSpec.ofChange operatorDelaysSpec)) operatorDelaysCard

/-- THE TIED CARD OF 'nameplanlaw35.StepsServed'. -/
def stepsServedCard : Claim7 := { stood := { row := stepsServedRow, standIns := [], harness := (true, "a6a15fee7aa04a0dfebf4efbd442428d4e9a997661970dfb52b65f93880ea876"), looks := false }, kinds := [], alts := [], laidByText := true, laidKinds := [.data], laidTests := true, laidLooks := .later }
def StepsServedCardSaid : Prop := Claim7.holds Tryz.pinned (.plain (OpenSpec.ofChange stepsServedSpec)) stepsServedCard

/-- THE TIED CARD OF 'nameplanlaw35.StepsParts'. -/
def stepsPartsCard : Claim7 := { stood := { row := stepsPartsRow, standIns := [], harness := (true, "a6a15fee7aa04a0dfebf4efbd442428d4e9a997661970dfb52b65f93880ea876"), looks := false }, kinds := [], alts := [], laidByText := true, laidKinds := [.data], laidTests := true, laidLooks := .later }
def StepsPartsCardSaid : Prop := Claim7.holds Tryz.pinned (.plain (OpenSpec.ofChange stepsPartsSpec)) stepsPartsCard

/-- THE TIED CARD OF 'nameplanlaw35.StepsValid'. -/
def stepsValidCard : Claim7 := { stood := { row := stepsValidRow, standIns := [], harness := (true, "a6a15fee7aa04a0dfebf4efbd442428d4e9a997661970dfb52b65f93880ea876"), looks := false }, kinds := [], alts := [], laidByText := true, laidKinds := [.data], laidTests := true, laidLooks := .later }
def StepsValidCardSaid : Prop := Claim7.holds Tryz.pinned (.plain (OpenSpec.ofChange stepsValidSpec)) stepsValidCard

/-- THE TIED CARD OF 'nameplanlaw35.StepsOthers'. -/
def stepsOthersCard : Claim7 := { stood := { row := stepsOthersRow, standIns := [], harness := (true, "a6a15fee7aa04a0dfebf4efbd442428d4e9a997661970dfb52b65f93880ea876"), looks := false }, kinds := [], alts := [], laidByText := true, laidKinds := [.data], laidTests := true, laidLooks := .later }
def StepsOthersCardSaid : Prop := Claim7.holds Tryz.pinned (.plain (OpenSpec.ofChange stepsOthersSpec)) stepsOthersCard

/-- THE TIED CARD OF 'nameplanlaw35.StepsOwners'. -/
def stepsOwnersCard : Claim7 := { stood := { row := stepsOwnersRow, standIns := [], harness := (true, "a6a15fee7aa04a0dfebf4efbd442428d4e9a997661970dfb52b65f93880ea876"), looks := false }, kinds := [], alts := [], laidByText := true, laidKinds := [.data], laidTests := true, laidLooks := .later }
def StepsOwnersCardSaid : Prop := Claim7.holds Tryz.pinned (.plain (OpenSpec.ofChange stepsOwnersSpec)) stepsOwnersCard

/-- THE TIED CARD OF 'nameplanlaw35.StepsAgain'. -/
def stepsAgainCard : Claim7 := { stood := { row := stepsAgainRow, standIns := [], harness := (true, "a6a15fee7aa04a0dfebf4efbd442428d4e9a997661970dfb52b65f93880ea876"), looks := false }, kinds := [], alts := [], laidByText := true, laidKinds := [.data], laidTests := true, laidLooks := .later }
def StepsAgainCardSaid : Prop := Claim7.holds Tryz.pinned (.plain (OpenSpec.ofChange stepsAgainSpec)) stepsAgainCard

/-- THE SECOND FORM's CARD OF 'nameplanlaw42.OperatorOnTime'. -/
def operatorOnTimeUptoCard : Claim7 := { stood := { row := operatorOnTimeUptoRow, standIns := [], harness := (true, "a6a15fee7aa04a0dfebf4efbd442428d4e9a997661970dfb52b65f93880ea876"), looks := false }, kinds := [], alts := [], laidByText := true, laidKinds := [.data], laidTests := true, laidLooks := .later }
def OperatorOnTimeUptoCardSaid : Prop := Claim7.holds Tryz.pinned (.plain (OpenSpec.upto operatorOnTimeSpec)) operatorOnTimeUptoCard

/-- THE SECOND FORM's CARD OF 'nameplanlaw42.OperatorWaits'. -/
def operatorWaitsUptoCard : Claim7 := { stood := { row := operatorWaitsUptoRow, standIns := [], harness := (true, "a6a15fee7aa04a0dfebf4efbd442428d4e9a997661970dfb52b65f93880ea876"), looks := false }, kinds := [], alts := [], laidByText := true, laidKinds := [.data], laidTests := true, laidLooks := .later }
def OperatorWaitsUptoCardSaid : Prop := Claim7.holds Tryz.pinned (.plain (OpenSpec.upto operatorWaitsSpec)) operatorWaitsUptoCard

/-- THE SECOND FORM's CARD OF 'nameplanlaw42.OperatorPause'. -/
def operatorPauseUptoCard : Claim7 := { stood := { row := operatorPauseUptoRow, standIns := [], harness := (true, "a6a15fee7aa04a0dfebf4efbd442428d4e9a997661970dfb52b65f93880ea876"), looks := false }, kinds := [], alts := [], laidByText := true, laidKinds := [.data], laidTests := true, laidLooks := .later }
def OperatorPauseUptoCardSaid : Prop := Claim7.holds Tryz.pinned (.plain (OpenSpec.upto operatorPauseSpec)) operatorPauseUptoCard

/-- THE SECOND FORM's CARD OF 'nameplanlaw42.OperatorOver'. -/
def operatorOverUptoCard : Claim7 := { stood := { row := operatorOverUptoRow, standIns := [], harness := (true, "a6a15fee7aa04a0dfebf4efbd442428d4e9a997661970dfb52b65f93880ea876"), looks := false }, kinds := [], alts := [], laidByText := true, laidKinds := [.data], laidTests := true, laidLooks := .later }
def OperatorOverUptoCardSaid : Prop := Claim7.holds Tryz.pinned (.plain (OpenSpec.upto operatorOverSpec)) operatorOverUptoCard

/-- THE SECOND FORM's CARD OF 'nameplanlaw42.OperatorDelays'. -/
def operatorDelaysUptoCard : Claim7 := { stood := { row := operatorDelaysUptoRow, standIns := [], harness := (true, "a6a15fee7aa04a0dfebf4efbd442428d4e9a997661970dfb52b65f93880ea876"), looks := false }, kinds := [], alts := [], laidByText := true, laidKinds := [.data], laidTests := true, laidLooks := .later }
def OperatorDelaysUptoCardSaid : Prop := Claim7.holds Tryz.pinned (.plain (OpenSpec.upto operatorDelaysSpec)) operatorDelaysUptoCard

/-- THE SECOND FORM's CARD OF 'nameplanlaw35.StepsServed'. -/
def stepsServedUptoCard : Claim7 := { stood := { row := stepsServedUptoRow, standIns := [], harness := (true, "a6a15fee7aa04a0dfebf4efbd442428d4e9a997661970dfb52b65f93880ea876"), looks := false }, kinds := [], alts := [], laidByText := true, laidKinds := [.data], laidTests := true, laidLooks := .later }
def StepsServedUptoCardSaid : Prop := Claim7.holds Tryz.pinned (.plain (OpenSpec.upto stepsServedSpec)) stepsServedUptoCard

/-- THE SECOND FORM's CARD OF 'nameplanlaw35.StepsParts'. -/
def stepsPartsUptoCard : Claim7 := { stood := { row := stepsPartsUptoRow, standIns := [], harness := (true, "a6a15fee7aa04a0dfebf4efbd442428d4e9a997661970dfb52b65f93880ea876"), looks := false }, kinds := [], alts := [], laidByText := true, laidKinds := [.data], laidTests := true, laidLooks := .later }
def StepsPartsUptoCardSaid : Prop := Claim7.holds Tryz.pinned (.plain (OpenSpec.upto stepsPartsSpec)) stepsPartsUptoCard

/-- THE SECOND FORM's CARD OF 'nameplanlaw35.StepsValid'. -/
def stepsValidUptoCard : Claim7 := { stood := { row := stepsValidUptoRow, standIns := [], harness := (true, "a6a15fee7aa04a0dfebf4efbd442428d4e9a997661970dfb52b65f93880ea876"), looks := false }, kinds := [], alts := [], laidByText := true, laidKinds := [.data], laidTests := true, laidLooks := .later }
def StepsValidUptoCardSaid : Prop := Claim7.holds Tryz.pinned (.plain (OpenSpec.upto stepsValidSpec)) stepsValidUptoCard

/-- THE SECOND FORM's CARD OF 'nameplanlaw35.StepsOthers'. -/
def stepsOthersUptoCard : Claim7 := { stood := { row := stepsOthersUptoRow, standIns := [], harness := (true, "a6a15fee7aa04a0dfebf4efbd442428d4e9a997661970dfb52b65f93880ea876"), looks := false }, kinds := [], alts := [], laidByText := true, laidKinds := [.data], laidTests := true, laidLooks := .later }
def StepsOthersUptoCardSaid : Prop := Claim7.holds Tryz.pinned (.plain (OpenSpec.upto stepsOthersSpec)) stepsOthersUptoCard

/-- THE SECOND FORM's CARD OF 'nameplanlaw35.StepsOwners'. -/
def stepsOwnersUptoCard : Claim7 := { stood := { row := stepsOwnersUptoRow, standIns := [], harness := (true, "a6a15fee7aa04a0dfebf4efbd442428d4e9a997661970dfb52b65f93880ea876"), looks := false }, kinds := [], alts := [], laidByText := true, laidKinds := [.data], laidTests := true, laidLooks := .later }
def StepsOwnersUptoCardSaid : Prop := Claim7.holds Tryz.pinned (.plain (OpenSpec.upto stepsOwnersSpec)) stepsOwnersUptoCard

/-- THE SECOND FORM's CARD OF 'nameplanlaw35.StepsAgain'. -/
def stepsAgainUptoCard : Claim7 := { stood := { row := stepsAgainUptoRow, standIns := [], harness := (true, "a6a15fee7aa04a0dfebf4efbd442428d4e9a997661970dfb52b65f93880ea876"), looks := false }, kinds := [], alts := [], laidByText := true, laidKinds := [.data], laidTests := true, laidLooks := .later }
def StepsAgainUptoCardSaid : Prop := Claim7.holds Tryz.pinned (.plain (OpenSpec.upto stepsAgainSpec)) stepsAgainUptoCard
end Rows
end Go.Proofs.YtajnanldmhpeaaaGreatDoor
