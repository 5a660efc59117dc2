/-
  DERIVED. GIVEN WITH THE SEED: THE CARDS: each row of YtebielkakdhelaaGreatDoorRows.lean that lists a variable, with what it lists TIED to the program's text (the seventh form; the later family's looks); each row that meets fmt, with fmt's text TOLD by the authors' own Lean function (tested against real Go, not proved from fmt's source: count such statements apart). THE CARD IS WHAT COUNTS. Prove the row's statement (the work); the ties are given (YtebielkakdhelaaGreatDoorTie.lean); close each card by the builder's one call (the guide's Derived/Test/ToyasCard.lean, 'card_holds'). Laid BY PROGRAM, IN A SANDBOX (cutbox-door.mjs). By AI agents, Wed Nov 11 2026. No macro, syntax, notation, axiom, sorry.
-/
import Derived.Test.YtebielkakdhelaaGreatDoorRows
import GoSem.ClaimSeven
namespace Go.Proofs.YtebielkakdhelaaGreatDoor
namespace Rows

/-- THE TIED CARD OF 'nameplanlaw08.SignZones'. -/
def signZonesCard : Claim7 := { stood := { row := signZonesRow, standIns := [], harness := (true, "8a32b61a154552b0aa9794703de2ec3eafcce20a710c938debda61aee88e52d1"), looks := false }, kinds := [], alts := [], laidByText := true, laidKinds := [.data], laidTests := true, laidLooks := .later }
def SignZonesCardSaid : Prop := Claim7.holds Tryz.pinned (.plain (OpenSpec.ofChange signZonesSpec)) signZonesCard

/-- THE TIED CARD OF 'nameplanlaw42.OperatorMatchesReference'. -/
def operatorMatchesReferenceCard : Claim7 := { stood := { row := operatorMatchesReferenceRow, standIns := [], harness := (true, "8a32b61a154552b0aa9794703de2ec3eafcce20a710c938debda61aee88e52d1"), looks := false }, kinds := [], alts := [], laidByText := true, laidKinds := [.data], laidTests := true, laidLooks := .later }
def OperatorMatchesReferenceCardSaid : Prop := Claim7.holds Tryz.pinned (.plain (OpenSpec.ofChange operatorMatchesReferenceSpec)) operatorMatchesReferenceCard

/-- THE TIED CARD OF 'nameplanlaw42.OperatorOnTime'. -/
def operatorOnTimeCard : Claim7 := { stood := { row := operatorOnTimeRow, standIns := [], harness := (true, "8a32b61a154552b0aa9794703de2ec3eafcce20a710c938debda61aee88e52d1"), looks := false }, kinds := [], alts := [], laidByText := true, laidKinds := [.data], laidTests := true, laidLooks := .later }
def OperatorOnTimeCardSaid : Prop := Claim7.holds Tryz.pinned (.plain (OpenSpec.ofChange operatorOnTimeSpec)) operatorOnTimeCard

/-- THE TIED CARD OF 'nameplanlaw42.OperatorWaits'. -/
def operatorWaitsCard : Claim7 := { stood := { row := operatorWaitsRow, standIns := [], harness := (true, "8a32b61a154552b0aa9794703de2ec3eafcce20a710c938debda61aee88e52d1"), looks := false }, kinds := [], alts := [], laidByText := true, laidKinds := [.data], laidTests := true, laidLooks := .later }
def OperatorWaitsCardSaid : Prop := Claim7.holds Tryz.pinned (.plain (OpenSpec.ofChange operatorWaitsSpec)) operatorWaitsCard

/-- THE TIED CARD OF 'nameplanlaw42.OperatorPause'. -/
def operatorPauseCard : Claim7 := { stood := { row := operatorPauseRow, standIns := [], harness := (true, "8a32b61a154552b0aa9794703de2ec3eafcce20a710c938debda61aee88e52d1"), looks := false }, kinds := [], alts := [], laidByText := true, laidKinds := [.data], laidTests := true, laidLooks := .later }
def OperatorPauseCardSaid : Prop := Claim7.holds Tryz.pinned (.plain (OpenSpec.ofChange operatorPauseSpec)) operatorPauseCard

/-- THE TIED CARD OF 'nameplanlaw42.OperatorOver'. -/
def operatorOverCard : Claim7 := { stood := { row := operatorOverRow, standIns := [], harness := (true, "8a32b61a154552b0aa9794703de2ec3eafcce20a710c938debda61aee88e52d1"), looks := false }, kinds := [], alts := [], laidByText := true, laidKinds := [.data], laidTests := true, laidLooks := .later }
def OperatorOverCardSaid : Prop := Claim7.holds Tryz.pinned (.plain (OpenSpec.ofChange operatorOverSpec)) operatorOverCard

/-- THE TIED CARD OF 'nameplanlaw42.OperatorDelays'. -/
def operatorDelaysCard : Claim7 := { stood := { row := operatorDelaysRow, standIns := [], harness := (true, "8a32b61a154552b0aa9794703de2ec3eafcce20a710c938debda61aee88e52d1"), looks := false }, kinds := [], alts := [], laidByText := true, laidKinds := [.data], laidTests := true, laidLooks := .later }
def OperatorDelaysCardSaid : Prop := Claim7.holds Tryz.pinned (.plain (OpenSpec.ofChange operatorDelaysSpec)) operatorDelaysCard

/-- THE SECOND FORM's CARD OF 'nameplanlaw08.SignZones'. -/
def signZonesUptoCard : Claim7 := { stood := { row := signZonesUptoRow, standIns := [], harness := (true, "8a32b61a154552b0aa9794703de2ec3eafcce20a710c938debda61aee88e52d1"), looks := false }, kinds := [], alts := [], laidByText := true, laidKinds := [.data], laidTests := true, laidLooks := .later }
def SignZonesUptoCardSaid : Prop := Claim7.holds Tryz.pinned (.plain (OpenSpec.upto signZonesSpec)) signZonesUptoCard

/-- THE SECOND FORM's CARD OF 'nameplanlaw42.OperatorMatchesReference'. -/
def operatorMatchesReferenceUptoCard : Claim7 := { stood := { row := operatorMatchesReferenceUptoRow, standIns := [], harness := (true, "8a32b61a154552b0aa9794703de2ec3eafcce20a710c938debda61aee88e52d1"), looks := false }, kinds := [], alts := [], laidByText := true, laidKinds := [.data], laidTests := true, laidLooks := .later }
def OperatorMatchesReferenceUptoCardSaid : Prop := Claim7.holds Tryz.pinned (.plain (OpenSpec.upto operatorMatchesReferenceSpec)) operatorMatchesReferenceUptoCard

/-- THE SECOND FORM's CARD OF 'nameplanlaw42.OperatorOnTime'. -/
def operatorOnTimeUptoCard : Claim7 := { stood := { row := operatorOnTimeUptoRow, standIns := [], harness := (true, "8a32b61a154552b0aa9794703de2ec3eafcce20a710c938debda61aee88e52d1"), looks := false }, kinds := [], alts := [], laidByText := true, laidKinds := [.data], laidTests := true, laidLooks := .later }
def OperatorOnTimeUptoCardSaid : Prop := Claim7.holds Tryz.pinned (.plain (OpenSpec.upto operatorOnTimeSpec)) operatorOnTimeUptoCard

/-- THE SECOND FORM's CARD OF 'nameplanlaw42.OperatorWaits'. -/
def operatorWaitsUptoCard : Claim7 := { stood := { row := operatorWaitsUptoRow, standIns := [], harness := (true, "8a32b61a154552b0aa9794703de2ec3eafcce20a710c938debda61aee88e52d1"), looks := false }, kinds := [], alts := [], laidByText := true, laidKinds := [.data], laidTests := true, laidLooks := .later }
def OperatorWaitsUptoCardSaid : Prop := Claim7.holds Tryz.pinned (.plain (OpenSpec.upto operatorWaitsSpec)) operatorWaitsUptoCard

/-- THE SECOND FORM's CARD OF 'nameplanlaw42.OperatorPause'. -/
def operatorPauseUptoCard : Claim7 := { stood := { row := operatorPauseUptoRow, standIns := [], harness := (true, "8a32b61a154552b0aa9794703de2ec3eafcce20a710c938debda61aee88e52d1"), looks := false }, kinds := [], alts := [], laidByText := true, laidKinds := [.data], laidTests := true, laidLooks := .later }
def OperatorPauseUptoCardSaid : Prop := Claim7.holds Tryz.pinned (.plain (OpenSpec.upto operatorPauseSpec)) operatorPauseUptoCard

/-- THE SECOND FORM's CARD OF 'nameplanlaw42.OperatorOver'. -/
def operatorOverUptoCard : Claim7 := { stood := { row := operatorOverUptoRow, standIns := [], harness := (true, "8a32b61a154552b0aa9794703de2ec3eafcce20a710c938debda61aee88e52d1"), looks := false }, kinds := [], alts := [], laidByText := true, laidKinds := [.data], laidTests := true, laidLooks := .later }
def OperatorOverUptoCardSaid : Prop := Claim7.holds Tryz.pinned (.plain (OpenSpec.upto operatorOverSpec)) operatorOverUptoCard

/-- THE SECOND FORM's CARD OF 'nameplanlaw42.OperatorDelays'. -/
def operatorDelaysUptoCard : Claim7 := { stood := { row := operatorDelaysUptoRow, standIns := [], harness := (true, "8a32b61a154552b0aa9794703de2ec3eafcce20a710c938debda61aee88e52d1"), looks := false }, kinds := [], alts := [], laidByText := true, laidKinds := [.data], laidTests := true, laidLooks := .later }
def OperatorDelaysUptoCardSaid : Prop := Claim7.holds Tryz.pinned (.plain (OpenSpec.upto operatorDelaysSpec)) operatorDelaysUptoCard
end Rows
end Go.Proofs.YtebielkakdhelaaGreatDoor
