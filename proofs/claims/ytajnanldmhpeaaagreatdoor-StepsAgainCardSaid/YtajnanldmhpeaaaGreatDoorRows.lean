/-
  NARROWER THAN 'FOR EVERY INPUT', by the rows' own cells (each row's printed sentence says how): OperatorOnTime: laid · OperatorWaits: laid · OperatorPause: laid · OperatorOver: laid · OperatorDelays: laid · StepsServed: laid · StepsParts: laid · StepsValid: laid · StepsOthers: laid · StepsOwners: laid · StepsAgain: laid.
  DERIVED. THE GIVEN ROWS OF THIS SEAT. 11 by the template 'for every input the law returns true; each argument reads behind the call as it read before'; 0 by the template 'total and deterministic' (their statements: YtajnanldmhpeaaaGreatDoorTotals.lean).
  GIVEN WITH THE SEED: the statements are not yours to turn. If you find one false, say at which input.
  Laid BY PROGRAM, IN A SANDBOX (cutbox-rows.mjs): the forced cells as the released guide's own fill.sh prints them over the translation e8a6c30881a20950… (all of the seat's roots in one cut). By AI agents, Wed Nov 11 2026. No macro, syntax, notation, axiom, sorry.
-/
import Derived.Test.YtajnanldmhpeaaaGreatDoorChecked
import GoSem.Claim
import GoSem.ClaimJoined
import GoSem.ClaimMapViews
import Derived.JoinedTies
import Derived.KernelRfl
namespace Go.Proofs.YtajnanldmhpeaaaGreatDoor
/- THE CELL 'sum', in the pinned program and in every row, IS THE sha256 OF THE DUMP (.gsa) THAT YtajnanldmhpeaaaGreatDoorProg.lean LOADS. Nothing in Lean hashes anything: it is a label: what it is worth is what the hold of that sum in a sandbox is worth. -/
noncomputable def Tryz.pinned : Pinned := { name := "ytajnanldmhpeaaagreatdoor", sum := "e8a6c30881a20950e206485d4ff765550c574b37757b32c2de10ca3341d790f9", checked := Tryz.checked }
namespace Rows
def none {H : Type} : Left H := { results := [], args := [] }

/- WHAT THE LISTED PACKAGE-LEVEL VARIABLES READ AS WHEN THE CALL BEGINS. Each datum BY PROGRAM (the guide's laid-datum.mjs) off the statement by which the dump's own 'gosem.cut.vars' lays the variable. In a bare row this is a premise. The card (YtajnanldmhpeaaaGreatDoorCards.lean) ties it to the program's text. -/
def laid_nameplan_record_rules {H : Type} : DataW H := .agg [.agg [.lit (.int .i64 0), .lit (.int .i64 0), .lit (.int .i64 0), .lit (.int .i64 0), .lit (.int .i64 0), .lit (.bool false), .lit (.bool false), .lit (.bool false)], .agg [.lit (.int .i64 0), .lit (.int .i64 1), .lit (.int .i64 1000000), .lit (.int .i64 0), .lit (.int .i64 0), .lit (.bool false), .lit (.bool false), .lit (.bool true)], .agg [.lit (.int .i64 1), .lit (.int .i64 0), .lit (.int .i64 0), .lit (.int .i64 0), .lit (.int .i64 0), .lit (.bool false), .lit (.bool false), .lit (.bool false)], .agg [.lit (.int .i64 1), .lit (.int .i64 0), .lit (.int .i64 0), .lit (.int .i64 0), .lit (.int .i64 0), .lit (.bool false), .lit (.bool true), .lit (.bool false)], .agg [.lit (.int .i64 0), .lit (.int .i64 0), .lit (.int .i64 65535), .lit (.int .i64 0), .lit (.int .i64 100000), .lit (.bool false), .lit (.bool true), .lit (.bool false)], .agg [.lit (.int .i64 3), .lit (.int .i64 0), .lit (.int .i64 0), .lit (.int .i64 0), .lit (.int .i64 0), .lit (.bool false), .lit (.bool false), .lit (.bool true)], .agg [.lit (.int .i64 0), .lit (.int .i64 1), .lit (.int .i64 1000000), .lit (.int .i64 1), .lit (.int .i64 3), .lit (.bool false), .lit (.bool false), .lit (.bool false)], .agg [.lit (.int .i64 0), .lit (.int .i64 1), .lit (.int .i64 1000000), .lit (.int .i64 1), .lit (.int .i64 3), .lit (.bool false), .lit (.bool false), .lit (.bool false)], .agg [.lit (.int .i64 2), .lit (.int .i64 2), .lit (.int .i64 510), .lit (.int .i64 0), .lit (.int .i64 0), .lit (.bool true), .lit (.bool false), .lit (.bool true)]]

/-- 'nameplanlaw42.OperatorOnTime': WHATEVER THE INPUT: true; the input reads as it did. -/
def operatorOnTimeSpec : ChangeSpec := { name := "operatorOnTime", fn := fun _ => fun
  | [d1, d2, d3] => { results := [.lit (.bool true)], args := [d1, d2, d3] }
  | _ => none }
def operatorOnTimeRow : OpenClaim := { program := "ytajnanldmhpeaaagreatdoor", sum := "e8a6c30881a20950e206485d4ff765550c574b37757b32c2de10ca3341d790f9", func := "nameplan/nameplanlaw42.OperatorOnTime", spec := "operatorOnTime", inPlace := ["internal/bytealg.abigen_runtime_cmpstring"], unfollowed := true, recurses := true, named := ["nameplan/record.rules"], plainKeys := false, apart := false, laid := [("nameplan/record.rules", laid_nameplan_record_rules)] }
def OperatorOnTimeSaid : Prop := operatorOnTimeRow.holds Tryz.pinned (OpenSpec.ofChange operatorOnTimeSpec)

/-- ITS FALSE NEIGHBOUR: 'it returns false'. Refute it at one input. -/
def operatorOnTimeWrong : ChangeSpec := { name := "operatorOnTime", fn := fun _ => fun
  | [d1, d2, d3] => { results := [.lit (.bool false)], args := [d1, d2, d3] }
  | _ => none }
def OperatorOnTimeWrongFalsely : Prop := operatorOnTimeRow.holds Tryz.pinned (OpenSpec.ofChange operatorOnTimeWrong)

/-- 'nameplanlaw42.OperatorWaits': WHATEVER THE INPUT: true; the input reads as it did. -/
def operatorWaitsSpec : ChangeSpec := { name := "operatorWaits", fn := fun _ => fun
  | [d1, d2, d3] => { results := [.lit (.bool true)], args := [d1, d2, d3] }
  | _ => none }
def operatorWaitsRow : OpenClaim := { program := "ytajnanldmhpeaaagreatdoor", sum := "e8a6c30881a20950e206485d4ff765550c574b37757b32c2de10ca3341d790f9", func := "nameplan/nameplanlaw42.OperatorWaits", spec := "operatorWaits", inPlace := ["internal/bytealg.abigen_runtime_cmpstring"], unfollowed := true, recurses := true, named := ["nameplan/record.rules"], plainKeys := false, apart := false, laid := [("nameplan/record.rules", laid_nameplan_record_rules)] }
def OperatorWaitsSaid : Prop := operatorWaitsRow.holds Tryz.pinned (OpenSpec.ofChange operatorWaitsSpec)

/-- ITS FALSE NEIGHBOUR: 'it returns false'. Refute it at one input. -/
def operatorWaitsWrong : ChangeSpec := { name := "operatorWaits", fn := fun _ => fun
  | [d1, d2, d3] => { results := [.lit (.bool false)], args := [d1, d2, d3] }
  | _ => none }
def OperatorWaitsWrongFalsely : Prop := operatorWaitsRow.holds Tryz.pinned (OpenSpec.ofChange operatorWaitsWrong)

/-- 'nameplanlaw42.OperatorPause': WHATEVER THE INPUT: true; the input reads as it did. -/
def operatorPauseSpec : ChangeSpec := { name := "operatorPause", fn := fun _ => fun
  | [d1, d2, d3, d4] => { results := [.lit (.bool true)], args := [d1, d2, d3, d4] }
  | _ => none }
def operatorPauseRow : OpenClaim := { program := "ytajnanldmhpeaaagreatdoor", sum := "e8a6c30881a20950e206485d4ff765550c574b37757b32c2de10ca3341d790f9", func := "nameplan/nameplanlaw42.OperatorPause", spec := "operatorPause", inPlace := ["internal/bytealg.abigen_runtime_cmpstring"], unfollowed := true, recurses := true, named := ["nameplan/record.rules"], plainKeys := false, apart := false, laid := [("nameplan/record.rules", laid_nameplan_record_rules)] }
def OperatorPauseSaid : Prop := operatorPauseRow.holds Tryz.pinned (OpenSpec.ofChange operatorPauseSpec)

/-- ITS FALSE NEIGHBOUR: 'it returns false'. Refute it at one input. -/
def operatorPauseWrong : ChangeSpec := { name := "operatorPause", fn := fun _ => fun
  | [d1, d2, d3, d4] => { results := [.lit (.bool false)], args := [d1, d2, d3, d4] }
  | _ => none }
def OperatorPauseWrongFalsely : Prop := operatorPauseRow.holds Tryz.pinned (OpenSpec.ofChange operatorPauseWrong)

/-- 'nameplanlaw42.OperatorOver': WHATEVER THE INPUT: true; the input reads as it did. -/
def operatorOverSpec : ChangeSpec := { name := "operatorOver", fn := fun _ => fun
  | [d1, d2, d3, d4] => { results := [.lit (.bool true)], args := [d1, d2, d3, d4] }
  | _ => none }
def operatorOverRow : OpenClaim := { program := "ytajnanldmhpeaaagreatdoor", sum := "e8a6c30881a20950e206485d4ff765550c574b37757b32c2de10ca3341d790f9", func := "nameplan/nameplanlaw42.OperatorOver", spec := "operatorOver", inPlace := ["internal/bytealg.abigen_runtime_cmpstring"], unfollowed := true, recurses := true, named := ["nameplan/record.rules"], plainKeys := false, apart := false, laid := [("nameplan/record.rules", laid_nameplan_record_rules)] }
def OperatorOverSaid : Prop := operatorOverRow.holds Tryz.pinned (OpenSpec.ofChange operatorOverSpec)

/-- ITS FALSE NEIGHBOUR: 'it returns false'. Refute it at one input. -/
def operatorOverWrong : ChangeSpec := { name := "operatorOver", fn := fun _ => fun
  | [d1, d2, d3, d4] => { results := [.lit (.bool false)], args := [d1, d2, d3, d4] }
  | _ => none }
def OperatorOverWrongFalsely : Prop := operatorOverRow.holds Tryz.pinned (OpenSpec.ofChange operatorOverWrong)

/-- 'nameplanlaw42.OperatorDelays': WHATEVER THE INPUT: true; the input reads as it did. -/
def operatorDelaysSpec : ChangeSpec := { name := "operatorDelays", fn := fun _ => fun
  | [d1, d2, d3, d4, d5] => { results := [.lit (.bool true)], args := [d1, d2, d3, d4, d5] }
  | _ => none }
def operatorDelaysRow : OpenClaim := { program := "ytajnanldmhpeaaagreatdoor", sum := "e8a6c30881a20950e206485d4ff765550c574b37757b32c2de10ca3341d790f9", func := "nameplan/nameplanlaw42.OperatorDelays", spec := "operatorDelays", inPlace := ["internal/bytealg.abigen_runtime_cmpstring"], unfollowed := true, recurses := true, named := ["nameplan/record.rules"], plainKeys := false, apart := false, laid := [("nameplan/record.rules", laid_nameplan_record_rules)] }
def OperatorDelaysSaid : Prop := operatorDelaysRow.holds Tryz.pinned (OpenSpec.ofChange operatorDelaysSpec)

/-- ITS FALSE NEIGHBOUR: 'it returns false'. Refute it at one input. -/
def operatorDelaysWrong : ChangeSpec := { name := "operatorDelays", fn := fun _ => fun
  | [d1, d2, d3, d4, d5] => { results := [.lit (.bool false)], args := [d1, d2, d3, d4, d5] }
  | _ => none }
def OperatorDelaysWrongFalsely : Prop := operatorDelaysRow.holds Tryz.pinned (OpenSpec.ofChange operatorDelaysWrong)

/-- 'nameplanlaw35.StepsServed': WHATEVER THE INPUT: true; the input reads as it did. -/
def stepsServedSpec : ChangeSpec := { name := "stepsServed", fn := fun _ => fun
  | [d1, d2, d3] => { results := [.lit (.bool true)], args := [d1, d2, d3] }
  | _ => none }
def stepsServedRow : OpenClaim := { program := "ytajnanldmhpeaaagreatdoor", sum := "e8a6c30881a20950e206485d4ff765550c574b37757b32c2de10ca3341d790f9", func := "nameplan/nameplanlaw35.StepsServed", spec := "stepsServed", inPlace := ["internal/bytealg.abigen_runtime_cmpstring"], unfollowed := true, recurses := true, named := ["nameplan/record.rules"], plainKeys := false, apart := false, laid := [("nameplan/record.rules", laid_nameplan_record_rules)] }
def StepsServedSaid : Prop := stepsServedRow.holds Tryz.pinned (OpenSpec.ofChange stepsServedSpec)

/-- ITS FALSE NEIGHBOUR: 'it returns false'. Refute it at one input. -/
def stepsServedWrong : ChangeSpec := { name := "stepsServed", fn := fun _ => fun
  | [d1, d2, d3] => { results := [.lit (.bool false)], args := [d1, d2, d3] }
  | _ => none }
def StepsServedWrongFalsely : Prop := stepsServedRow.holds Tryz.pinned (OpenSpec.ofChange stepsServedWrong)

/-- 'nameplanlaw35.StepsParts': WHATEVER THE INPUT: true; the input reads as it did. -/
def stepsPartsSpec : ChangeSpec := { name := "stepsParts", fn := fun _ => fun
  | [d1, d2, d3, d4] => { results := [.lit (.bool true)], args := [d1, d2, d3, d4] }
  | _ => none }
def stepsPartsRow : OpenClaim := { program := "ytajnanldmhpeaaagreatdoor", sum := "e8a6c30881a20950e206485d4ff765550c574b37757b32c2de10ca3341d790f9", func := "nameplan/nameplanlaw35.StepsParts", spec := "stepsParts", inPlace := ["internal/bytealg.abigen_runtime_cmpstring"], unfollowed := true, recurses := true, named := ["nameplan/record.rules"], plainKeys := false, apart := false, laid := [("nameplan/record.rules", laid_nameplan_record_rules)] }
def StepsPartsSaid : Prop := stepsPartsRow.holds Tryz.pinned (OpenSpec.ofChange stepsPartsSpec)

/-- ITS FALSE NEIGHBOUR: 'it returns false'. Refute it at one input. -/
def stepsPartsWrong : ChangeSpec := { name := "stepsParts", fn := fun _ => fun
  | [d1, d2, d3, d4] => { results := [.lit (.bool false)], args := [d1, d2, d3, d4] }
  | _ => none }
def StepsPartsWrongFalsely : Prop := stepsPartsRow.holds Tryz.pinned (OpenSpec.ofChange stepsPartsWrong)

/-- 'nameplanlaw35.StepsValid': WHATEVER THE INPUT: true; the input reads as it did. -/
def stepsValidSpec : ChangeSpec := { name := "stepsValid", fn := fun _ => fun
  | [d1, d2] => { results := [.lit (.bool true)], args := [d1, d2] }
  | _ => none }
def stepsValidRow : OpenClaim := { program := "ytajnanldmhpeaaagreatdoor", sum := "e8a6c30881a20950e206485d4ff765550c574b37757b32c2de10ca3341d790f9", func := "nameplan/nameplanlaw35.StepsValid", spec := "stepsValid", inPlace := ["internal/bytealg.abigen_runtime_cmpstring"], unfollowed := true, recurses := true, named := ["nameplan/record.rules"], plainKeys := false, apart := false, laid := [("nameplan/record.rules", laid_nameplan_record_rules)] }
def StepsValidSaid : Prop := stepsValidRow.holds Tryz.pinned (OpenSpec.ofChange stepsValidSpec)

/-- ITS FALSE NEIGHBOUR: 'it returns false'. Refute it at one input. -/
def stepsValidWrong : ChangeSpec := { name := "stepsValid", fn := fun _ => fun
  | [d1, d2] => { results := [.lit (.bool false)], args := [d1, d2] }
  | _ => none }
def StepsValidWrongFalsely : Prop := stepsValidRow.holds Tryz.pinned (OpenSpec.ofChange stepsValidWrong)

/-- 'nameplanlaw35.StepsOthers': WHATEVER THE INPUT: true; the input reads as it did. -/
def stepsOthersSpec : ChangeSpec := { name := "stepsOthers", fn := fun _ => fun
  | [d1, d2] => { results := [.lit (.bool true)], args := [d1, d2] }
  | _ => none }
def stepsOthersRow : OpenClaim := { program := "ytajnanldmhpeaaagreatdoor", sum := "e8a6c30881a20950e206485d4ff765550c574b37757b32c2de10ca3341d790f9", func := "nameplan/nameplanlaw35.StepsOthers", spec := "stepsOthers", inPlace := ["internal/bytealg.abigen_runtime_cmpstring"], unfollowed := true, recurses := true, named := ["nameplan/record.rules"], plainKeys := false, apart := false, laid := [("nameplan/record.rules", laid_nameplan_record_rules)] }
def StepsOthersSaid : Prop := stepsOthersRow.holds Tryz.pinned (OpenSpec.ofChange stepsOthersSpec)

/-- ITS FALSE NEIGHBOUR: 'it returns false'. Refute it at one input. -/
def stepsOthersWrong : ChangeSpec := { name := "stepsOthers", fn := fun _ => fun
  | [d1, d2] => { results := [.lit (.bool false)], args := [d1, d2] }
  | _ => none }
def StepsOthersWrongFalsely : Prop := stepsOthersRow.holds Tryz.pinned (OpenSpec.ofChange stepsOthersWrong)

/-- 'nameplanlaw35.StepsOwners': WHATEVER THE INPUT: true; the input reads as it did. -/
def stepsOwnersSpec : ChangeSpec := { name := "stepsOwners", fn := fun _ => fun
  | [d1, d2] => { results := [.lit (.bool true)], args := [d1, d2] }
  | _ => none }
def stepsOwnersRow : OpenClaim := { program := "ytajnanldmhpeaaagreatdoor", sum := "e8a6c30881a20950e206485d4ff765550c574b37757b32c2de10ca3341d790f9", func := "nameplan/nameplanlaw35.StepsOwners", spec := "stepsOwners", inPlace := ["internal/bytealg.abigen_runtime_cmpstring"], unfollowed := true, recurses := true, named := ["nameplan/record.rules"], plainKeys := false, apart := false, laid := [("nameplan/record.rules", laid_nameplan_record_rules)] }
def StepsOwnersSaid : Prop := stepsOwnersRow.holds Tryz.pinned (OpenSpec.ofChange stepsOwnersSpec)

/-- ITS FALSE NEIGHBOUR: 'it returns false'. Refute it at one input. -/
def stepsOwnersWrong : ChangeSpec := { name := "stepsOwners", fn := fun _ => fun
  | [d1, d2] => { results := [.lit (.bool false)], args := [d1, d2] }
  | _ => none }
def StepsOwnersWrongFalsely : Prop := stepsOwnersRow.holds Tryz.pinned (OpenSpec.ofChange stepsOwnersWrong)

/-- 'nameplanlaw35.StepsAgain': WHATEVER THE INPUT: true; the input reads as it did. -/
def stepsAgainSpec : ChangeSpec := { name := "stepsAgain", fn := fun _ => fun
  | [d1, d2] => { results := [.lit (.bool true)], args := [d1, d2] }
  | _ => none }
def stepsAgainRow : OpenClaim := { program := "ytajnanldmhpeaaagreatdoor", sum := "e8a6c30881a20950e206485d4ff765550c574b37757b32c2de10ca3341d790f9", func := "nameplan/nameplanlaw35.StepsAgain", spec := "stepsAgain", inPlace := ["internal/bytealg.abigen_runtime_cmpstring"], unfollowed := true, recurses := true, named := ["nameplan/record.rules"], plainKeys := false, apart := false, laid := [("nameplan/record.rules", laid_nameplan_record_rules)] }
def StepsAgainSaid : Prop := stepsAgainRow.holds Tryz.pinned (OpenSpec.ofChange stepsAgainSpec)

/-- ITS FALSE NEIGHBOUR: 'it returns false'. Refute it at one input. -/
def stepsAgainWrong : ChangeSpec := { name := "stepsAgain", fn := fun _ => fun
  | [d1, d2] => { results := [.lit (.bool false)], args := [d1, d2] }
  | _ => none }
def StepsAgainWrongFalsely : Prop := stepsAgainRow.holds Tryz.pinned (OpenSpec.ofChange stepsAgainWrong)

/- THE SECOND FORM. 'bulk': how many values and letters a reading holds, each counted each time it is reached (what is shared counts as often as it is met; a slice's spare places count too). A statement '..UptoSaid' is the law's where the arguments, and the package variables that the reading takes, are together of bulk at most 1048576: NARROWER than '..Said'. Prove '..Said' where nothing that the law and all that it calls make is longer than what came in: it says more and counts as full. Else prove '..UptoSaid'. A law counts once. -/
mutual
def uptoBulk {H : Type} : DataW H → Nat
  | .lit (.string bytes) => bytes.length + 1
  | .lit _ => 1
  | .nil => 1
  | .ptr d => uptoBulk d + 1
  | .slice elems spare => uptoBulkAll elems + uptoBulkAll spare + 1
  | .agg parts => uptoBulkAll parts + 1
  | .iface _ d => uptoBulk d + 1
  | .map entries => uptoBulkEntries entries + 1
  | .held _ => 1
def uptoBulkAll {H : Type} : List (DataW H) → Nat
  | [] => 0
  | d :: r => uptoBulk d + uptoBulkAll r
def uptoBulkEntries {H : Type} : List (Lit × DataW H) → Nat
  | [] => 0
  | x :: r => uptoBulkEntry x + uptoBulkEntries r
def uptoBulkEntry {H : Type} : Lit × DataW H → Nat
  | (.string bytes, d) => bytes.length + uptoBulk d + 1
  | (_, d) => uptoBulk d + 1
 end
def uptoSmall : (H : Type) → List (DataW H) → Bool := fun _ ds => decide (uptoBulkAll ds ≤ 1048576)
def OpenSpec.upto (s : _root_.Go.ChangeSpec) : _root_.Go.OpenSpec := { _root_.Go.OpenSpec.ofChange s with cond := some uptoSmall }

/-- 'nameplanlaw42.OperatorOnTime', WHERE WHAT IT READS IS OF BULK AT MOST 1048576: true; the input reads as it did. -/
def operatorOnTimeUptoRow : OpenClaim := { program := "ytajnanldmhpeaaagreatdoor", sum := "e8a6c30881a20950e206485d4ff765550c574b37757b32c2de10ca3341d790f9", func := "nameplan/nameplanlaw42.OperatorOnTime", spec := "operatorOnTime", inPlace := ["internal/bytealg.abigen_runtime_cmpstring"], unfollowed := true, recurses := true, named := ["nameplan/record.rules"], plainKeys := false, apart := false, laid := [("nameplan/record.rules", laid_nameplan_record_rules)], narrowed := true }
def OperatorOnTimeUptoSaid : Prop := operatorOnTimeUptoRow.holds Tryz.pinned (OpenSpec.upto operatorOnTimeSpec)

/-- 'nameplanlaw42.OperatorWaits', WHERE WHAT IT READS IS OF BULK AT MOST 1048576: true; the input reads as it did. -/
def operatorWaitsUptoRow : OpenClaim := { program := "ytajnanldmhpeaaagreatdoor", sum := "e8a6c30881a20950e206485d4ff765550c574b37757b32c2de10ca3341d790f9", func := "nameplan/nameplanlaw42.OperatorWaits", spec := "operatorWaits", inPlace := ["internal/bytealg.abigen_runtime_cmpstring"], unfollowed := true, recurses := true, named := ["nameplan/record.rules"], plainKeys := false, apart := false, laid := [("nameplan/record.rules", laid_nameplan_record_rules)], narrowed := true }
def OperatorWaitsUptoSaid : Prop := operatorWaitsUptoRow.holds Tryz.pinned (OpenSpec.upto operatorWaitsSpec)

/-- 'nameplanlaw42.OperatorPause', WHERE WHAT IT READS IS OF BULK AT MOST 1048576: true; the input reads as it did. -/
def operatorPauseUptoRow : OpenClaim := { program := "ytajnanldmhpeaaagreatdoor", sum := "e8a6c30881a20950e206485d4ff765550c574b37757b32c2de10ca3341d790f9", func := "nameplan/nameplanlaw42.OperatorPause", spec := "operatorPause", inPlace := ["internal/bytealg.abigen_runtime_cmpstring"], unfollowed := true, recurses := true, named := ["nameplan/record.rules"], plainKeys := false, apart := false, laid := [("nameplan/record.rules", laid_nameplan_record_rules)], narrowed := true }
def OperatorPauseUptoSaid : Prop := operatorPauseUptoRow.holds Tryz.pinned (OpenSpec.upto operatorPauseSpec)

/-- 'nameplanlaw42.OperatorOver', WHERE WHAT IT READS IS OF BULK AT MOST 1048576: true; the input reads as it did. -/
def operatorOverUptoRow : OpenClaim := { program := "ytajnanldmhpeaaagreatdoor", sum := "e8a6c30881a20950e206485d4ff765550c574b37757b32c2de10ca3341d790f9", func := "nameplan/nameplanlaw42.OperatorOver", spec := "operatorOver", inPlace := ["internal/bytealg.abigen_runtime_cmpstring"], unfollowed := true, recurses := true, named := ["nameplan/record.rules"], plainKeys := false, apart := false, laid := [("nameplan/record.rules", laid_nameplan_record_rules)], narrowed := true }
def OperatorOverUptoSaid : Prop := operatorOverUptoRow.holds Tryz.pinned (OpenSpec.upto operatorOverSpec)

/-- 'nameplanlaw42.OperatorDelays', WHERE WHAT IT READS IS OF BULK AT MOST 1048576: true; the input reads as it did. -/
def operatorDelaysUptoRow : OpenClaim := { program := "ytajnanldmhpeaaagreatdoor", sum := "e8a6c30881a20950e206485d4ff765550c574b37757b32c2de10ca3341d790f9", func := "nameplan/nameplanlaw42.OperatorDelays", spec := "operatorDelays", inPlace := ["internal/bytealg.abigen_runtime_cmpstring"], unfollowed := true, recurses := true, named := ["nameplan/record.rules"], plainKeys := false, apart := false, laid := [("nameplan/record.rules", laid_nameplan_record_rules)], narrowed := true }
def OperatorDelaysUptoSaid : Prop := operatorDelaysUptoRow.holds Tryz.pinned (OpenSpec.upto operatorDelaysSpec)

/-- 'nameplanlaw35.StepsServed', WHERE WHAT IT READS IS OF BULK AT MOST 1048576: true; the input reads as it did. -/
def stepsServedUptoRow : OpenClaim := { program := "ytajnanldmhpeaaagreatdoor", sum := "e8a6c30881a20950e206485d4ff765550c574b37757b32c2de10ca3341d790f9", func := "nameplan/nameplanlaw35.StepsServed", spec := "stepsServed", inPlace := ["internal/bytealg.abigen_runtime_cmpstring"], unfollowed := true, recurses := true, named := ["nameplan/record.rules"], plainKeys := false, apart := false, laid := [("nameplan/record.rules", laid_nameplan_record_rules)], narrowed := true }
def StepsServedUptoSaid : Prop := stepsServedUptoRow.holds Tryz.pinned (OpenSpec.upto stepsServedSpec)

/-- 'nameplanlaw35.StepsParts', WHERE WHAT IT READS IS OF BULK AT MOST 1048576: true; the input reads as it did. -/
def stepsPartsUptoRow : OpenClaim := { program := "ytajnanldmhpeaaagreatdoor", sum := "e8a6c30881a20950e206485d4ff765550c574b37757b32c2de10ca3341d790f9", func := "nameplan/nameplanlaw35.StepsParts", spec := "stepsParts", inPlace := ["internal/bytealg.abigen_runtime_cmpstring"], unfollowed := true, recurses := true, named := ["nameplan/record.rules"], plainKeys := false, apart := false, laid := [("nameplan/record.rules", laid_nameplan_record_rules)], narrowed := true }
def StepsPartsUptoSaid : Prop := stepsPartsUptoRow.holds Tryz.pinned (OpenSpec.upto stepsPartsSpec)

/-- 'nameplanlaw35.StepsValid', WHERE WHAT IT READS IS OF BULK AT MOST 1048576: true; the input reads as it did. -/
def stepsValidUptoRow : OpenClaim := { program := "ytajnanldmhpeaaagreatdoor", sum := "e8a6c30881a20950e206485d4ff765550c574b37757b32c2de10ca3341d790f9", func := "nameplan/nameplanlaw35.StepsValid", spec := "stepsValid", inPlace := ["internal/bytealg.abigen_runtime_cmpstring"], unfollowed := true, recurses := true, named := ["nameplan/record.rules"], plainKeys := false, apart := false, laid := [("nameplan/record.rules", laid_nameplan_record_rules)], narrowed := true }
def StepsValidUptoSaid : Prop := stepsValidUptoRow.holds Tryz.pinned (OpenSpec.upto stepsValidSpec)

/-- 'nameplanlaw35.StepsOthers', WHERE WHAT IT READS IS OF BULK AT MOST 1048576: true; the input reads as it did. -/
def stepsOthersUptoRow : OpenClaim := { program := "ytajnanldmhpeaaagreatdoor", sum := "e8a6c30881a20950e206485d4ff765550c574b37757b32c2de10ca3341d790f9", func := "nameplan/nameplanlaw35.StepsOthers", spec := "stepsOthers", inPlace := ["internal/bytealg.abigen_runtime_cmpstring"], unfollowed := true, recurses := true, named := ["nameplan/record.rules"], plainKeys := false, apart := false, laid := [("nameplan/record.rules", laid_nameplan_record_rules)], narrowed := true }
def StepsOthersUptoSaid : Prop := stepsOthersUptoRow.holds Tryz.pinned (OpenSpec.upto stepsOthersSpec)

/-- 'nameplanlaw35.StepsOwners', WHERE WHAT IT READS IS OF BULK AT MOST 1048576: true; the input reads as it did. -/
def stepsOwnersUptoRow : OpenClaim := { program := "ytajnanldmhpeaaagreatdoor", sum := "e8a6c30881a20950e206485d4ff765550c574b37757b32c2de10ca3341d790f9", func := "nameplan/nameplanlaw35.StepsOwners", spec := "stepsOwners", inPlace := ["internal/bytealg.abigen_runtime_cmpstring"], unfollowed := true, recurses := true, named := ["nameplan/record.rules"], plainKeys := false, apart := false, laid := [("nameplan/record.rules", laid_nameplan_record_rules)], narrowed := true }
def StepsOwnersUptoSaid : Prop := stepsOwnersUptoRow.holds Tryz.pinned (OpenSpec.upto stepsOwnersSpec)

/-- 'nameplanlaw35.StepsAgain', WHERE WHAT IT READS IS OF BULK AT MOST 1048576: true; the input reads as it did. -/
def stepsAgainUptoRow : OpenClaim := { program := "ytajnanldmhpeaaagreatdoor", sum := "e8a6c30881a20950e206485d4ff765550c574b37757b32c2de10ca3341d790f9", func := "nameplan/nameplanlaw35.StepsAgain", spec := "stepsAgain", inPlace := ["internal/bytealg.abigen_runtime_cmpstring"], unfollowed := true, recurses := true, named := ["nameplan/record.rules"], plainKeys := false, apart := false, laid := [("nameplan/record.rules", laid_nameplan_record_rules)], narrowed := true }
def StepsAgainUptoSaid : Prop := stepsAgainUptoRow.holds Tryz.pinned (OpenSpec.upto stepsAgainSpec)

end Rows
end Go.Proofs.YtajnanldmhpeaaaGreatDoor
