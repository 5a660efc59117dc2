/-
  NARROWER THAN 'FOR EVERY INPUT', by the rows' own cells (each row's printed sentence says how): DependMatchesReference: laid · DependClosed: laid · DependShortest: laid · DependOwners: laid · DependOthers: laid · DependTruth: laid.
  DERIVED. THE GIVEN ROWS OF THIS SEAT. 6 by the template 'for every input the law returns true; each argument reads behind the call as it read before'; 0 by the template 'total and deterministic' (their statements: YtcmnpelmmekdkaaGreatDoorTotals.lean).
  GIVEN WITH THE SEED: the statements are not yours to turn. If you find one false, say at which input.
  Laid BY PROGRAM, IN A SANDBOX (cutbox-rows.mjs): the forced cells as the released guide's own fill.sh prints them over the translation 481c52394866ba7c… (all of the seat's roots in one cut). By AI agents, Wed Nov 11 2026. No macro, syntax, notation, axiom, sorry.
-/
import Derived.Test.YtcmnpelmmekdkaaGreatDoorChecked
import GoSem.Claim
import GoSem.ClaimJoined
import GoSem.ClaimMapViews
import Derived.JoinedTies
import Derived.KernelRfl
namespace Go.Proofs.YtcmnpelmmekdkaaGreatDoor
/- THE CELL 'sum', in the pinned program and in every row, IS THE sha256 OF THE DUMP (.gsa) THAT YtcmnpelmmekdkaaGreatDoorProg.lean LOADS. Nothing in Lean hashes anything: it is a label: what it is worth is what the hold of that sum in a sandbox is worth. -/
noncomputable def Tryz.pinned : Pinned := { name := "ytcmnpelmmekdkaagreatdoor", sum := "481c52394866ba7c12b6a889d918d374ef3284190337b72a10cec3d5da94759e", checked := Tryz.checked }
namespace Rows
def none {H : Type} : Left H := { results := [], args := [] }

/- WHAT THE LISTED PACKAGE-LEVEL VARIABLES READ AS WHEN THE CALL BEGINS. Each datum BY PROGRAM (the guide's laid-datum.mjs) off the statement by which the dump's own 'gosem.cut.vars' lays the variable. In a bare row this is a premise. The card (YtcmnpelmmekdkaaGreatDoorCards.lean) ties it to the program's text. -/
def laid_nameplan_record_rules {H : Type} : DataW H := .agg [.agg [.lit (.int .i64 0), .lit (.int .i64 0), .lit (.int .i64 0), .lit (.int .i64 0), .lit (.int .i64 0), .lit (.bool false), .lit (.bool false), .lit (.bool false)], .agg [.lit (.int .i64 0), .lit (.int .i64 1), .lit (.int .i64 1000000), .lit (.int .i64 0), .lit (.int .i64 0), .lit (.bool false), .lit (.bool false), .lit (.bool true)], .agg [.lit (.int .i64 1), .lit (.int .i64 0), .lit (.int .i64 0), .lit (.int .i64 0), .lit (.int .i64 0), .lit (.bool false), .lit (.bool false), .lit (.bool false)], .agg [.lit (.int .i64 1), .lit (.int .i64 0), .lit (.int .i64 0), .lit (.int .i64 0), .lit (.int .i64 0), .lit (.bool false), .lit (.bool true), .lit (.bool false)], .agg [.lit (.int .i64 0), .lit (.int .i64 0), .lit (.int .i64 65535), .lit (.int .i64 0), .lit (.int .i64 100000), .lit (.bool false), .lit (.bool true), .lit (.bool false)], .agg [.lit (.int .i64 3), .lit (.int .i64 0), .lit (.int .i64 0), .lit (.int .i64 0), .lit (.int .i64 0), .lit (.bool false), .lit (.bool false), .lit (.bool true)], .agg [.lit (.int .i64 0), .lit (.int .i64 1), .lit (.int .i64 1000000), .lit (.int .i64 1), .lit (.int .i64 3), .lit (.bool false), .lit (.bool false), .lit (.bool false)], .agg [.lit (.int .i64 0), .lit (.int .i64 1), .lit (.int .i64 1000000), .lit (.int .i64 1), .lit (.int .i64 3), .lit (.bool false), .lit (.bool false), .lit (.bool false)], .agg [.lit (.int .i64 2), .lit (.int .i64 2), .lit (.int .i64 510), .lit (.int .i64 0), .lit (.int .i64 0), .lit (.bool true), .lit (.bool false), .lit (.bool true)]]

/-- 'nameplanlaw19.DependMatchesReference': WHATEVER THE INPUT: true; the input reads as it did. -/
def dependMatchesReferenceSpec : ChangeSpec := { name := "dependMatchesReference", fn := fun _ => fun
  | [d1, d2, d3] => { results := [.lit (.bool true)], args := [d1, d2, d3] }
  | _ => none }
def dependMatchesReferenceRow : OpenClaim := { program := "ytcmnpelmmekdkaagreatdoor", sum := "481c52394866ba7c12b6a889d918d374ef3284190337b72a10cec3d5da94759e", func := "nameplan/nameplanlaw19.DependMatchesReference", spec := "dependMatchesReference", inPlace := ["internal/bytealg.abigen_runtime_cmpstring", "internal/bytealg.IndexByteString", "internal/abi.NoEscape", "internal/bytealg.MakeNoZero"], unfollowed := true, recurses := true, named := ["nameplan/record.rules"], plainKeys := false, apart := false, laid := [("nameplan/record.rules", laid_nameplan_record_rules)] }
def DependMatchesReferenceSaid : Prop := dependMatchesReferenceRow.holds Tryz.pinned (OpenSpec.ofChange dependMatchesReferenceSpec)

/-- ITS FALSE NEIGHBOUR: 'it returns false'. Refute it at one input. -/
def dependMatchesReferenceWrong : ChangeSpec := { name := "dependMatchesReference", fn := fun _ => fun
  | [d1, d2, d3] => { results := [.lit (.bool false)], args := [d1, d2, d3] }
  | _ => none }
def DependMatchesReferenceWrongFalsely : Prop := dependMatchesReferenceRow.holds Tryz.pinned (OpenSpec.ofChange dependMatchesReferenceWrong)

/-- 'nameplanlaw19.DependClosed': WHATEVER THE INPUT: true; the input reads as it did. -/
def dependClosedSpec : ChangeSpec := { name := "dependClosed", fn := fun _ => fun
  | [d1, d2, d3] => { results := [.lit (.bool true)], args := [d1, d2, d3] }
  | _ => none }
def dependClosedRow : OpenClaim := { program := "ytcmnpelmmekdkaagreatdoor", sum := "481c52394866ba7c12b6a889d918d374ef3284190337b72a10cec3d5da94759e", func := "nameplan/nameplanlaw19.DependClosed", spec := "dependClosed", inPlace := ["internal/bytealg.abigen_runtime_cmpstring", "internal/bytealg.IndexByteString", "internal/abi.NoEscape", "internal/bytealg.MakeNoZero"], unfollowed := true, recurses := true, named := ["nameplan/record.rules"], plainKeys := false, apart := false, laid := [("nameplan/record.rules", laid_nameplan_record_rules)] }
def DependClosedSaid : Prop := dependClosedRow.holds Tryz.pinned (OpenSpec.ofChange dependClosedSpec)

/-- ITS FALSE NEIGHBOUR: 'it returns false'. Refute it at one input. -/
def dependClosedWrong : ChangeSpec := { name := "dependClosed", fn := fun _ => fun
  | [d1, d2, d3] => { results := [.lit (.bool false)], args := [d1, d2, d3] }
  | _ => none }
def DependClosedWrongFalsely : Prop := dependClosedRow.holds Tryz.pinned (OpenSpec.ofChange dependClosedWrong)

/-- 'nameplanlaw19.DependShortest': WHATEVER THE INPUT: true; the input reads as it did. -/
def dependShortestSpec : ChangeSpec := { name := "dependShortest", fn := fun _ => fun
  | [d1, d2, d3] => { results := [.lit (.bool true)], args := [d1, d2, d3] }
  | _ => none }
def dependShortestRow : OpenClaim := { program := "ytcmnpelmmekdkaagreatdoor", sum := "481c52394866ba7c12b6a889d918d374ef3284190337b72a10cec3d5da94759e", func := "nameplan/nameplanlaw19.DependShortest", spec := "dependShortest", inPlace := ["internal/bytealg.abigen_runtime_cmpstring", "internal/bytealg.IndexByteString", "internal/abi.NoEscape", "internal/bytealg.MakeNoZero"], unfollowed := true, recurses := true, named := ["nameplan/record.rules"], plainKeys := false, apart := false, laid := [("nameplan/record.rules", laid_nameplan_record_rules)] }
def DependShortestSaid : Prop := dependShortestRow.holds Tryz.pinned (OpenSpec.ofChange dependShortestSpec)

/-- ITS FALSE NEIGHBOUR: 'it returns false'. Refute it at one input. -/
def dependShortestWrong : ChangeSpec := { name := "dependShortest", fn := fun _ => fun
  | [d1, d2, d3] => { results := [.lit (.bool false)], args := [d1, d2, d3] }
  | _ => none }
def DependShortestWrongFalsely : Prop := dependShortestRow.holds Tryz.pinned (OpenSpec.ofChange dependShortestWrong)

/-- 'nameplanlaw19.DependOwners': WHATEVER THE INPUT: true; the input reads as it did. -/
def dependOwnersSpec : ChangeSpec := { name := "dependOwners", fn := fun _ => fun
  | [d1, d2] => { results := [.lit (.bool true)], args := [d1, d2] }
  | _ => none }
def dependOwnersRow : OpenClaim := { program := "ytcmnpelmmekdkaagreatdoor", sum := "481c52394866ba7c12b6a889d918d374ef3284190337b72a10cec3d5da94759e", func := "nameplan/nameplanlaw19.DependOwners", spec := "dependOwners", inPlace := ["internal/bytealg.abigen_runtime_cmpstring", "internal/bytealg.IndexByteString", "internal/abi.NoEscape", "internal/bytealg.MakeNoZero"], unfollowed := true, recurses := true, named := ["nameplan/record.rules"], plainKeys := false, apart := false, laid := [("nameplan/record.rules", laid_nameplan_record_rules)] }
def DependOwnersSaid : Prop := dependOwnersRow.holds Tryz.pinned (OpenSpec.ofChange dependOwnersSpec)

/-- ITS FALSE NEIGHBOUR: 'it returns false'. Refute it at one input. -/
def dependOwnersWrong : ChangeSpec := { name := "dependOwners", fn := fun _ => fun
  | [d1, d2] => { results := [.lit (.bool false)], args := [d1, d2] }
  | _ => none }
def DependOwnersWrongFalsely : Prop := dependOwnersRow.holds Tryz.pinned (OpenSpec.ofChange dependOwnersWrong)

/-- 'nameplanlaw19.DependOthers': WHATEVER THE INPUT: true; the input reads as it did. -/
def dependOthersSpec : ChangeSpec := { name := "dependOthers", fn := fun _ => fun
  | [d1, d2] => { results := [.lit (.bool true)], args := [d1, d2] }
  | _ => none }
def dependOthersRow : OpenClaim := { program := "ytcmnpelmmekdkaagreatdoor", sum := "481c52394866ba7c12b6a889d918d374ef3284190337b72a10cec3d5da94759e", func := "nameplan/nameplanlaw19.DependOthers", spec := "dependOthers", inPlace := ["internal/bytealg.abigen_runtime_cmpstring", "internal/bytealg.IndexByteString", "internal/abi.NoEscape", "internal/bytealg.MakeNoZero"], unfollowed := true, recurses := true, named := ["nameplan/record.rules"], plainKeys := false, apart := false, laid := [("nameplan/record.rules", laid_nameplan_record_rules)] }
def DependOthersSaid : Prop := dependOthersRow.holds Tryz.pinned (OpenSpec.ofChange dependOthersSpec)

/-- ITS FALSE NEIGHBOUR: 'it returns false'. Refute it at one input. -/
def dependOthersWrong : ChangeSpec := { name := "dependOthers", fn := fun _ => fun
  | [d1, d2] => { results := [.lit (.bool false)], args := [d1, d2] }
  | _ => none }
def DependOthersWrongFalsely : Prop := dependOthersRow.holds Tryz.pinned (OpenSpec.ofChange dependOthersWrong)

/-- 'nameplanlaw19.DependTruth': WHATEVER THE INPUT: true; the input reads as it did. -/
def dependTruthSpec : ChangeSpec := { name := "dependTruth", fn := fun _ => fun
  | [d1, d2] => { results := [.lit (.bool true)], args := [d1, d2] }
  | _ => none }
def dependTruthRow : OpenClaim := { program := "ytcmnpelmmekdkaagreatdoor", sum := "481c52394866ba7c12b6a889d918d374ef3284190337b72a10cec3d5da94759e", func := "nameplan/nameplanlaw19.DependTruth", spec := "dependTruth", inPlace := ["internal/bytealg.abigen_runtime_cmpstring", "internal/bytealg.IndexByteString", "internal/abi.NoEscape", "internal/bytealg.MakeNoZero"], unfollowed := true, recurses := true, named := ["nameplan/record.rules"], plainKeys := false, apart := false, laid := [("nameplan/record.rules", laid_nameplan_record_rules)] }
def DependTruthSaid : Prop := dependTruthRow.holds Tryz.pinned (OpenSpec.ofChange dependTruthSpec)

/-- ITS FALSE NEIGHBOUR: 'it returns false'. Refute it at one input. -/
def dependTruthWrong : ChangeSpec := { name := "dependTruth", fn := fun _ => fun
  | [d1, d2] => { results := [.lit (.bool false)], args := [d1, d2] }
  | _ => none }
def DependTruthWrongFalsely : Prop := dependTruthRow.holds Tryz.pinned (OpenSpec.ofChange dependTruthWrong)

/- THE SECOND FORM. 'bulk': how many values and letters a reading holds, each counted each time it is reached (what is shared counts as often as it is met; a slice's spare places count too). A statement '..UptoSaid' is the law's where the arguments, and the package variables that the reading takes, are together of bulk at most 1048576: NARROWER than '..Said'. Prove '..Said' where nothing that the law and all that it calls make is longer than what came in: it says more and counts as full. Else prove '..UptoSaid'. A law counts once. -/
mutual
def uptoBulk {H : Type} : DataW H → Nat
  | .lit (.string bytes) => bytes.length + 1
  | .lit _ => 1
  | .nil => 1
  | .ptr d => uptoBulk d + 1
  | .slice elems spare => uptoBulkAll elems + uptoBulkAll spare + 1
  | .agg parts => uptoBulkAll parts + 1
  | .iface _ d => uptoBulk d + 1
  | .map entries => uptoBulkEntries entries + 1
  | .held _ => 1
def uptoBulkAll {H : Type} : List (DataW H) → Nat
  | [] => 0
  | d :: r => uptoBulk d + uptoBulkAll r
def uptoBulkEntries {H : Type} : List (Lit × DataW H) → Nat
  | [] => 0
  | x :: r => uptoBulkEntry x + uptoBulkEntries r
def uptoBulkEntry {H : Type} : Lit × DataW H → Nat
  | (.string bytes, d) => bytes.length + uptoBulk d + 1
  | (_, d) => uptoBulk d + 1
 end
def uptoSmall : (H : Type) → List (DataW H) → Bool := fun _ ds => decide (uptoBulkAll ds ≤ 1048576)
def OpenSpec.upto (s : _root_.Go.ChangeSpec) : _root_.Go.OpenSpec := { _root_.Go.OpenSpec.ofChange s with cond := some uptoSmall }

/-- 'nameplanlaw19.DependMatchesReference', WHERE WHAT IT READS IS OF BULK AT MOST 1048576: true; the input reads as it did. -/
def dependMatchesReferenceUptoRow : OpenClaim := { program := "ytcmnpelmmekdkaagreatdoor", sum := "481c52394866ba7c12b6a889d918d374ef3284190337b72a10cec3d5da94759e", func := "nameplan/nameplanlaw19.DependMatchesReference", spec := "dependMatchesReference", inPlace := ["internal/bytealg.abigen_runtime_cmpstring", "internal/bytealg.IndexByteString", "internal/abi.NoEscape", "internal/bytealg.MakeNoZero"], unfollowed := true, recurses := true, named := ["nameplan/record.rules"], plainKeys := false, apart := false, laid := [("nameplan/record.rules", laid_nameplan_record_rules)], narrowed := true }
def DependMatchesReferenceUptoSaid : Prop := dependMatchesReferenceUptoRow.holds Tryz.pinned (OpenSpec.upto dependMatchesReferenceSpec)

/-- 'nameplanlaw19.DependClosed', WHERE WHAT IT READS IS OF BULK AT MOST 1048576: true; the input reads as it did. -/
def dependClosedUptoRow : OpenClaim := { program := "ytcmnpelmmekdkaagreatdoor", sum := "481c52394866ba7c12b6a889d918d374ef3284190337b72a10cec3d5da94759e", func := "nameplan/nameplanlaw19.DependClosed", spec := "dependClosed", inPlace := ["internal/bytealg.abigen_runtime_cmpstring", "internal/bytealg.IndexByteString", "internal/abi.NoEscape", "internal/bytealg.MakeNoZero"], unfollowed := true, recurses := true, named := ["nameplan/record.rules"], plainKeys := false, apart := false, laid := [("nameplan/record.rules", laid_nameplan_record_rules)], narrowed := true }
def DependClosedUptoSaid : Prop := dependClosedUptoRow.holds Tryz.pinned (OpenSpec.upto dependClosedSpec)

/-- 'nameplanlaw19.DependShortest', WHERE WHAT IT READS IS OF BULK AT MOST 1048576: true; the input reads as it did. -/
def dependShortestUptoRow : OpenClaim := { program := "ytcmnpelmmekdkaagreatdoor", sum := "481c52394866ba7c12b6a889d918d374ef3284190337b72a10cec3d5da94759e", func := "nameplan/nameplanlaw19.DependShortest", spec := "dependShortest", inPlace := ["internal/bytealg.abigen_runtime_cmpstring", "internal/bytealg.IndexByteString", "internal/abi.NoEscape", "internal/bytealg.MakeNoZero"], unfollowed := true, recurses := true, named := ["nameplan/record.rules"], plainKeys := false, apart := false, laid := [("nameplan/record.rules", laid_nameplan_record_rules)], narrowed := true }
def DependShortestUptoSaid : Prop := dependShortestUptoRow.holds Tryz.pinned (OpenSpec.upto dependShortestSpec)

/-- 'nameplanlaw19.DependOwners', WHERE WHAT IT READS IS OF BULK AT MOST 1048576: true; the input reads as it did. -/
def dependOwnersUptoRow : OpenClaim := { program := "ytcmnpelmmekdkaagreatdoor", sum := "481c52394866ba7c12b6a889d918d374ef3284190337b72a10cec3d5da94759e", func := "nameplan/nameplanlaw19.DependOwners", spec := "dependOwners", inPlace := ["internal/bytealg.abigen_runtime_cmpstring", "internal/bytealg.IndexByteString", "internal/abi.NoEscape", "internal/bytealg.MakeNoZero"], unfollowed := true, recurses := true, named := ["nameplan/record.rules"], plainKeys := false, apart := false, laid := [("nameplan/record.rules", laid_nameplan_record_rules)], narrowed := true }
def DependOwnersUptoSaid : Prop := dependOwnersUptoRow.holds Tryz.pinned (OpenSpec.upto dependOwnersSpec)

/-- 'nameplanlaw19.DependOthers', WHERE WHAT IT READS IS OF BULK AT MOST 1048576: true; the input reads as it did. -/
def dependOthersUptoRow : OpenClaim := { program := "ytcmnpelmmekdkaagreatdoor", sum := "481c52394866ba7c12b6a889d918d374ef3284190337b72a10cec3d5da94759e", func := "nameplan/nameplanlaw19.DependOthers", spec := "dependOthers", inPlace := ["internal/bytealg.abigen_runtime_cmpstring", "internal/bytealg.IndexByteString", "internal/abi.NoEscape", "internal/bytealg.MakeNoZero"], unfollowed := true, recurses := true, named := ["nameplan/record.rules"], plainKeys := false, apart := false, laid := [("nameplan/record.rules", laid_nameplan_record_rules)], narrowed := true }
def DependOthersUptoSaid : Prop := dependOthersUptoRow.holds Tryz.pinned (OpenSpec.upto dependOthersSpec)

/-- 'nameplanlaw19.DependTruth', WHERE WHAT IT READS IS OF BULK AT MOST 1048576: true; the input reads as it did. -/
def dependTruthUptoRow : OpenClaim := { program := "ytcmnpelmmekdkaagreatdoor", sum := "481c52394866ba7c12b6a889d918d374ef3284190337b72a10cec3d5da94759e", func := "nameplan/nameplanlaw19.DependTruth", spec := "dependTruth", inPlace := ["internal/bytealg.abigen_runtime_cmpstring", "internal/bytealg.IndexByteString", "internal/abi.NoEscape", "internal/bytealg.MakeNoZero"], unfollowed := true, recurses := true, named := ["nameplan/record.rules"], plainKeys := false, apart := false, laid := [("nameplan/record.rules", laid_nameplan_record_rules)], narrowed := true }
def DependTruthUptoSaid : Prop := dependTruthUptoRow.holds Tryz.pinned (OpenSpec.upto dependTruthSpec)

end Rows
end Go.Proofs.YtcmnpelmmekdkaaGreatDoor
