/-
  NARROWER THAN 'FOR EVERY INPUT', by the rows' own cells (each row's printed sentence says how): EvidenceMatchesReference: laid · EvidenceHonest: laid · EvidenceServes: laid · EvidenceDamage: laid · EvidenceClaims: laid · EvidenceHeard: laid.
  DERIVED. THE GIVEN ROWS OF THIS SEAT. 6 by the template 'for every input the law returns true; each argument reads behind the call as it read before'; 0 by the template 'total and deterministic' (their statements: YtfmdaiojokniiaaGreatDoorTotals.lean).
  GIVEN WITH THE SEED: the statements are not yours to turn. If you find one false, say at which input.
  Laid BY PROGRAM, IN A SANDBOX (cutbox-rows.mjs): the forced cells as the released guide's own fill.sh prints them over the translation b01e08985585d153… (all of the seat's roots in one cut). By AI agents, Wed Nov 11 2026. No macro, syntax, notation, axiom, sorry.
-/
import Derived.Test.YtfmdaiojokniiaaGreatDoorChecked
import GoSem.Claim
import GoSem.ClaimJoined
import GoSem.ClaimMapViews
import Derived.JoinedTies
import Derived.KernelRfl
namespace Go.Proofs.YtfmdaiojokniiaaGreatDoor
/- THE CELL 'sum', in the pinned program and in every row, IS THE sha256 OF THE DUMP (.gsa) THAT YtfmdaiojokniiaaGreatDoorProg.lean LOADS. Nothing in Lean hashes anything: it is a label: what it is worth is what the hold of that sum in a sandbox is worth. -/
noncomputable def Tryz.pinned : Pinned := { name := "ytfmdaiojokniiaagreatdoor", sum := "b01e08985585d1534ac5c7b6e6f1847b99d835aaeb60997d64a6f8192bbfdaa1", checked := Tryz.checked }
namespace Rows
def none {H : Type} : Left H := { results := [], args := [] }

/- WHAT THE LISTED PACKAGE-LEVEL VARIABLES READ AS WHEN THE CALL BEGINS. Each datum BY PROGRAM (the guide's laid-datum.mjs) off the statement by which the dump's own 'gosem.cut.vars' lays the variable. In a bare row this is a premise. The card (YtfmdaiojokniiaaGreatDoorCards.lean) ties it to the program's text. -/
def laid_bytes_ErrTooLarge {H : Type} : DataW H := .iface "*errors.errorString" (.ptr (.agg [.lit (.string [98, 121, 116, 101, 115, 46, 66, 117, 102, 102, 101, 114, 58, 32, 116, 111, 111, 32, 108, 97, 114, 103, 101])]))
def laid_nameplan_record_rules {H : Type} : DataW H := .agg [.agg [.lit (.int .i64 0), .lit (.int .i64 0), .lit (.int .i64 0), .lit (.int .i64 0), .lit (.int .i64 0), .lit (.bool false), .lit (.bool false), .lit (.bool false)], .agg [.lit (.int .i64 0), .lit (.int .i64 1), .lit (.int .i64 1000000), .lit (.int .i64 0), .lit (.int .i64 0), .lit (.bool false), .lit (.bool false), .lit (.bool true)], .agg [.lit (.int .i64 1), .lit (.int .i64 0), .lit (.int .i64 0), .lit (.int .i64 0), .lit (.int .i64 0), .lit (.bool false), .lit (.bool false), .lit (.bool false)], .agg [.lit (.int .i64 1), .lit (.int .i64 0), .lit (.int .i64 0), .lit (.int .i64 0), .lit (.int .i64 0), .lit (.bool false), .lit (.bool true), .lit (.bool false)], .agg [.lit (.int .i64 0), .lit (.int .i64 0), .lit (.int .i64 65535), .lit (.int .i64 0), .lit (.int .i64 100000), .lit (.bool false), .lit (.bool true), .lit (.bool false)], .agg [.lit (.int .i64 3), .lit (.int .i64 0), .lit (.int .i64 0), .lit (.int .i64 0), .lit (.int .i64 0), .lit (.bool false), .lit (.bool false), .lit (.bool true)], .agg [.lit (.int .i64 0), .lit (.int .i64 1), .lit (.int .i64 1000000), .lit (.int .i64 1), .lit (.int .i64 3), .lit (.bool false), .lit (.bool false), .lit (.bool false)], .agg [.lit (.int .i64 0), .lit (.int .i64 1), .lit (.int .i64 1000000), .lit (.int .i64 1), .lit (.int .i64 3), .lit (.bool false), .lit (.bool false), .lit (.bool false)], .agg [.lit (.int .i64 2), .lit (.int .i64 2), .lit (.int .i64 510), .lit (.int .i64 0), .lit (.int .i64 0), .lit (.bool true), .lit (.bool false), .lit (.bool true)]]

/-- 'nameplanlaw43.EvidenceMatchesReference': WHATEVER THE INPUT: true; the input reads as it did. -/
def evidenceMatchesReferenceSpec : ChangeSpec := { name := "evidenceMatchesReference", fn := fun _ => fun
  | [d1, d2, d3] => { results := [.lit (.bool true)], args := [d1, d2, d3] }
  | _ => none }
def evidenceMatchesReferenceRow : OpenClaim := { program := "ytfmdaiojokniiaagreatdoor", sum := "b01e08985585d1534ac5c7b6e6f1847b99d835aaeb60997d64a6f8192bbfdaa1", func := "nameplan/nameplanlaw43.EvidenceMatchesReference", spec := "evidenceMatchesReference", inPlace := ["internal/bytealg.abigen_runtime_cmpstring", "internal/bytealg.IndexByteString", "internal/abi.NoEscape", "internal/bytealg.MakeNoZero"], unfollowed := true, recurses := true, named := ["nameplan/record.rules", "bytes.ErrTooLarge"], plainKeys := false, apart := false, laid := [("bytes.ErrTooLarge", laid_bytes_ErrTooLarge), ("nameplan/record.rules", laid_nameplan_record_rules)] }
def EvidenceMatchesReferenceSaid : Prop := evidenceMatchesReferenceRow.holds Tryz.pinned (OpenSpec.ofChange evidenceMatchesReferenceSpec)

/-- ITS FALSE NEIGHBOUR: 'it returns false'. Refute it at one input. -/
def evidenceMatchesReferenceWrong : ChangeSpec := { name := "evidenceMatchesReference", fn := fun _ => fun
  | [d1, d2, d3] => { results := [.lit (.bool false)], args := [d1, d2, d3] }
  | _ => none }
def EvidenceMatchesReferenceWrongFalsely : Prop := evidenceMatchesReferenceRow.holds Tryz.pinned (OpenSpec.ofChange evidenceMatchesReferenceWrong)

/-- 'nameplanlaw43.EvidenceHonest': WHATEVER THE INPUT: true; the input reads as it did. -/
def evidenceHonestSpec : ChangeSpec := { name := "evidenceHonest", fn := fun _ => fun
  | [d] => { results := [.lit (.bool true)], args := [d] }
  | _ => none }
def evidenceHonestRow : OpenClaim := { program := "ytfmdaiojokniiaagreatdoor", sum := "b01e08985585d1534ac5c7b6e6f1847b99d835aaeb60997d64a6f8192bbfdaa1", func := "nameplan/nameplanlaw43.EvidenceHonest", spec := "evidenceHonest", inPlace := ["internal/bytealg.abigen_runtime_cmpstring", "internal/bytealg.IndexByteString", "internal/abi.NoEscape", "internal/bytealg.MakeNoZero"], unfollowed := true, recurses := true, named := ["nameplan/record.rules", "bytes.ErrTooLarge"], plainKeys := false, apart := false, laid := [("bytes.ErrTooLarge", laid_bytes_ErrTooLarge), ("nameplan/record.rules", laid_nameplan_record_rules)] }
def EvidenceHonestSaid : Prop := evidenceHonestRow.holds Tryz.pinned (OpenSpec.ofChange evidenceHonestSpec)

/-- ITS FALSE NEIGHBOUR: 'it returns false'. Refute it at one input. -/
def evidenceHonestWrong : ChangeSpec := { name := "evidenceHonest", fn := fun _ => fun
  | [d] => { results := [.lit (.bool false)], args := [d] }
  | _ => none }
def EvidenceHonestWrongFalsely : Prop := evidenceHonestRow.holds Tryz.pinned (OpenSpec.ofChange evidenceHonestWrong)

/-- 'nameplanlaw43.EvidenceServes': WHATEVER THE INPUT: true; the input reads as it did. -/
def evidenceServesSpec : ChangeSpec := { name := "evidenceServes", fn := fun _ => fun
  | [d1, d2, d3] => { results := [.lit (.bool true)], args := [d1, d2, d3] }
  | _ => none }
def evidenceServesRow : OpenClaim := { program := "ytfmdaiojokniiaagreatdoor", sum := "b01e08985585d1534ac5c7b6e6f1847b99d835aaeb60997d64a6f8192bbfdaa1", func := "nameplan/nameplanlaw43.EvidenceServes", spec := "evidenceServes", inPlace := ["internal/bytealg.abigen_runtime_cmpstring", "internal/bytealg.IndexByteString", "internal/abi.NoEscape", "internal/bytealg.MakeNoZero"], unfollowed := true, recurses := true, named := ["nameplan/record.rules", "bytes.ErrTooLarge"], plainKeys := false, apart := false, laid := [("bytes.ErrTooLarge", laid_bytes_ErrTooLarge), ("nameplan/record.rules", laid_nameplan_record_rules)] }
def EvidenceServesSaid : Prop := evidenceServesRow.holds Tryz.pinned (OpenSpec.ofChange evidenceServesSpec)

/-- ITS FALSE NEIGHBOUR: 'it returns false'. Refute it at one input. -/
def evidenceServesWrong : ChangeSpec := { name := "evidenceServes", fn := fun _ => fun
  | [d1, d2, d3] => { results := [.lit (.bool false)], args := [d1, d2, d3] }
  | _ => none }
def EvidenceServesWrongFalsely : Prop := evidenceServesRow.holds Tryz.pinned (OpenSpec.ofChange evidenceServesWrong)

/-- 'nameplanlaw43.EvidenceDamage': WHATEVER THE INPUT: true; the input reads as it did. -/
def evidenceDamageSpec : ChangeSpec := { name := "evidenceDamage", fn := fun _ => fun
  | [d1, d2, d3] => { results := [.lit (.bool true)], args := [d1, d2, d3] }
  | _ => none }
def evidenceDamageRow : OpenClaim := { program := "ytfmdaiojokniiaagreatdoor", sum := "b01e08985585d1534ac5c7b6e6f1847b99d835aaeb60997d64a6f8192bbfdaa1", func := "nameplan/nameplanlaw43.EvidenceDamage", spec := "evidenceDamage", inPlace := ["internal/bytealg.abigen_runtime_cmpstring", "internal/bytealg.IndexByteString", "internal/abi.NoEscape", "internal/bytealg.MakeNoZero"], unfollowed := true, recurses := true, named := ["nameplan/record.rules", "bytes.ErrTooLarge"], plainKeys := false, apart := false, laid := [("bytes.ErrTooLarge", laid_bytes_ErrTooLarge), ("nameplan/record.rules", laid_nameplan_record_rules)] }
def EvidenceDamageSaid : Prop := evidenceDamageRow.holds Tryz.pinned (OpenSpec.ofChange evidenceDamageSpec)

/-- ITS FALSE NEIGHBOUR: 'it returns false'. Refute it at one input. -/
def evidenceDamageWrong : ChangeSpec := { name := "evidenceDamage", fn := fun _ => fun
  | [d1, d2, d3] => { results := [.lit (.bool false)], args := [d1, d2, d3] }
  | _ => none }
def EvidenceDamageWrongFalsely : Prop := evidenceDamageRow.holds Tryz.pinned (OpenSpec.ofChange evidenceDamageWrong)

/-- 'nameplanlaw43.EvidenceClaims': WHATEVER THE INPUT: true; the input reads as it did. -/
def evidenceClaimsSpec : ChangeSpec := { name := "evidenceClaims", fn := fun _ => fun
  | [d1, d2, d3] => { results := [.lit (.bool true)], args := [d1, d2, d3] }
  | _ => none }
def evidenceClaimsRow : OpenClaim := { program := "ytfmdaiojokniiaagreatdoor", sum := "b01e08985585d1534ac5c7b6e6f1847b99d835aaeb60997d64a6f8192bbfdaa1", func := "nameplan/nameplanlaw43.EvidenceClaims", spec := "evidenceClaims", inPlace := ["internal/bytealg.abigen_runtime_cmpstring", "internal/bytealg.IndexByteString", "internal/abi.NoEscape", "internal/bytealg.MakeNoZero"], unfollowed := true, recurses := true, named := ["nameplan/record.rules", "bytes.ErrTooLarge"], plainKeys := false, apart := false, laid := [("bytes.ErrTooLarge", laid_bytes_ErrTooLarge), ("nameplan/record.rules", laid_nameplan_record_rules)] }
def EvidenceClaimsSaid : Prop := evidenceClaimsRow.holds Tryz.pinned (OpenSpec.ofChange evidenceClaimsSpec)

/-- ITS FALSE NEIGHBOUR: 'it returns false'. Refute it at one input. -/
def evidenceClaimsWrong : ChangeSpec := { name := "evidenceClaims", fn := fun _ => fun
  | [d1, d2, d3] => { results := [.lit (.bool false)], args := [d1, d2, d3] }
  | _ => none }
def EvidenceClaimsWrongFalsely : Prop := evidenceClaimsRow.holds Tryz.pinned (OpenSpec.ofChange evidenceClaimsWrong)

/-- 'nameplanlaw43.EvidenceHeard': WHATEVER THE INPUT: true; the input reads as it did. -/
def evidenceHeardSpec : ChangeSpec := { name := "evidenceHeard", fn := fun _ => fun
  | [d1, d2, d3, d4, d5, d6] => { results := [.lit (.bool true)], args := [d1, d2, d3, d4, d5, d6] }
  | _ => none }
def evidenceHeardRow : OpenClaim := { program := "ytfmdaiojokniiaagreatdoor", sum := "b01e08985585d1534ac5c7b6e6f1847b99d835aaeb60997d64a6f8192bbfdaa1", func := "nameplan/nameplanlaw43.EvidenceHeard", spec := "evidenceHeard", inPlace := ["internal/bytealg.abigen_runtime_cmpstring", "internal/bytealg.IndexByteString", "internal/abi.NoEscape", "internal/bytealg.MakeNoZero"], unfollowed := true, recurses := true, named := ["nameplan/record.rules", "bytes.ErrTooLarge"], plainKeys := false, apart := false, laid := [("bytes.ErrTooLarge", laid_bytes_ErrTooLarge), ("nameplan/record.rules", laid_nameplan_record_rules)] }
def EvidenceHeardSaid : Prop := evidenceHeardRow.holds Tryz.pinned (OpenSpec.ofChange evidenceHeardSpec)

/-- ITS FALSE NEIGHBOUR: 'it returns false'. Refute it at one input. -/
def evidenceHeardWrong : ChangeSpec := { name := "evidenceHeard", fn := fun _ => fun
  | [d1, d2, d3, d4, d5, d6] => { results := [.lit (.bool false)], args := [d1, d2, d3, d4, d5, d6] }
  | _ => none }
def EvidenceHeardWrongFalsely : Prop := evidenceHeardRow.holds Tryz.pinned (OpenSpec.ofChange evidenceHeardWrong)

/- THE SECOND FORM. 'bulk': how many values and letters a reading holds, each counted each time it is reached (what is shared counts as often as it is met; a slice's spare places count too). A statement '..UptoSaid' is the law's where the arguments, and the package variables that the reading takes, are together of bulk at most 1048576: NARROWER than '..Said'. Prove '..Said' where nothing that the law and all that it calls make is longer than what came in: it says more and counts as full. Else prove '..UptoSaid'. A law counts once. -/
mutual
def uptoBulk {H : Type} : DataW H → Nat
  | .lit (.string bytes) => bytes.length + 1
  | .lit _ => 1
  | .nil => 1
  | .ptr d => uptoBulk d + 1
  | .slice elems spare => uptoBulkAll elems + uptoBulkAll spare + 1
  | .agg parts => uptoBulkAll parts + 1
  | .iface _ d => uptoBulk d + 1
  | .map entries => uptoBulkEntries entries + 1
  | .held _ => 1
def uptoBulkAll {H : Type} : List (DataW H) → Nat
  | [] => 0
  | d :: r => uptoBulk d + uptoBulkAll r
def uptoBulkEntries {H : Type} : List (Lit × DataW H) → Nat
  | [] => 0
  | x :: r => uptoBulkEntry x + uptoBulkEntries r
def uptoBulkEntry {H : Type} : Lit × DataW H → Nat
  | (.string bytes, d) => bytes.length + uptoBulk d + 1
  | (_, d) => uptoBulk d + 1
 end
def uptoSmall : (H : Type) → List (DataW H) → Bool := fun _ ds => decide (uptoBulkAll ds ≤ 1048576)
def OpenSpec.upto (s : _root_.Go.ChangeSpec) : _root_.Go.OpenSpec := { _root_.Go.OpenSpec.ofChange s with cond := some uptoSmall }

/-- 'nameplanlaw43.EvidenceMatchesReference', WHERE WHAT IT READS IS OF BULK AT MOST 1048576: true; the input reads as it did. -/
def evidenceMatchesReferenceUptoRow : OpenClaim := { program := "ytfmdaiojokniiaagreatdoor", sum := "b01e08985585d1534ac5c7b6e6f1847b99d835aaeb60997d64a6f8192bbfdaa1", func := "nameplan/nameplanlaw43.EvidenceMatchesReference", spec := "evidenceMatchesReference", inPlace := ["internal/bytealg.abigen_runtime_cmpstring", "internal/bytealg.IndexByteString", "internal/abi.NoEscape", "internal/bytealg.MakeNoZero"], unfollowed := true, recurses := true, named := ["nameplan/record.rules", "bytes.ErrTooLarge"], plainKeys := false, apart := false, laid := [("bytes.ErrTooLarge", laid_bytes_ErrTooLarge), ("nameplan/record.rules", laid_nameplan_record_rules)], narrowed := true }
def EvidenceMatchesReferenceUptoSaid : Prop := evidenceMatchesReferenceUptoRow.holds Tryz.pinned (OpenSpec.upto evidenceMatchesReferenceSpec)

/-- 'nameplanlaw43.EvidenceHonest', WHERE WHAT IT READS IS OF BULK AT MOST 1048576: true; the input reads as it did. -/
def evidenceHonestUptoRow : OpenClaim := { program := "ytfmdaiojokniiaagreatdoor", sum := "b01e08985585d1534ac5c7b6e6f1847b99d835aaeb60997d64a6f8192bbfdaa1", func := "nameplan/nameplanlaw43.EvidenceHonest", spec := "evidenceHonest", inPlace := ["internal/bytealg.abigen_runtime_cmpstring", "internal/bytealg.IndexByteString", "internal/abi.NoEscape", "internal/bytealg.MakeNoZero"], unfollowed := true, recurses := true, named := ["nameplan/record.rules", "bytes.ErrTooLarge"], plainKeys := false, apart := false, laid := [("bytes.ErrTooLarge", laid_bytes_ErrTooLarge), ("nameplan/record.rules", laid_nameplan_record_rules)], narrowed := true }
def EvidenceHonestUptoSaid : Prop := evidenceHonestUptoRow.holds Tryz.pinned (OpenSpec.upto evidenceHonestSpec)

/-- 'nameplanlaw43.EvidenceServes', WHERE WHAT IT READS IS OF BULK AT MOST 1048576: true; the input reads as it did. -/
def evidenceServesUptoRow : OpenClaim := { program := "ytfmdaiojokniiaagreatdoor", sum := "b01e08985585d1534ac5c7b6e6f1847b99d835aaeb60997d64a6f8192bbfdaa1", func := "nameplan/nameplanlaw43.EvidenceServes", spec := "evidenceServes", inPlace := ["internal/bytealg.abigen_runtime_cmpstring", "internal/bytealg.IndexByteString", "internal/abi.NoEscape", "internal/bytealg.MakeNoZero"], unfollowed := true, recurses := true, named := ["nameplan/record.rules", "bytes.ErrTooLarge"], plainKeys := false, apart := false, laid := [("bytes.ErrTooLarge", laid_bytes_ErrTooLarge), ("nameplan/record.rules", laid_nameplan_record_rules)], narrowed := true }
def EvidenceServesUptoSaid : Prop := evidenceServesUptoRow.holds Tryz.pinned (OpenSpec.upto evidenceServesSpec)

/-- 'nameplanlaw43.EvidenceDamage', WHERE WHAT IT READS IS OF BULK AT MOST 1048576: true; the input reads as it did. -/
def evidenceDamageUptoRow : OpenClaim := { program := "ytfmdaiojokniiaagreatdoor", sum := "b01e08985585d1534ac5c7b6e6f1847b99d835aaeb60997d64a6f8192bbfdaa1", func := "nameplan/nameplanlaw43.EvidenceDamage", spec := "evidenceDamage", inPlace := ["internal/bytealg.abigen_runtime_cmpstring", "internal/bytealg.IndexByteString", "internal/abi.NoEscape", "internal/bytealg.MakeNoZero"], unfollowed := true, recurses := true, named := ["nameplan/record.rules", "bytes.ErrTooLarge"], plainKeys := false, apart := false, laid := [("bytes.ErrTooLarge", laid_bytes_ErrTooLarge), ("nameplan/record.rules", laid_nameplan_record_rules)], narrowed := true }
def EvidenceDamageUptoSaid : Prop := evidenceDamageUptoRow.holds Tryz.pinned (OpenSpec.upto evidenceDamageSpec)

/-- 'nameplanlaw43.EvidenceClaims', WHERE WHAT IT READS IS OF BULK AT MOST 1048576: true; the input reads as it did. -/
def evidenceClaimsUptoRow : OpenClaim := { program := "ytfmdaiojokniiaagreatdoor", sum := "b01e08985585d1534ac5c7b6e6f1847b99d835aaeb60997d64a6f8192bbfdaa1", func := "nameplan/nameplanlaw43.EvidenceClaims", spec := "evidenceClaims", inPlace := ["internal/bytealg.abigen_runtime_cmpstring", "internal/bytealg.IndexByteString", "internal/abi.NoEscape", "internal/bytealg.MakeNoZero"], unfollowed := true, recurses := true, named := ["nameplan/record.rules", "bytes.ErrTooLarge"], plainKeys := false, apart := false, laid := [("bytes.ErrTooLarge", laid_bytes_ErrTooLarge), ("nameplan/record.rules", laid_nameplan_record_rules)], narrowed := true }
def EvidenceClaimsUptoSaid : Prop := evidenceClaimsUptoRow.holds Tryz.pinned (OpenSpec.upto evidenceClaimsSpec)

/-- 'nameplanlaw43.EvidenceHeard', WHERE WHAT IT READS IS OF BULK AT MOST 1048576: true; the input reads as it did. -/
def evidenceHeardUptoRow : OpenClaim := { program := "ytfmdaiojokniiaagreatdoor", sum := "b01e08985585d1534ac5c7b6e6f1847b99d835aaeb60997d64a6f8192bbfdaa1", func := "nameplan/nameplanlaw43.EvidenceHeard", spec := "evidenceHeard", inPlace := ["internal/bytealg.abigen_runtime_cmpstring", "internal/bytealg.IndexByteString", "internal/abi.NoEscape", "internal/bytealg.MakeNoZero"], unfollowed := true, recurses := true, named := ["nameplan/record.rules", "bytes.ErrTooLarge"], plainKeys := false, apart := false, laid := [("bytes.ErrTooLarge", laid_bytes_ErrTooLarge), ("nameplan/record.rules", laid_nameplan_record_rules)], narrowed := true }
def EvidenceHeardUptoSaid : Prop := evidenceHeardUptoRow.holds Tryz.pinned (OpenSpec.upto evidenceHeardSpec)

end Rows
end Go.Proofs.YtfmdaiojokniiaaGreatDoor
