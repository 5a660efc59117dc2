/-
  No cell of these rows narrows 'for every input' (looked for: loops, veiled, ifaces, maps, wideKeys, modest, calm, conditions, laid).
  DERIVED. THE GIVEN ROWS OF THIS SEAT. 6 by the template 'for every input the law returns true; each argument reads behind the call as it read before'; 0 by the template 'total and deterministic' (their statements: YtfgjeihchgfnnaaTotals.lean).
  GIVEN WITH THE SEED: the statements are not yours to turn. If you find one false, say at which input.
  Laid BY PROGRAM, IN A SANDBOX (cutbox-rows.mjs): the forced cells as the released guide's own fill.sh prints them over the translation cace151cc4e9318b… (all of the seat's roots in one cut). By AI agents, Wed Nov 11 2026. No macro, syntax, notation, axiom, sorry.
-/
import Derived.Test.YtfgjeihchgfnnaaChecked
import GoSem.Claim
import GoSem.ClaimJoined
import GoSem.ClaimMapViews
import Derived.JoinedTies
import Derived.KernelRfl
namespace Go.Proofs.Ytfgjeihchgfnnaa
/- THE CELL 'sum', in the pinned program and in every row, IS THE sha256 OF THE DUMP (.gsa) THAT YtfgjeihchgfnnaaProg.lean LOADS. Nothing in Lean hashes anything: it is a label: what it is worth is what the hold of that sum in a sandbox is worth. -/
noncomputable def Try.pinned : Pinned := { name := "ytfgjeihchgfnnaa", sum := "cace151cc4e9318b5c9fc4a715c0e2292f15da0843c960698520003e508fc640", checked := Try.checked }
namespace Rows
def none {H : Type} : Left H := { results := [], args := [] }

/-- 'nameplanlaw24.ClockMatchesReference': WHATEVER THE INPUT: true; the input reads as it did. -/
def clockMatchesReferenceSpec : ChangeSpec := { name := "clockMatchesReference", fn := fun _ => fun
  | [d1, d2, d3, d4, d5] => { results := [.lit (.bool true)], args := [d1, d2, d3, d4, d5] }
  | _ => none }
def clockMatchesReferenceRow : OpenClaim := { program := "ytfgjeihchgfnnaa", sum := "cace151cc4e9318b5c9fc4a715c0e2292f15da0843c960698520003e508fc640", func := "nameplan/nameplanlaw24.ClockMatchesReference", spec := "clockMatchesReference", unfollowed := true, recurses := true, apart := false }
def ClockMatchesReferenceSaid : Prop := clockMatchesReferenceRow.holds Try.pinned (OpenSpec.ofChange clockMatchesReferenceSpec)

/-- ITS FALSE NEIGHBOUR: 'it returns false'. Refute it at one input. -/
def clockMatchesReferenceWrong : ChangeSpec := { name := "clockMatchesReference", fn := fun _ => fun
  | [d1, d2, d3, d4, d5] => { results := [.lit (.bool false)], args := [d1, d2, d3, d4, d5] }
  | _ => none }
def ClockMatchesReferenceWrongFalsely : Prop := clockMatchesReferenceRow.holds Try.pinned (OpenSpec.ofChange clockMatchesReferenceWrong)

/-- 'nameplanlaw24.ClockForward': WHATEVER THE INPUT: true; the input reads as it did. -/
def clockForwardSpec : ChangeSpec := { name := "clockForward", fn := fun _ => fun
  | [d1, d2, d3, d4] => { results := [.lit (.bool true)], args := [d1, d2, d3, d4] }
  | _ => none }
def clockForwardRow : OpenClaim := { program := "ytfgjeihchgfnnaa", sum := "cace151cc4e9318b5c9fc4a715c0e2292f15da0843c960698520003e508fc640", func := "nameplan/nameplanlaw24.ClockForward", spec := "clockForward", unfollowed := true, recurses := true, apart := false }
def ClockForwardSaid : Prop := clockForwardRow.holds Try.pinned (OpenSpec.ofChange clockForwardSpec)

/-- ITS FALSE NEIGHBOUR: 'it returns false'. Refute it at one input. -/
def clockForwardWrong : ChangeSpec := { name := "clockForward", fn := fun _ => fun
  | [d1, d2, d3, d4] => { results := [.lit (.bool false)], args := [d1, d2, d3, d4] }
  | _ => none }
def ClockForwardWrongFalsely : Prop := clockForwardRow.holds Try.pinned (OpenSpec.ofChange clockForwardWrong)

/-- 'nameplanlaw24.ClockTimes': WHATEVER THE INPUT: true; the input reads as it did. -/
def clockTimesSpec : ChangeSpec := { name := "clockTimes", fn := fun _ => fun
  | [d1, d2, d3, d4] => { results := [.lit (.bool true)], args := [d1, d2, d3, d4] }
  | _ => none }
def clockTimesRow : OpenClaim := { program := "ytfgjeihchgfnnaa", sum := "cace151cc4e9318b5c9fc4a715c0e2292f15da0843c960698520003e508fc640", func := "nameplan/nameplanlaw24.ClockTimes", spec := "clockTimes", unfollowed := true, recurses := true, apart := false }
def ClockTimesSaid : Prop := clockTimesRow.holds Try.pinned (OpenSpec.ofChange clockTimesSpec)

/-- ITS FALSE NEIGHBOUR: 'it returns false'. Refute it at one input. -/
def clockTimesWrong : ChangeSpec := { name := "clockTimes", fn := fun _ => fun
  | [d1, d2, d3, d4] => { results := [.lit (.bool false)], args := [d1, d2, d3, d4] }
  | _ => none }
def ClockTimesWrongFalsely : Prop := clockTimesRow.holds Try.pinned (OpenSpec.ofChange clockTimesWrong)

/-- 'nameplanlaw24.ClockDrift': WHATEVER THE INPUT: true; the input reads as it did. -/
def clockDriftSpec : ChangeSpec := { name := "clockDrift", fn := fun _ => fun
  | [d1, d2, d3, d4, d5, d6] => { results := [.lit (.bool true)], args := [d1, d2, d3, d4, d5, d6] }
  | _ => none }
def clockDriftRow : OpenClaim := { program := "ytfgjeihchgfnnaa", sum := "cace151cc4e9318b5c9fc4a715c0e2292f15da0843c960698520003e508fc640", func := "nameplan/nameplanlaw24.ClockDrift", spec := "clockDrift", unfollowed := true, recurses := true, apart := false }
def ClockDriftSaid : Prop := clockDriftRow.holds Try.pinned (OpenSpec.ofChange clockDriftSpec)

/-- ITS FALSE NEIGHBOUR: 'it returns false'. Refute it at one input. -/
def clockDriftWrong : ChangeSpec := { name := "clockDrift", fn := fun _ => fun
  | [d1, d2, d3, d4, d5, d6] => { results := [.lit (.bool false)], args := [d1, d2, d3, d4, d5, d6] }
  | _ => none }
def ClockDriftWrongFalsely : Prop := clockDriftRow.holds Try.pinned (OpenSpec.ofChange clockDriftWrong)

/-- 'nameplanlaw24.ClockGain': WHATEVER THE INPUT: true; the input reads as it did. -/
def clockGainSpec : ChangeSpec := { name := "clockGain", fn := fun _ => fun
  | [d1, d2] => { results := [.lit (.bool true)], args := [d1, d2] }
  | _ => none }
def clockGainRow : OpenClaim := { program := "ytfgjeihchgfnnaa", sum := "cace151cc4e9318b5c9fc4a715c0e2292f15da0843c960698520003e508fc640", func := "nameplan/nameplanlaw24.ClockGain", spec := "clockGain", unfollowed := true, recurses := true, apart := false }
def ClockGainSaid : Prop := clockGainRow.holds Try.pinned (OpenSpec.ofChange clockGainSpec)

/-- ITS FALSE NEIGHBOUR: 'it returns false'. Refute it at one input. -/
def clockGainWrong : ChangeSpec := { name := "clockGain", fn := fun _ => fun
  | [d1, d2] => { results := [.lit (.bool false)], args := [d1, d2] }
  | _ => none }
def ClockGainWrongFalsely : Prop := clockGainRow.holds Try.pinned (OpenSpec.ofChange clockGainWrong)

/-- 'nameplanlaw24.ClockRight': WHATEVER THE INPUT: true; the input reads as it did. -/
def clockRightSpec : ChangeSpec := { name := "clockRight", fn := fun _ => fun
  | [d1, d2, d3, d4] => { results := [.lit (.bool true)], args := [d1, d2, d3, d4] }
  | _ => none }
def clockRightRow : OpenClaim := { program := "ytfgjeihchgfnnaa", sum := "cace151cc4e9318b5c9fc4a715c0e2292f15da0843c960698520003e508fc640", func := "nameplan/nameplanlaw24.ClockRight", spec := "clockRight", unfollowed := true, recurses := true, apart := false }
def ClockRightSaid : Prop := clockRightRow.holds Try.pinned (OpenSpec.ofChange clockRightSpec)

/-- ITS FALSE NEIGHBOUR: 'it returns false'. Refute it at one input. -/
def clockRightWrong : ChangeSpec := { name := "clockRight", fn := fun _ => fun
  | [d1, d2, d3, d4] => { results := [.lit (.bool false)], args := [d1, d2, d3, d4] }
  | _ => none }
def ClockRightWrongFalsely : Prop := clockRightRow.holds Try.pinned (OpenSpec.ofChange clockRightWrong)

/- THE SECOND FORM. 'bulk': how many values and letters a reading holds, each counted each time it is reached (what is shared counts as often as it is met; a slice's spare places count too). A statement '..UptoSaid' is the law's where the arguments, and the package variables that the reading takes, are together of bulk at most 1048576: NARROWER than '..Said'. Prove '..Said' where nothing that the law and all that it calls make is longer than what came in: it says more and counts as full. Else prove '..UptoSaid'. A law counts once. -/
mutual
def uptoBulk {H : Type} : DataW H → Nat
  | .lit (.string bytes) => bytes.length + 1
  | .lit _ => 1
  | .nil => 1
  | .ptr d => uptoBulk d + 1
  | .slice elems spare => uptoBulkAll elems + uptoBulkAll spare + 1
  | .agg parts => uptoBulkAll parts + 1
  | .iface _ d => uptoBulk d + 1
  | .map entries => uptoBulkEntries entries + 1
  | .held _ => 1
def uptoBulkAll {H : Type} : List (DataW H) → Nat
  | [] => 0
  | d :: r => uptoBulk d + uptoBulkAll r
def uptoBulkEntries {H : Type} : List (Lit × DataW H) → Nat
  | [] => 0
  | x :: r => uptoBulkEntry x + uptoBulkEntries r
def uptoBulkEntry {H : Type} : Lit × DataW H → Nat
  | (.string bytes, d) => bytes.length + uptoBulk d + 1
  | (_, d) => uptoBulk d + 1
 end
def uptoSmall : (H : Type) → List (DataW H) → Bool := fun _ ds => decide (uptoBulkAll ds ≤ 1048576)
def OpenSpec.upto (s : _root_.Go.ChangeSpec) : _root_.Go.OpenSpec := { _root_.Go.OpenSpec.ofChange s with cond := some uptoSmall }

/-- 'nameplanlaw24.ClockMatchesReference', WHERE WHAT IT READS IS OF BULK AT MOST 1048576: true; the input reads as it did. -/
def clockMatchesReferenceUptoRow : OpenClaim := { program := "ytfgjeihchgfnnaa", sum := "cace151cc4e9318b5c9fc4a715c0e2292f15da0843c960698520003e508fc640", func := "nameplan/nameplanlaw24.ClockMatchesReference", spec := "clockMatchesReference", unfollowed := true, recurses := true, apart := false, narrowed := true }
def ClockMatchesReferenceUptoSaid : Prop := clockMatchesReferenceUptoRow.holds Try.pinned (OpenSpec.upto clockMatchesReferenceSpec)

/-- 'nameplanlaw24.ClockForward', WHERE WHAT IT READS IS OF BULK AT MOST 1048576: true; the input reads as it did. -/
def clockForwardUptoRow : OpenClaim := { program := "ytfgjeihchgfnnaa", sum := "cace151cc4e9318b5c9fc4a715c0e2292f15da0843c960698520003e508fc640", func := "nameplan/nameplanlaw24.ClockForward", spec := "clockForward", unfollowed := true, recurses := true, apart := false, narrowed := true }
def ClockForwardUptoSaid : Prop := clockForwardUptoRow.holds Try.pinned (OpenSpec.upto clockForwardSpec)

/-- 'nameplanlaw24.ClockTimes', WHERE WHAT IT READS IS OF BULK AT MOST 1048576: true; the input reads as it did. -/
def clockTimesUptoRow : OpenClaim := { program := "ytfgjeihchgfnnaa", sum := "cace151cc4e9318b5c9fc4a715c0e2292f15da0843c960698520003e508fc640", func := "nameplan/nameplanlaw24.ClockTimes", spec := "clockTimes", unfollowed := true, recurses := true, apart := false, narrowed := true }
def ClockTimesUptoSaid : Prop := clockTimesUptoRow.holds Try.pinned (OpenSpec.upto clockTimesSpec)

/-- 'nameplanlaw24.ClockDrift', WHERE WHAT IT READS IS OF BULK AT MOST 1048576: true; the input reads as it did. -/
def clockDriftUptoRow : OpenClaim := { program := "ytfgjeihchgfnnaa", sum := "cace151cc4e9318b5c9fc4a715c0e2292f15da0843c960698520003e508fc640", func := "nameplan/nameplanlaw24.ClockDrift", spec := "clockDrift", unfollowed := true, recurses := true, apart := false, narrowed := true }
def ClockDriftUptoSaid : Prop := clockDriftUptoRow.holds Try.pinned (OpenSpec.upto clockDriftSpec)

/-- 'nameplanlaw24.ClockGain', WHERE WHAT IT READS IS OF BULK AT MOST 1048576: true; the input reads as it did. -/
def clockGainUptoRow : OpenClaim := { program := "ytfgjeihchgfnnaa", sum := "cace151cc4e9318b5c9fc4a715c0e2292f15da0843c960698520003e508fc640", func := "nameplan/nameplanlaw24.ClockGain", spec := "clockGain", unfollowed := true, recurses := true, apart := false, narrowed := true }
def ClockGainUptoSaid : Prop := clockGainUptoRow.holds Try.pinned (OpenSpec.upto clockGainSpec)

/-- 'nameplanlaw24.ClockRight', WHERE WHAT IT READS IS OF BULK AT MOST 1048576: true; the input reads as it did. -/
def clockRightUptoRow : OpenClaim := { program := "ytfgjeihchgfnnaa", sum := "cace151cc4e9318b5c9fc4a715c0e2292f15da0843c960698520003e508fc640", func := "nameplan/nameplanlaw24.ClockRight", spec := "clockRight", unfollowed := true, recurses := true, apart := false, narrowed := true }
def ClockRightUptoSaid : Prop := clockRightUptoRow.holds Try.pinned (OpenSpec.upto clockRightSpec)

end Rows
end Go.Proofs.Ytfgjeihchgfnnaa
