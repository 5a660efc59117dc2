/- Sorting rows of two numbers: the library's sort, as a contract over own arrays. Conditions: a length that Go allows. -/
import Derived.Test.YthikfaephakahaaGreatDoorZM9
import Derived.Shelf.SlSortCmp.WholeK
set_option linter.unusedVariables false
set_option linter.unusedSimpArgs false
namespace Go.Proofs.YthikfaephakahaaGreatDoor.P
open Go Go.Eng Go.Sort Go.RowKit
theorem vd_int {bad:Nat→Prop} {w:World} {k:IntKind} {n:Int} {v:Value} (h:VD bad w (.int k n) v):v = .int k n:=by cases h; rfl
end Go.Proofs.YthikfaephakahaaGreatDoor.P
