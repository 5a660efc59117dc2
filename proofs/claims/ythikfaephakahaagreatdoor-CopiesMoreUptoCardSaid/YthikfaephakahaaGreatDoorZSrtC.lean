/- The library's slices.Compact at rows of numbers, as a contract over own arrays. Conditions: a length that Go allows. -/
import Derived.Test.YthikfaephakahaaGreatDoorZSrtI
import Derived.Shelf.Slices.CompactI
set_option linter.unusedVariables false
set_option linter.unusedSimpArgs false
namespace Go.Proofs.YthikfaephakahaaGreatDoor.P
open Go Go.Eng Go.Sort Go.RowKit
end Go.Proofs.YthikfaephakahaaGreatDoor.P
