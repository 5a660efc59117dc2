/- Several texts of mine, one behind the other. Conditions: as each says. -/
import Derived.Test.YthikfaephakahaaGreatDoorZN2
import Derived.Test.YthikfaephakahaaGreatDoorZP21
import Derived.Test.YthikfaephakahaaGreatDoorZM7
import Derived.Test.YthikfaephakahaaGreatDoorZN1
set_option linter.unusedVariables false
set_option linter.unusedSimpArgs false
section
namespace Go.Proofs.YthikfaephakahaaGreatDoor.P
open Go Go.Eng
set_option maxRecDepth 100000
set_option maxHeartbeats 4000000
end Go.Proofs.YthikfaephakahaaGreatDoor.P
end
section
namespace Go.Proofs.YthikfaephakahaaGreatDoor.P
open Go Go.Eng
set_option maxRecDepth 100000
set_option maxHeartbeats 4000000
end Go.Proofs.YthikfaephakahaaGreatDoor.P
end
section
namespace Go.Proofs.YthikfaephakahaaGreatDoor.P
open Go Go.Eng
set_option maxRecDepth 100000
set_option maxHeartbeats 4000000
set_option linter.unusedSectionVars false
section
variable {α:Type} [DecidableEq α] {en:α→DV}
end
theorem keyEq_num (a b:Int):keyEq (.int .i64 a) (.int .i64 b)=decide (a=b):=by
 show (a==b)=_;rw [Bool.eq_iff_iff]; simp
abbrev Spot:=Int × Text
@[reducible] def Spot.en (p : Spot) : DV := .agg [.int .i64 p.1, .str p.2]
end Go.Proofs.YthikfaephakahaaGreatDoor.P
end
