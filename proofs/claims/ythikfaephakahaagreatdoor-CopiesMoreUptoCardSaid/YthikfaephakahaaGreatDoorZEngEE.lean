/- The engine, part EE: regions that draw their order: first m operations that stand anywhere, then two variables that are made at any time, then operations in order. No conditions. -/
import Derived.Test.YthikfaephakahaaGreatDoorZEngBB
import Derived.Test.YthikfaephakahaaGreatDoorZM9
set_option linter.unusedVariables false
set_option linter.unusedSimpArgs false
namespace Go.Eng
open Go Go.RowKit
section
variable {E:Env} {ops:Array Oper} {n:Nat} {B:List Nat} {X:List Box}
variable {fid:FuncId} {R:Post} {s:List AV} {h:List Box} {k:List AItem} {lits:List Nat}
end
end Go.Eng
