/- The abstract machine: functions that hand back a struct with one row of one's own, the rest read alone. No conditions on a program. -/
import Derived.Test.YtonjcljnpcmenaaA25
import Derived.Test.YtonjcljnpcmenaaA15
namespace Go.Proofs.Ytonjcljnpcmenaa
open Go Go.RowKit Go.Proofs
set_option linter.unusedSimpArgs false
set_option linter.unusedVariables false
section
variable {P : Program} {e : Nat → AV} {mem : List Ob} {d : Option Tmp} {ty t : TypeId} {pos : String} {af : Array Edge} {g : Option (Nat × Bool)} {x y : Operand}
end
end Go.Proofs.Ytonjcljnpcmenaa
