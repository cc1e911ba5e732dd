/- The abstract machine: a row of one's own given up between operations. No conditions on a program. -/
import Derived.Test.YtonjcljnpcmenaaA26
import Derived.Test.YtonjcljnpcmenaaA20
namespace Go.Proofs.Ytonjcljnpcmenaa
open Go Go.RowKit Go.Proofs
set_option linter.unusedSimpArgs false
set_option linter.unusedVariables false
section
variable {P : Program} {N : Nat} {Q : AQ} {e : Nat → AV} {mem : List Ob}
end
end Go.Proofs.Ytonjcljnpcmenaa
