/- Abstract machine: the check that a pointer is not nil. -/
import Derived.Test.YtfmjmngkgmlghaaDoorA22
namespace Go.Proofs.YtfmjmngkgmlghaaDoor
open Go Go.RowKit Go.Proofs
set_option linter.unusedSimpArgs false
set_option linter.unusedVariables false
section
variable {P : Program} {e : Nat → AV} {mem : List Ob} {d : Option Tmp} {x : Operand} {ty : TypeId} {pos : String} {af : Array Edge} {g : Option (Nat × Bool)}
end
end Go.Proofs.YtfmjmngkgmlghaaDoor
