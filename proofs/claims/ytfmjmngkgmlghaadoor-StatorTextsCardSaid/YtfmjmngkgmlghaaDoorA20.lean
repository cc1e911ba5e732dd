/- Abstract machine: a row of one's own given up: it is read alone from here on. -/
import Derived.Test.YtfmjmngkgmlghaaDoorA16
namespace Go.Proofs.YtfmjmngkgmlghaaDoor
open Go Go.RowKit Go.Proofs
set_option linter.unusedSimpArgs false
set_option linter.unusedVariables false
section
variable {P : Program} {N : Nat} {Q : AQ} {e : Nat → AV} {mem : List Ob}
end
end Go.Proofs.YtfmjmngkgmlghaaDoor
