/- Lemmas for the statement. -/
import Derived.Test.YtjhcfpdgldpicaaM2
import Derived.Test.YtjhcfpdgldpicaaM1
namespace Go.Proofs.Ytjhcfpdgldpicaa
open Go Go.RowKit Go.Proofs
set_option linter.unusedSimpArgs false
set_option linter.unusedVariables false
section
variable {P : Program} {N : Nat} {Q : AQ} {e : Nat → AV} {mem : List Ob}
end
end Go.Proofs.Ytjhcfpdgldpicaa
