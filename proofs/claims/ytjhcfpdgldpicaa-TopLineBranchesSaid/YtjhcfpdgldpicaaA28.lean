/- Lemmas for the statement. -/
import Derived.Test.YtjhcfpdgldpicaaA14
import Derived.RangeFuncNested
namespace Go.Proofs.Ytjhcfpdgldpicaa
open Go Go.RowKit Go.Proofs
set_option linter.unusedSimpArgs false
set_option linter.unusedVariables false
section
variable {P : Program} {N : Nat} {Q : AQ} {e : Nat → AV} {mem : List Ob} {g : Operand} {assign body : Code} {gf : FuncId} {l m : List AV}
end
end Go.Proofs.Ytjhcfpdgldpicaa
