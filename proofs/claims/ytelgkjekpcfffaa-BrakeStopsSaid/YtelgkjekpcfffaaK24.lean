/- Contracts of chapter 5: roots; the errors of squares. No conditions on a program. -/
import Derived.Test.YtelgkjekpcfffaaK30
import Derived.Test.YtelgkjekpcfffaaK20
namespace Go.Proofs.Ytelgkjekpcfffaa
open Go Go.RowKit Go.Proofs
set_option linter.unusedSimpArgs false
set_option linter.unusedVariables false
section
variable (xs : List Int) (hx : xs.length ≤ 1000000000)
include hx
end
end Go.Proofs.Ytelgkjekpcfffaa
