/- Chapter 5: the errors of a run, one by one. No conditions on a program. -/
import Derived.Test.YtelgkjekpcfffaaK30
namespace Go.Proofs.Ytelgkjekpcfffaa
open Go Go.RowKit Go.Proofs
set_option linter.unusedSimpArgs false
set_option linter.unusedVariables false

end Go.Proofs.Ytelgkjekpcfffaa
