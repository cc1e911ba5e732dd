/- The law of chapter 5 on curves. No conditions on a program. -/
import Derived.Test.YtgiiedpambimoaaK30
namespace Go.Proofs.Ytgiiedpambimoaa
open Go Go.RowKit Go.Proofs
set_option linter.unusedSimpArgs false
set_option linter.unusedVariables false

end Go.Proofs.Ytgiiedpambimoaa
