/- Contracts of chapter 5: tracks and systems. No conditions on a program. -/
import Derived.Test.YtgiiedpambimoaaDoorK2
namespace Go.Proofs.YtgiiedpambimoaaDoor
open Go Go.RowKit Go.Proofs
set_option linter.unusedSimpArgs false
set_option linter.unusedVariables false
end Go.Proofs.YtgiiedpambimoaaDoor
