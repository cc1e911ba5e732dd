/- Contracts of chapter 5: where a train stands, as the document has it. No conditions on a program. -/
import Derived.Test.YtgiiedpambimoaaK12
namespace Go.Proofs.Ytgiiedpambimoaa
open Go Go.RowKit Go.Proofs
set_option linter.unusedSimpArgs false
set_option linter.unusedVariables false

end Go.Proofs.Ytgiiedpambimoaa
