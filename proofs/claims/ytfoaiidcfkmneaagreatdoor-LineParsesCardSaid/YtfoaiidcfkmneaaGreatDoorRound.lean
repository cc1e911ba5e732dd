/- Lemmas for the statement. -/
import Derived.Test.YtfoaiidcfkmneaaGreatDoorM1
import Derived.Test.YtfoaiidcfkmneaaGreatDoorM3
import Derived.OrdersIn
set_option linter.unusedVariables false
set_option linter.unusedSimpArgs false
namespace Go.Proofs.YtfoaiidcfkmneaaGreatDoor
open Go Go.RowKit
end Go.Proofs.YtfoaiidcfkmneaaGreatDoor
