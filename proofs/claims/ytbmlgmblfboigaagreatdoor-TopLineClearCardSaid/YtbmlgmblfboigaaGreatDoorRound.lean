/- Lemmas for the statement. -/
import Derived.Test.YtbmlgmblfboigaaGreatDoorM1
import Derived.Test.YtbmlgmblfboigaaGreatDoorM2
import Derived.OrdersIn
set_option linter.unusedVariables false
set_option linter.unusedSimpArgs false
namespace Go.Proofs.YtbmlgmblfboigaaGreatDoor
open Go Go.RowKit
end Go.Proofs.YtbmlgmblfboigaaGreatDoor
