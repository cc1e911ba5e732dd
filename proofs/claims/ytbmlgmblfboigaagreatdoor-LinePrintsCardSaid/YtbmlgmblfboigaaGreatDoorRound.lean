/- Lemmas for the statement. -/
import Derived.Test.YtbmlgmblfboigaaGreatDoorM1
import Derived.Test.YtbmlgmblfboigaaGreatDoorM2
import Derived.OrdersIn
namespace Go.Proofs.YtbmlgmblfboigaaGreatDoor
open Go Go.RowKit
end Go.Proofs.YtbmlgmblfboigaaGreatDoor
