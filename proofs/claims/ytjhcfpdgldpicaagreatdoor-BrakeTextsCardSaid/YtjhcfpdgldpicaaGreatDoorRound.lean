/- Lemmas for the statement. -/
import Derived.Test.YtjhcfpdgldpicaaGreatDoorLib
import Derived.Test.YtjhcfpdgldpicaaGreatDoorRange
import Derived.OrdersIn
namespace Go.Proofs.YtjhcfpdgldpicaaGreatDoor
open Go Go.RowKit
end Go.Proofs.YtjhcfpdgldpicaaGreatDoor
