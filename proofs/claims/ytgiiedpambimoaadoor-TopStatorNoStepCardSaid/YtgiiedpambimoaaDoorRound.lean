/- A region that draws its order within a round of a loop over a function: as everywhere, if no operation of it is a defer statement. No conditions on a program. -/
import Derived.Test.YtgiiedpambimoaaDoorLib
import Derived.Test.YtgiiedpambimoaaDoorRange
import Derived.OrdersIn
namespace Go.Proofs.YtgiiedpambimoaaDoor
open Go Go.RowKit

end Go.Proofs.YtgiiedpambimoaaDoor
