/- A region that draws its order within a round of a loop over a function: as everywhere, if no operation of it is a defer statement. No conditions on a program. -/
import Derived.Test.YtnblahgocddpbaaDoorLib
import Derived.Test.YtnblahgocddpbaaDoorRange
import Derived.OrdersIn
namespace Go.Proofs.YtnblahgocddpbaaDoor
open Go Go.RowKit

end Go.Proofs.YtnblahgocddpbaaDoor
