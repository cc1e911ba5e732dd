/- A region that draws its order within a round of a loop over a function: as everywhere, if no operation of it is a defer statement. No conditions on a program. -/
import Derived.Test.YtfmjmngkgmlghaaDoorLib
import Derived.Test.YtfmjmngkgmlghaaDoorRange
import Derived.OrdersIn
namespace Go.Proofs.YtfmjmngkgmlghaaDoor
open Go Go.RowKit

end Go.Proofs.YtfmjmngkgmlghaaDoor
