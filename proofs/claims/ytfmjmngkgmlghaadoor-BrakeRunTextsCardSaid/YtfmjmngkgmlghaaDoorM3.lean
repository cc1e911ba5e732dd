/- Texts of this claim, one behind the other: lemmas for the statement. -/
import Derived.Test.YtfmjmngkgmlghaaDoorM2
import Derived.Test.YtfmjmngkgmlghaaDoorApp
import Derived.Test.YtfmjmngkgmlghaaDoorRange
/- Walks: the errors of tracks, trains, feeds. -/
namespace Go.Proofs.YtfmjmngkgmlghaaDoor
open Go Go.RowKit Go.Proofs
set_option linter.unusedSimpArgs false
set_option linter.unusedVariables false

end Go.Proofs.YtfmjmngkgmlghaaDoor

/- Walks: the errors of trains, feeds, moves, wants; opening. -/
namespace Go.Proofs.YtfmjmngkgmlghaaDoor
open Go Go.RowKit Go.Proofs
set_option linter.unusedSimpArgs false
set_option linter.unusedVariables false

end Go.Proofs.YtfmjmngkgmlghaaDoor

/- Walks: opening a track with a train, and with a feed. -/
namespace Go.Proofs.YtfmjmngkgmlghaaDoor
open Go Go.RowKit Go.Proofs
set_option linter.unusedSimpArgs false
set_option linter.unusedVariables false

end Go.Proofs.YtfmjmngkgmlghaaDoor

/- Walks: copies in memory of their own. -/
namespace Go.Proofs.YtfmjmngkgmlghaaDoor
open Go Go.RowKit Go.Proofs
set_option linter.unusedSimpArgs false
set_option linter.unusedVariables false

end Go.Proofs.YtfmjmngkgmlghaaDoor

/- Walks: the iterator of overlaps. -/
namespace Go.Proofs.YtfmjmngkgmlghaaDoor
open Go Go.RowKit Go.Proofs
set_option linter.unusedSimpArgs false
set_option linter.unusedVariables false
attribute [local go_sem] Oper.semAt_some

end Go.Proofs.YtfmjmngkgmlghaaDoor

