/- Texts of this claim, one behind the other: lemmas for the statement. -/
import Derived.Test.YtjhcfpdgldpicaaGreatDoorM4
import Derived.Test.YtjhcfpdgldpicaaGreatDoorApp
import Derived.Test.YtjhcfpdgldpicaaGreatDoorRange
set_option linter.unusedSimpArgs false
set_option linter.unusedVariables false
namespace Go.Proofs.YtjhcfpdgldpicaaGreatDoor
open Go Go.RowKit Go.Proofs
attribute [local go_sem] Oper.semAt_some
end Go.Proofs.YtjhcfpdgldpicaaGreatDoor
