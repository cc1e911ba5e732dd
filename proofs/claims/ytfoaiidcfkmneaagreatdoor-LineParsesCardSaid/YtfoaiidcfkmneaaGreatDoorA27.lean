/- Lemmas for the statement. -/
import Derived.Test.YtfoaiidcfkmneaaGreatDoorM5
import Derived.Test.YtfoaiidcfkmneaaGreatDoorM4
namespace Go.Proofs.YtfoaiidcfkmneaaGreatDoor
open Go Go.RowKit Go.Proofs
set_option linter.unusedSimpArgs false
set_option linter.unusedVariables false
section
variable {P:Program} {N:Nat} {Q:AQ} {e:Nat->AV} {mem:List Ob}
end
end Go.Proofs.YtfoaiidcfkmneaaGreatDoor
