/- Texts of this claim, one behind the other: lemmas for the statement. -/
import Derived.Test.YtjhcfpdgldpicaaGreatDoorM3
import Derived.Test.YtjhcfpdgldpicaaGreatDoorProg
import Derived.Test.YtjhcfpdgldpicaaGreatDoorLib
import Derived.Test.YtjhcfpdgldpicaaGreatDoorBox
import Derived.Deep.QuietTactic
import Derived.BigQuiet
import Derived.KernelRfl
import Derived.Lib.Hide
set_option linter.unusedSimpArgs false
set_option linter.unusedVariables false
namespace Go.Proofs.YtjhcfpdgldpicaaGreatDoor
open Go Go.RowKit Go.Proofs
abbrev T2 := Int × Int
def idx {α : Type} (p : α → Bool) : List α → Nat → Int
 | [], _ => -1
 | x :: l, k => if p x then (k : Int) else idx p l (k + 1)
theorem hcf (g : Nat) (h : ∀ (args : Array Value) (w : World), (callFunc g args).run Tryz.prog w = .ok (.enter g args) w) : ∀ (args : Array Value) (w : World), (callFunc g args).run Tryz.prog w = .ok (.enter g args) w := h
end Go.Proofs.YtjhcfpdgldpicaaGreatDoor
