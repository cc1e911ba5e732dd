/- Lemmas for the statement. -/
import Derived.Test.YtjhcfpdgldpicaaGreatDoorA16
namespace Go.Proofs.YtjhcfpdgldpicaaGreatDoor
open Go Go.RowKit Go.Proofs
set_option linter.unusedVariables false
set_option linter.unusedSimpArgs false
section
variable {P : Program}
theorem all_mapV {α β : Type} {f : α → List β} {k : Nat} (h : ∀ a, (f a).length = k) {xs : List α} : ∀ l ∈ xs.map f, l.length = k := fun l hl => by
 obtain ⟨q, _, rfl⟩ := List.mem_map.1 hl; exact h q
end
section
variable {P : Program} {e : Nat → AV} {mem : List Ob} {d : Option Tmp} {ty t t2 : TypeId} {pos : String} {af : Array Edge} {g : Option (Nat × Bool)} {x y : Operand}
end
end Go.Proofs.YtjhcfpdgldpicaaGreatDoor
