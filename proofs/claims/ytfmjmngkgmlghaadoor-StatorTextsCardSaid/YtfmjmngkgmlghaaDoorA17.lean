/- The abstract machine: arrays compared; parts of elements. No conditions on a program. -/
import Derived.Test.YtfmjmngkgmlghaaDoorA16
namespace Go.Proofs.YtfmjmngkgmlghaaDoor
open Go Go.RowKit Go.Proofs
set_option linter.unusedVariables false
set_option linter.unusedSimpArgs false
section
variable {P : Program}
theorem all_mapV {α β : Type} {f : α → List β} {k : Nat} (h : ∀ a, (f a).length = k) {xs : List α} : ∀ l ∈ xs.map f, l.length = k := fun l hl => by
  obtain ⟨q, _, rfl⟩ := List.mem_map.1 hl; exact h q
end
def tV (v : Int × Int) : List Value := [.int .i64 v.1, .int .i64 v.2]
theorem flat_mapV {α : Type} {f : α → List AV} {g : α → List Value} (h : ∀ a, f a = (g a).map AV.v) : ∀ xs : List α, (xs.map f).flatten = ((xs.map g).flatten).map AV.v
  | [] => rfl
  | a :: xs => by simp only [List.map_cons, List.flatten_cons, List.map_append, h, flat_mapV h xs]
section
variable {P : Program} {e : Nat → AV} {mem : List Ob} {d : Option Tmp} {ty t t2 : TypeId} {pos : String} {af : Array Edge} {g : Option (Nat × Bool)} {x y : Operand}
end
end Go.Proofs.YtfmjmngkgmlghaaDoor
