/- Cells of lists, element by element; parts of boxes. No conditions on a program. -/
import Derived.Test.YtgiiedpambimoaaDoorOwn
namespace Go.Proofs.YtgiiedpambimoaaDoor
open Go Go.RowKit

/-- A part of a box reads as a slice. -/
theorem Bx.part {w : World} {B : Nat} {t : TypeId} {cs : Array Value} (h : Bx w B t cs) (k n o : Nat) (xs : List Value) (hx : ∀ j u, xs[j]? = some u → cs[o + j]? = some u) (hn : xs.length = n * k) : Rd w k (some ⟨B, o, none⟩) n xs :=
  ⟨hn, fun _ => ⟨B, o, rfl, h.lt, fun j u hu => (h.cell (o + j)).trans (hx j u hu)⟩⟩

end Go.Proofs.YtgiiedpambimoaaDoor
