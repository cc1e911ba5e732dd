/- Lemmas for the statement. -/
import Derived.Test.YtjhcfpdgldpicaaBox
import Derived.Test.YtjhcfpdgldpicaaApp
namespace Go.Proofs.Ytjhcfpdgldpicaa
open Go Go.RowKit
def RowOf (w : World) (row : Option Nat) (e : TypeId) : Prop := ∀ g, row = some g → ∃ cur, w.heap[g]? = some (.cells cur e (0, 0))
theorem Bx.grown {w w' : World} {B : Nat} {t e : TypeId} {cs : Array Value} {row : Option Nat} (h : Bx w B t cs) (hg : w.grownBy w' row) (hr : RowOf w row e) (hne : t ≠ e) : Bx w' B t cs :=
 (hg.block B h.lt fun hs => by
  obtain ⟨cur, hc⟩ := hr B hs.symm
  have h' : w.heap[B]? = some (.cells cs t (0, 0)) := h
  rw [h'] at hc; cases hc; exact hne rfl).trans h
end Go.Proofs.Ytjhcfpdgldpicaa
