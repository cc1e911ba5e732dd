/- Lemmas for the statement. -/
import Derived.Test.YtjhcfpdgldpicaaGreatDoorBox
import Derived.Test.YtjhcfpdgldpicaaGreatDoorApp
namespace Go.Proofs.YtjhcfpdgldpicaaGreatDoor
open Go Go.RowKit
def RowOf (w : World) (row : Option Nat) (e : TypeId) : Prop := ∀ g, row = some g → ∃ cur, w.heap[g]? = some (.cells cur e (0, 0))
theorem Bx.grown {w w' : World} {B : Nat} {t e : TypeId} {cs : Array Value} {row : Option Nat} (h : Bx w B t cs) (hg : w.grownBy w' row) (hr : RowOf w row e) (hne : t ≠ e) : Bx w' B t cs :=
 (hg.block B h.lt fun hs => by
  obtain ⟨cur, hc⟩ := hr B hs.symm
  have h' : w.heap[B]? = some (.cells cs t (0, 0)) := h
  rw [h'] at hc; cases hc; exact hne rfl).trans h
theorem own_grown {w w' : World} {base n k : Nat} {e f : TypeId} {v : Value} {xs : List Value} {row : Option Nat} (h : w.ownsRow base e k v n xs) (hg : w.grownBy w' row) (hr : RowOf w row f) (hne : e ≠ f) : w'.ownsRow base e k v n xs :=
 h.kept hg (by
  rcases h.2 with ⟨rfl, _⟩ | ⟨g', cap, cur, rfl, _, hh, _⟩
  ·exact .inl rfl
  ·refine .inr fun hs => ?_
   obtain ⟨cur', hc⟩ := hr g' hs.symm
   rw [hh] at hc; cases hc; exact hne rfl)
end Go.Proofs.YtjhcfpdgldpicaaGreatDoor
