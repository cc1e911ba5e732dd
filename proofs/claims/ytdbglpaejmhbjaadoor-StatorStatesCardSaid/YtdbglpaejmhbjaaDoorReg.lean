/- A slice within a result, as a fact of a drawn region; no conditions on a program. -/
import Derived.Test.YtdbglpaejmhbjaaDoorBox
namespace Go.Proofs.YtdbglpaejmhbjaaDoor
open Go Go.RowKit

/-- A value that holds a slice of n elements of k cells, which reads as this list. -/
def SF.rdW (f : Value → Value) (k n : Nat) (xs : List Value) : SF := ⟨fun v w => ∃ a c, v = f (.slice a n c) ∧ n ≤ c ∧ Rd w k a n xs, none, fun _ _ _ hx ⟨a, c, h, hc, r⟩ => ⟨a, c, h, hc, r.ext hx⟩, fun _ _ _ _ h => by cases h⟩
/-- A call that hands back such a value, and makes new blocks alone. -/
def RetRd (f : Value → Value) (k n : Nat) (xs : List Value) (w : World) (e : Ending) (w' : World) : Prop := ∃ a c, e = .returned (f (.slice a n c)) ∧ n ≤ c ∧ Rd w' k a n xs ∧ Ext w w'
theorem CallTo.rd {P : Program} {g : FuncId} {args : Array Value} {w : World} {f : Value → Value} {k n : Nat} {xs : List Value} (h : Calls P g args w (RetRd f k n xs w)) :
    CallTo P g args w (Post (fun v w' => ∃ a c, v = f (.slice a n c) ∧ n ≤ c ∧ Rd w' k a n xs) w) :=
  h.mono fun _ _ ⟨a, c, he, hc, hr, hx⟩ => ⟨_, he, ⟨a, c, rfl, hc, hr⟩, hx⟩
end Go.Proofs.YtdbglpaejmhbjaaDoor
