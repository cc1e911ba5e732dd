/- Contracts of chapter 5: which squares can be run; their time. No conditions on a program. -/
import Derived.Test.YtelgkjekpcfffaaK24
namespace Go.Proofs.Ytelgkjekpcfffaa
open Go Go.RowKit Go.Proofs
set_option linter.unusedSimpArgs false
set_option linter.unusedVariables false
/-- A square that cannot be run. -/
def cskB (ps : List Piece) (b v : Int) (xs : List Int) (i : Nat) : Prop := limW ps i < xs.getD i default ∨ (0 < i ∧ ¬ (xs.getD (i - 1) default - losW b (ps.getD (i - 1) default) ≤ xs.getD i default ∧ xs.getD i default ≤ xs.getD (i - 1) default - losW (-v) (ps.getD (i - 1) default)))
instance (ps : List Piece) (b v : Int) (xs : List Int) (i : Nat) : Decidable (cskB ps b v xs i) := by unfold cskB; exact inferInstance
section
variable (nm : ByteArray) (ps : List Piece) (hs : nm.size ≤ 1000000000) (hp : ps.length ≤ 1000000000) (b d v : Int) (xs : List Int) (hx : xs.length ≤ 1000000000)
include hs hp hx
end
end Go.Proofs.Ytelgkjekpcfffaa
