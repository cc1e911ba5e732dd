/- Texts of this claim, one behind the other: lemmas for the statement. -/
import Derived.Test.YtgiiedpambimoaaK8
/- Contracts of chapter 5: the fastest squares, where a train stands. No conditions on a program. -/
namespace Go.Proofs.Ytgiiedpambimoaa
open Go Go.RowKit Go.Proofs
set_option linter.unusedSimpArgs false
set_option linter.unusedVariables false
section
variable (nm : ByteArray) (ps : List Piece) (hs : nm.size ≤ 1000000000) (hp : ps.length ≤ 1000000000) (b d v : Int)
include hs hp
end
end Go.Proofs.Ytgiiedpambimoaa

/- Contracts of chapter 5: where a train stands. No conditions on a program. -/
namespace Go.Proofs.Ytgiiedpambimoaa
open Go Go.RowKit Go.Proofs
set_option linter.unusedSimpArgs false
set_option linter.unusedVariables false
theorem Ok.len {ps : List Piece} (h : Ok ps) {i : Nat} (hi : i < ps.length) : 1 ≤ (ps.getD i default).len := by
  have h1 := h (ps.getD i default) (by rw [List.getD_eq_getElem?_getD, List.getElem?_eq_getElem hi, Option.getD_some]; exact List.getElem_mem hi)
  simp only [pieceB, withinB, Bool.and_eq_true, decide_eq_true_eq] at h1
  omega
theorem tdiv_bound {x y : Int} (hx : 0 ≤ x) (hy : 1 ≤ y) : 0 ≤ x.tdiv y ∧ x.tdiv y ≤ x := by
  rw [Int.tdiv_eq_ediv_of_nonneg hx]
  exact ⟨Int.ediv_nonneg hx (by omega), Int.ediv_le_self _ hx⟩
section
variable (nm : ByteArray) (ps : List Piece) (hs : nm.size ≤ 1000000000) (hp : ps.length ≤ 1000000000) (b d v : Int)
include hs hp
end
end Go.Proofs.Ytgiiedpambimoaa

