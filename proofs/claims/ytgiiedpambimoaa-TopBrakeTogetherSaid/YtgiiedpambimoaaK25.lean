/- Contracts of chapter 5: which squares can be run; their time. No conditions on a program. -/
import Derived.Test.YtgiiedpambimoaaK24
namespace Go.Proofs.Ytgiiedpambimoaa
open Go Go.RowKit Go.Proofs
set_option linter.unusedSimpArgs false
set_option linter.unusedVariables false
theorem sqs_right {ps : List Piece} {xs : List Int} (h : sqsE ps xs = 0) : xs.length = ps.length + 1 ∧ ∀ j : Nat, 0 ≤ xs.getD j default ∧ xs.getD j default ≤ 20000000000 := by
  unfold sqsE at h
  split at h
  · rename_i hl
    split at h
    · rename_i ha
      refine ⟨hl, fun j => ?_⟩
      by_cases hj : j < xs.length
      · have := ha _ (List.getElem_mem hj)
        rw [List.getD_eq_getElem?_getD, List.getElem?_eq_getElem hj]
        simpa [withinB] using this
      · rw [List.getD_eq_getElem?_getD, List.getElem?_eq_none (by omega)]
        exact ⟨by decide, by decide⟩
    · cases h
  · cases h
/-- A square that cannot be run. -/
def cskB (ps : List Piece) (b v : Int) (xs : List Int) (i : Nat) : Prop := limW ps i < xs.getD i default ∨ (0 < i ∧ ¬ (xs.getD (i - 1) default - losW b (ps.getD (i - 1) default) ≤ xs.getD i default ∧ xs.getD i default ≤ xs.getD (i - 1) default - losW (-v) (ps.getD (i - 1) default)))
instance (ps : List Piece) (b v : Int) (xs : List Int) (i : Nat) : Decidable (cskB ps b v xs i) := by unfold cskB; exact inferInstance
def cskW (ps : List Piece) (b v : Int) (xs : List Int) : Int × Int := match (List.range xs.length).find? fun i => decide (cskB ps b v xs i) with
  | some i => ((i : Int), 24)
  | none => (0, 0)
def cskE (nm : ByteArray) (ps : List Piece) (b d v : Int) (xs : List Int) : Int := firstE [firstE [(chk nm ps).2, sysE b d v], sqsE ps xs]
section
variable (nm : ByteArray) (ps : List Piece) (hs : nm.size ≤ 1000000000) (hp : ps.length ≤ 1000000000) (b d v : Int) (xs : List Int) (hx : xs.length ≤ 1000000000)
include hs hp hx
end
end Go.Proofs.Ytgiiedpambimoaa
