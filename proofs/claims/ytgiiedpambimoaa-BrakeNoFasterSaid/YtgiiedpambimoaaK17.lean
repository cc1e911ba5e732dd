/- The law of chapter 5 on the fastest squares. No conditions on a program. -/
import Derived.Test.YtgiiedpambimoaaK14
namespace Go.Proofs.Ytgiiedpambimoaa
open Go Go.RowKit Go.Proofs
set_option linter.unusedSimpArgs false
set_option linter.unusedVariables false

theorem bwD_none {ps : List Piece} {b sq : Int} {post k : Nat} (h : bwD ps b sq post k = -1) : ∀ m, bwD ps b sq post (k + m) = -1
  | 0 => h
  | m + 1 => by
    have := bwD_none h m
    show bwD ps b sq post (k + m + 1) = -1
    simp only [bwD]
    rw [if_pos this]
abbrev sqF (ps : List Piece) (e1 : Int) : Int := min e1 ((liW ps (ps.length + 1)).getD ps.length default)
theorem fasM_none {ps : List Piece} {b e1 : Int} {i : Nat} (hi : i ≤ ps.length) (h : bwD ps b (sqF ps e1) ps.length (ps.length - i) = -1) : (fasM ps b e1).getD 0 default = -1 := by
  unfold fasM
  rw [bwL_at ps b _ (Nat.zero_le _), Nat.sub_zero]
  have := bwD_none h i
  rwa [show ps.length - i + i = ps.length by omega] at this
theorem fasW_two (ps : List Piece) (b v e0 e1 : Int) : (fasW ps b v e0 e1).2 = 0 ∧ (fasW ps b v e0 e1).1.length ≤ ps.length + 1 ∨ (fasW ps b v e0 e1).2 = 12 ∧ (fasW ps b v e0 e1).1 = [] := by
  unfold fasW
  split
  · exact .inr ⟨rfl, rfl⟩
  · split
    · exact .inr ⟨rfl, rfl⟩
    · rename_i l hl; have := goL_len hl; exact .inl ⟨rfl, by simp only; omega⟩
theorem fasE_d (nm : ByteArray) (ps : List Piece) (b d v e0 e1 : Int) : fasE nm ps b d v e0 e1 = if firstE [(chk nm ps).2, sysE b d v] = 0 ∧ ¬ (withinB e0 0 20000000000 = true ∧ withinB e1 0 20000000000 = true) then 2 else firstE [(chk nm ps).2, sysE b d v] := by
  have h : fasE nm ps b d v e0 e1 = firstE [firstE [(chk nm ps).2, sysE b d v], unlessE (withinB e0 0 20000000000 && withinB e1 0 20000000000) 2] := rfl
  rw [h, firstE_two]
  by_cases h1 : firstE [(chk nm ps).2, sysE b d v] = 0
  · rw [if_pos h1]
    cases h2 : withinB e0 0 20000000000 <;> cases h3 : withinB e1 0 20000000000 <;> simp [h1, unlessE]
  · rw [if_neg h1, if_neg (fun q => h1 q.1)]
end Go.Proofs.Ytgiiedpambimoaa
