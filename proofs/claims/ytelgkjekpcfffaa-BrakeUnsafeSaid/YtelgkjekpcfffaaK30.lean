/- Contracts of chapter 5: the document's errors of stops and states. No conditions on a program. -/
import Derived.Test.YtelgkjekpcfffaaK12
namespace Go.Proofs.Ytelgkjekpcfffaa
open Go Go.RowKit Go.Proofs
set_option linter.unusedSimpArgs false
set_option linter.unusedVariables false
theorem firstE_two (a b : Int) : firstE [a, b] = if a = 0 then b else a := by
  simp only [firstE]
  by_cases h : a = 0
  · rw [if_pos h, if_pos h]; split <;> simp_all
  · rw [if_neg h, if_neg h]
end Go.Proofs.Ytelgkjekpcfffaa
