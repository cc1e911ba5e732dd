/- Rows of chapter 5: more arguments opened for the abstract machine. No conditions on a program. -/
import Derived.Test.YtelgkjekpcfffaaKR
namespace Go.Proofs.Ytelgkjekpcfffaa
open Go Go.ChangeShapes Go.WideShapes Go.ChangeAt Go.RowKit Go.Joins Go.Deep
set_option linter.unusedSimpArgs false
set_option linter.unusedVariables false
theorem cRun : Try.prog.cellsOf 42 = 2 := by kernel_rfl
set_option maxRecDepth 100000 in
set_option maxHeartbeats 1000000 in
theorem run_of_trod {H : Type} {enc : TypeId × Value → H} {W : World} {fuel : Nat} {c0 c1 : Value} {y : DataW H × List MemPlace} (h : DataW.trod enc Try.prog W 0 (fun _ => true) true fuel 42 [c0, c1] = some y) :
    ∃ a b : Int, c0 = .int .i64 a ∧ c1 = .int .i64 b := by
  obtain ⟨y0, y1, n, hx, _, h0, h1⟩ := trod_struct2 Try.underlying42 h
  simp [cInt] at h0 h1
  obtain ⟨z0, e0, _⟩ := DataW.trod_int Try.underlying3 h0
  obtain ⟨z1, e1, _⟩ := DataW.trod_int Try.underlying3 h1
  simp at e0 e1
  exact ⟨z0, z1, e0, e1⟩
end Go.Proofs.Ytelgkjekpcfffaa
