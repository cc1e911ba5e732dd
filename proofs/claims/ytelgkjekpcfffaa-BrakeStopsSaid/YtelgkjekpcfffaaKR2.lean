/- Rows of chapter 5: more arguments opened for the abstract machine. No conditions on a program. -/
import Derived.Test.YtelgkjekpcfffaaKR
namespace Go.Proofs.Ytelgkjekpcfffaa
open Go Go.ChangeShapes Go.WideShapes Go.ChangeAt Go.RowKit Go.Joins Go.Deep
set_option linter.unusedSimpArgs false
set_option linter.unusedVariables false
theorem cRun : Try.prog.cellsOf 42 = 2 := by kernel_rfl
theorem two_ints {W : World} {a b : Int} : R0 (fun _ => False) W (.agg [iA a, iA b]) (.agg #[.int .i64 a, .int .i64 b]) := by
  refine r0_agg (xs := [_, _]) rfl fun i a x ha hx => ?_
  match i, ha, hx with
  | 0, ha, hx => cases ha; cases hx; exact .v _
  | 1, ha, hx => cases ha; cases hx; exact .v _
set_option maxRecDepth 100000 in
set_option maxHeartbeats 1000000 in
theorem run_of_trod {H : Type} {enc : TypeId × Value → H} {W : World} {fuel : Nat} {c0 c1 : Value} {y : DataW H × List MemPlace} (h : DataW.trod enc Try.prog W 0 (fun _ => true) true fuel 42 [c0, c1] = some y) :
    ∃ a b : Int, c0 = .int .i64 a ∧ c1 = .int .i64 b := by
  obtain ⟨y0, y1, n, hx, _, h0, h1⟩ := trod_struct2 Try.underlying42 h
  simp [cInt] at h0 h1
  obtain ⟨z0, e0, _⟩ := DataW.trod_int Try.underlying3 h0
  obtain ⟨z1, e1, _⟩ := DataW.trod_int Try.underlying3 h1
  simp at e0 e1
  exact ⟨z0, z1, e0, e1⟩
set_option maxRecDepth 100000 in
set_option maxHeartbeats 1000000 in
theorem open_run {H : Type} {enc : TypeId × Value → H} {W : World} {base : Nat} {v : Value} {d : DataW H} {p : List MemPlace} (hv : Value.okWide Try.prog W .any base 42 v)
    (h : DataW.Trod enc Try.prog W 0 (fun _ => true) true 42 v d p) : ∃ a b : Int, R0 (fun _ => False) W (.agg [iA a, iA b]) v := by
  obtain ⟨cs, rfl, hsz⟩ := okWide_struct Try.underlying42 hv
  rw [cRun] at hsz
  obtain ⟨c0, c1, rfl⟩ : ∃ c0 c1, cs = #[c0, c1] := by
    obtain ⟨a, b, e⟩ := list2 (l := cs.toList) (by simpa using hsz)
    exact ⟨a, b, by rw [← Array.toArray_toList (xs := cs), e]⟩
  obtain ⟨fuel, hf⟩ := h
  obtain ⟨a, b, rfl, rfl⟩ := run_of_trod (by simpa [Value.cells] using hf)
  exact ⟨a, b, two_ints⟩
end Go.Proofs.Ytelgkjekpcfffaa
