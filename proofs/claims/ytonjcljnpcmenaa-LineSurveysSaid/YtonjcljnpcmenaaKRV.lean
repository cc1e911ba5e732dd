/- Rows of chapter 1: a survey, opened for the abstract machine. No conditions on a program. -/
import Derived.Test.YtonjcljnpcmenaaKRY
namespace Go.Proofs.Ytonjcljnpcmenaa
open Go Go.ChangeShapes Go.WideShapes Go.ChangeAt Go.RowKit Go.Joins Go.Deep
set_option linter.unusedSimpArgs false
set_option linter.unusedVariables false
theorem cRng : Try.prog.cellsOf 39 = 2 := by kernel_rfl
theorem cSvy : Try.prog.cellsOf 61 = 4 := by kernel_rfl
set_option maxRecDepth 100000 in
set_option maxHeartbeats 1000000 in
theorem rng_of_trod {H : Type} {enc : TypeId × Value → H} {W : World} {fuel : Nat} {c0 c1 : Value} {y : DataW H × List MemPlace} (h : DataW.trod enc Try.prog W 0 (fun _ => true) true fuel 39 [c0, c1] = some y) :
    ∃ a b : Int, c0 = .int .i64 a ∧ c1 = .int .i64 b := by
  obtain ⟨y0, y1, n, hx, _, h0, h1⟩ := trod_struct2 Try.underlying39 h
  simp [cInt] at h0 h1
  obtain ⟨z0, e0, _⟩ := DataW.trod_int Try.underlying3 h0
  obtain ⟨z1, e1, _⟩ := DataW.trod_int Try.underlying3 h1
  simp at e0 e1
  exact ⟨z0, z1, e0, e1⟩
set_option maxRecDepth 100000 in
set_option maxHeartbeats 1000000 in
/-- A survey, opened. -/
theorem open_survey {H : Type} {enc : TypeId × Value → H} {W : World} {base : Nat} {v : Value} {d : DataW H} {p : List MemPlace} (hv : Value.okWide Try.prog W .any base 61 v)
    (h : DataW.Trod enc Try.prog W 0 (fun _ => true) true 61 v d p) : ∃ n a b y : Int, R0 (fun _ => False) W (.agg [.v (.int .i64 n), .v (.int .i64 a), .v (.int .i64 b), .v (.int .i64 y)]) v := by
  obtain ⟨cs, rfl, hsz⟩ := okWide_struct Try.underlying61 hv
  rw [cSvy] at hsz
  obtain ⟨c0, c1, c2, c3, rfl⟩ : ∃ c0 c1 c2 c3, cs = #[c0, c1, c2, c3] := by
    obtain ⟨a, b, c, d, e⟩ := list4 (l := cs.toList) (by simpa using hsz)
    exact ⟨a, b, c, d, by rw [← Array.toArray_toList (xs := cs), e]⟩
  obtain ⟨fuel, hf⟩ := h
  obtain ⟨y0, y1, y2, n, hx, _, h0, h1, h2⟩ := trod_struct3 Try.underlying61 hf
  simp [Value.cells, cInt, cRng] at h0 h1 h2
  obtain ⟨z0, e0, _⟩ := DataW.trod_int Try.underlying3 h0
  obtain ⟨a, b, rfl, rfl⟩ := rng_of_trod h1
  obtain ⟨z2, e2, _⟩ := DataW.trod_int Try.underlying3 h2
  simp at e0 e2
  subst e0 e2
  refine ⟨z0, a, b, z2, r0_agg (xs := [_, _, _, _]) rfl fun i a x ha hx => ?_⟩
  match i, ha, hx with
  | 0, ha, hx => cases ha; cases hx; exact .v _
  | 1, ha, hx => cases ha; cases hx; exact .v _
  | 2, ha, hx => cases ha; cases hx; exact .v _
  | 3, ha, hx => cases ha; cases hx; exact .v _
end Go.Proofs.Ytonjcljnpcmenaa
