/- Rows of chapter 5: two ends, squares and a number, opened for the abstract machine. No conditions on a program. -/
import Derived.Test.YtgiiedpambimoaaKR2
import Derived.Test.YtgiiedpambimoaaKR3
namespace Go.Proofs.Ytgiiedpambimoaa
open Go Go.ChangeShapes Go.WideShapes Go.ChangeAt Go.RowKit Go.Joins Go.Deep
set_option linter.unusedSimpArgs false
set_option linter.unusedVariables false
theorem cRace : Try.prog.cellsOf 56 = 4 := by kernel_rfl
theorem cInts : Try.prog.cellsOf 22 = 1 := by kernel_rfl
set_option maxRecDepth 100000 in
set_option maxHeartbeats 1000000 in
theorem ends_of_trod {H : Type} {enc : TypeId × Value → H} {W : World} {fuel : Nat} {c0 c1 : Value} {y : DataW H × List MemPlace} (hf : DataW.trod enc Try.prog W 0 (fun _ => true) true fuel 54 [c0, c1] = some y) :
    ∃ a b : Int, c0 = .int .i64 a ∧ c1 = .int .i64 b := by
  obtain ⟨xs, m, _, hx, hlen, hxl, hi⟩ := DataW.trod_array Try.underlying54 hf
  have each : ∀ i, i < 2 → ∃ z, [c0, c1][i]? = some (.int .i64 z) := fun i h3 => by
    have h1 := hi i h3
    rw [cInt] at h1
    have hy : xs[i]? = some (xs[i]'(by omega)) := List.getElem?_eq_getElem _
    rw [hy] at h1
    obtain ⟨z, e, _⟩ := DataW.trod_int Try.underlying3 h1
    refine ⟨z, ?_⟩
    have f := congrArg (·[0]?) e
    simpa [Value.cells, List.getElem?_take, List.getElem?_drop] using f
  obtain ⟨z0, g0⟩ := each 0 (by omega)
  obtain ⟨z1, g1⟩ := each 1 (by omega)
  simp at g0 g1
  exact ⟨z0, z1, g0, g1⟩
set_option maxRecDepth 100000 in
set_option maxHeartbeats 1000000 in
theorem open_race {H : Type} {enc : TypeId × Value → H} {W : World} {base : Nat} {v : Value} {d : DataW H} {p : List MemPlace} (hv : Value.okWide Try.prog W .any base 56 v)
    (h : DataW.Trod enc Try.prog W 0 (fun _ => true) true 56 v d p) : ∃ (a b : Int) (xs : List Int) (c : Int), R0 (fun _ => False) W (.agg [iA a, iA b, .row 1 (xs.map iE), iA c]) v := by
  obtain ⟨cs, rfl, hsz⟩ := okWide_struct Try.underlying56 hv
  rw [cRace] at hsz
  obtain ⟨c0, c1, c2, c3, rfl⟩ : ∃ c0 c1 c2 c3, cs = #[c0, c1, c2, c3] := by
    obtain ⟨a, b, c, d, e⟩ := list4 (l := cs.toList) (by simpa using hsz)
    exact ⟨a, b, c, d, by rw [← Array.toArray_toList (xs := cs), e]⟩
  obtain ⟨fuel, hf⟩ := h
  obtain ⟨y0, y1, y2, n, hx, _, h0, h1, h2⟩ := trod_struct3 Try.underlying56 hf
  simp [Value.cells, cInt, cEnds, cInts] at h0 h1 h2
  obtain ⟨a, b, rfl, rfl⟩ := ends_of_trod h0
  obtain ⟨xs, hr⟩ := ints_of_trod h1
  obtain ⟨z, e1, _⟩ := DataW.trod_int Try.underlying3 h2
  simp at e1
  subst e1
  refine ⟨a, b, xs, z, r0_agg (xs := [_, _, _, _]) rfl fun i a x ha hx => ?_⟩
  match i, ha, hx with
  | 0, ha, hx => cases ha; cases hx; exact .v _
  | 1, ha, hx => cases ha; cases hx; exact .v _
  | 2, ha, hx => cases ha; cases hx; exact hr
  | 3, ha, hx => cases ha; cases hx; exact .v _
end Go.Proofs.Ytgiiedpambimoaa
