/- Rows of chapter 5: more arguments opened for the abstract machine. No conditions on a program. -/
import Derived.Test.YtgiiedpambimoaaKR
namespace Go.Proofs.Ytgiiedpambimoaa
open Go Go.ChangeShapes Go.WideShapes Go.ChangeAt Go.RowKit Go.Joins Go.Deep
set_option linter.unusedSimpArgs false
set_option linter.unusedVariables false
set_option maxRecDepth 100000 in
set_option maxHeartbeats 1000000 in
theorem open_num {H : Type} {enc : TypeId × Value → H} {W : World} {base : Nat} {v : Value} {d : DataW H} {p : List MemPlace} (hv : Value.okWide Try.prog W .any base 3 v)
    (h : DataW.Trod enc Try.prog W 0 (fun _ => true) true 3 v d p) : ∃ z : Int, R0 (fun _ => False) W (iA z) v := by
  obtain ⟨z, rfl, _, _, _⟩ := open_int Try.underlying3 hv h
  exact ⟨z, .v _⟩
theorem cRun : Try.prog.cellsOf 68 = 2 := by kernel_rfl
theorem cEnds : Try.prog.cellsOf 54 = 2 := by kernel_rfl
theorem two_ints {W : World} {a b : Int} : R0 (fun _ => False) W (.agg [iA a, iA b]) (.agg #[.int .i64 a, .int .i64 b]) := by
  refine r0_agg (xs := [_, _]) rfl fun i a x ha hx => ?_
  match i, ha, hx with
  | 0, ha, hx => cases ha; cases hx; exact .v _
  | 1, ha, hx => cases ha; cases hx; exact .v _
set_option maxRecDepth 100000 in
set_option maxHeartbeats 1000000 in
theorem run_of_trod {H : Type} {enc : TypeId × Value → H} {W : World} {fuel : Nat} {c0 c1 : Value} {y : DataW H × List MemPlace} (h : DataW.trod enc Try.prog W 0 (fun _ => true) true fuel 68 [c0, c1] = some y) :
    ∃ a b : Int, c0 = .int .i64 a ∧ c1 = .int .i64 b := by
  obtain ⟨y0, y1, n, hx, _, h0, h1⟩ := trod_struct2 Try.underlying68 h
  simp [cInt] at h0 h1
  obtain ⟨z0, e0, _⟩ := DataW.trod_int Try.underlying3 h0
  obtain ⟨z1, e1, _⟩ := DataW.trod_int Try.underlying3 h1
  simp at e0 e1
  exact ⟨z0, z1, e0, e1⟩
set_option maxRecDepth 100000 in
set_option maxHeartbeats 1000000 in
theorem open_run {H : Type} {enc : TypeId × Value → H} {W : World} {base : Nat} {v : Value} {d : DataW H} {p : List MemPlace} (hv : Value.okWide Try.prog W .any base 68 v)
    (h : DataW.Trod enc Try.prog W 0 (fun _ => true) true 68 v d p) : ∃ a b : Int, R0 (fun _ => False) W (.agg [iA a, iA b]) v := by
  obtain ⟨cs, rfl, hsz⟩ := okWide_struct Try.underlying68 hv
  rw [cRun] at hsz
  obtain ⟨c0, c1, rfl⟩ : ∃ c0 c1, cs = #[c0, c1] := by
    obtain ⟨a, b, e⟩ := list2 (l := cs.toList) (by simpa using hsz)
    exact ⟨a, b, by rw [← Array.toArray_toList (xs := cs), e]⟩
  obtain ⟨fuel, hf⟩ := h
  obtain ⟨a, b, rfl, rfl⟩ := run_of_trod (by simpa [Value.cells] using hf)
  exact ⟨a, b, two_ints⟩
set_option maxRecDepth 100000 in
set_option maxHeartbeats 1000000 in
theorem open_ends {H : Type} {enc : TypeId × Value → H} {W : World} {base : Nat} {v : Value} {d : DataW H} {p : List MemPlace} (hv : Value.okWide Try.prog W .any base 54 v)
    (h : DataW.Trod enc Try.prog W 0 (fun _ => true) true 54 v d p) : ∃ a b : Int, R0 (fun _ => False) W (.agg [iA a, iA b]) v := by
  simp only [Value.okWide, Try.underlying54] at hv
  obtain ⟨cs, rfl, hsz, _⟩ := hv
  rw [cEnds] at hsz
  obtain ⟨c0, c1, rfl⟩ : ∃ c0 c1, cs = #[c0, c1] := by
    obtain ⟨a, b, e⟩ := list2 (l := cs.toList) (by simpa using hsz)
    exact ⟨a, b, by rw [← Array.toArray_toList (xs := cs), e]⟩
  obtain ⟨fuel, hf⟩ := h
  obtain ⟨xs, m, _, hx, hlen, hxl, hi⟩ := DataW.trod_array Try.underlying54 hf
  have each : ∀ i, i < 2 → ∃ z, [c0, c1][i]? = some (.int .i64 z) := fun i h3 => by
    have h1 := hi i h3
    rw [cInt] at h1
    have hy : xs[i]? = some (xs[i]'(by omega)) := List.getElem?_eq_getElem _
    rw [hy] at h1
    obtain ⟨z, e, _⟩ := DataW.trod_int Try.underlying3 h1
    refine ⟨z, ?_⟩
    have f := congrArg (·[0]?) e
    simpa [Value.cells, List.getElem?_take, List.getElem?_drop] using f
  obtain ⟨z0, g0⟩ := each 0 (by omega)
  obtain ⟨z1, g1⟩ := each 1 (by omega)
  simp at g0 g1
  subst g0 g1
  exact ⟨z0, z1, two_ints⟩
end Go.Proofs.Ytgiiedpambimoaa
