/- Rows of chapter 3: numbers, vectors and slices of these opened for the abstract machine. No conditions on a program. -/
import Derived.Test.YtgiiedpambimoaaDoorHR
namespace Go.Proofs.YtgiiedpambimoaaDoor
open Go Go.ChangeShapes Go.WideShapes Go.ChangeAt Go.RowKit Go.Joins Go.Deep
set_option linter.unusedSimpArgs false
set_option linter.unusedVariables false
set_option maxRecDepth 100000 in
set_option maxHeartbeats 1000000 in
theorem open_thirdS {H : Type} {enc : TypeId × Value → H} {W : World} {base : Nat} {v : Value} {d : DataW H} {p : List MemPlace} (hv : Value.okWide Tryd.prog W .any base 24 v)
    (h : DataW.Trod enc Tryd.prog W 0 (fun _ => true) true 24 v d p) : ∃ u : V2, R0 (fun _ => False) W (tA u) v := by
  obtain ⟨cs, rfl, hsz⟩ := okWide_struct Tryd.underlying24 hv
  rw [cTh] at hsz
  obtain ⟨fuel, hf⟩ := h
  obtain ⟨a, h1, _⟩ := each_pair Tryd.underlying24 ⟨rfl, rfl⟩ ⟨rfl, rfl⟩ _ _ _ (by simpa [Value.cells] using hsz) hf
  have h1 : cs.toList = tV a := h1
  refine ⟨a, ?_⟩
  rw [← Array.toArray_toList (xs := cs), h1]
  refine r0_agg (xs := tV a) rfl fun i a' x ha hx => ?_
  match i, ha, hx with
  | 0, ha, hx => cases ha; cases hx; exact .v _
  | 1, ha, hx => cases ha; cases hx; exact .v _
end Go.Proofs.YtgiiedpambimoaaDoor
