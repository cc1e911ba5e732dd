/- Rows of chapter 3: numbers, vectors and slices of these opened for the abstract machine. No conditions on a program. -/
import Derived.Test.YtgiiedpambimoaaDoorHR
namespace Go.Proofs.YtgiiedpambimoaaDoor
open Go Go.ChangeShapes Go.WideShapes Go.ChangeAt Go.RowKit Go.Joins Go.Deep
set_option linter.unusedSimpArgs false
set_option linter.unusedVariables false
set_option maxRecDepth 100000 in
set_option maxHeartbeats 1000000 in
theorem open_numS {H : Type} {enc : TypeId × Value → H} {W : World} {base : Nat} {v : Value} {d : DataW H} {p : List MemPlace} (hv : Value.okWide Tryd.prog W .any base 3 v)
    (h : DataW.Trod enc Tryd.prog W 0 (fun _ => true) true 3 v d p) : ∃ z : Int, R0 (fun _ => False) W (nA z) v := by
  obtain ⟨z, rfl, _, _, _⟩ := open_int Tryd.underlying3 hv h
  exact ⟨z, .v _⟩
set_option maxRecDepth 100000 in
set_option maxHeartbeats 1000000 in
theorem open_thirdS {H : Type} {enc : TypeId × Value → H} {W : World} {base : Nat} {v : Value} {d : DataW H} {p : List MemPlace} (hv : Value.okWide Tryd.prog W .any base 24 v)
    (h : DataW.Trod enc Tryd.prog W 0 (fun _ => true) true 24 v d p) : ∃ u : V2, R0 (fun _ => False) W (tA u) v := by
  obtain ⟨cs, rfl, hsz⟩ := okWide_struct Tryd.underlying24 hv
  rw [cTh] at hsz
  obtain ⟨fuel, hf⟩ := h
  obtain ⟨a, h1, _⟩ := each_pair Tryd.underlying24 ⟨rfl, rfl⟩ ⟨rfl, rfl⟩ _ _ _ (by simpa [Value.cells] using hsz) hf
  have h1 : cs.toList = tV a := h1
  refine ⟨a, ?_⟩
  rw [← Array.toArray_toList (xs := cs), h1]
  refine r0_agg (xs := tV a) rfl fun i a' x ha hx => ?_
  match i, ha, hx with
  | 0, ha, hx => cases ha; cases hx; exact .v _
  | 1, ha, hx => cases ha; cases hx; exact .v _
set_option maxRecDepth 100000 in
set_option maxHeartbeats 1000000 in
theorem vectors_of_trod {H : Type} {enc : TypeId × Value → H} {W : World} {fuel : Nat} {c0 : Value} {y : DataW H × List MemPlace} (h : DataW.trod enc Tryd.prog W 0 (fun _ => true) true fuel 43 [c0] = some y) :
    ∃ xs : List V2, R0 (fun _ => False) W (.row 2 (xs.map tE)) c0 := by
  obtain ⟨a, n, c, l, e, hl, hc, hr⟩ := rd_of_trod (k := 2) tV (fun _ => rfl) (by omega) Tryd.underlying43 cTh (fun fuel cs x hlen hx => by
    obtain ⟨z0, e0, _⟩ := each_pair Tryd.underlying24 ⟨rfl, rfl⟩ ⟨rfl, rfl⟩ _ _ _ hlen hx
    exact ⟨z0, e0⟩) h
  subst e
  exact ⟨l, r0_row (f := tV) (g := tE) (k := 2) (fun _ => rfl) (fun _ => rfl) (fun _ h => h) hl hc hr⟩
set_option maxRecDepth 100000 in
set_option maxHeartbeats 1000000 in
theorem open_vectorsS {H : Type} {enc : TypeId × Value → H} {W : World} {base : Nat} {v : Value} {d : DataW H} {p : List MemPlace} (hv : Value.okWide Tryd.prog W .any base 43 v)
    (h : DataW.Trod enc Tryd.prog W 0 (fun _ => true) true 43 v d p) : ∃ xs : List V2, R0 (fun _ => False) W (.row 2 (xs.map tE)) v := by
  obtain ⟨a, n, c, rfl⟩ := okWide_slice Tryd.underlying43 hv
  obtain ⟨fuel, hf⟩ := h
  exact vectors_of_trod hf
end Go.Proofs.YtgiiedpambimoaaDoor
