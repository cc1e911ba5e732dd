/- Rows of chapter 3: a change, two numbers, opened for the abstract machine. No conditions on a program. -/
import Derived.Test.YtgiiedpambimoaaDoorHR2
namespace Go.Proofs.YtgiiedpambimoaaDoor
open Go Go.ChangeShapes Go.WideShapes Go.ChangeAt Go.RowKit Go.Joins Go.Deep
set_option linter.unusedSimpArgs false
set_option linter.unusedVariables false
theorem cChange : Tryd.prog.cellsOf 57 = 5 := by kernel_rfl
theorem cTwo : Tryd.prog.cellsOf 58 = 2 := by kernel_rfl
set_option maxRecDepth 100000 in
set_option maxHeartbeats 1000000 in
theorem open_change {H : Type} {enc : TypeId × Value → H} {W : World} {base : Nat} {v : Value} {d : DataW H} {p : List MemPlace} (hv : Value.okWide Tryd.prog W .any base 57 v)
    (h : DataW.Trod enc Tryd.prog W 0 (fun _ => true) true 57 v d p) : ∃ (a b : V2) (z : Int), R0 (fun _ => False) W (.agg [nA a.1, nA a.2, nA b.1, nA b.2, nA z]) v := by
  obtain ⟨cs, rfl, hsz⟩ := okWide_struct Tryd.underlying57 hv
  rw [cChange] at hsz
  have hsz' : cs.toList.length = 5 := by simpa using hsz
  obtain ⟨c0, c1, c2, c3, c4, hc⟩ : ∃ c0 c1 c2 c3 c4, cs.toList = [c0, c1, c2, c3, c4] := by
    generalize cs.toList = l at hsz'
    match l, hsz' with
    | [a, b, c, d, e], _ => exact ⟨a, b, c, d, e, rfl⟩
  obtain ⟨fuel, hf⟩ := h
  obtain ⟨y0, y1, y2, n, hx, _, h0, h1, h2⟩ := trod_struct3 Tryd.underlying57 hf
  rw [show (Value.agg cs).cells.toList = [c0, c1, c2, c3, c4] from hc] at h0 h1 h2
  simp [cInt, cTh] at h0 h1 h2
  obtain ⟨a, e0, _⟩ := each_pair Tryd.underlying24 ⟨rfl, rfl⟩ ⟨rfl, rfl⟩ _ _ _ rfl h0
  obtain ⟨b, e1, _⟩ := each_pair Tryd.underlying24 ⟨rfl, rfl⟩ ⟨rfl, rfl⟩ _ _ _ rfl h1
  obtain ⟨z, e2, _⟩ := DataW.trod_int Tryd.underlying3 h2
  simp [tV] at e0 e1 e2
  obtain ⟨rfl, rfl⟩ := e0
  obtain ⟨rfl, rfl⟩ := e1
  subst e2
  refine ⟨a, b, z, ?_⟩
  rw [← Array.toArray_toList (xs := cs), hc]
  refine r0_agg (xs := [_, _, _, _, _]) rfl fun i a' x ha hx => ?_
  match i, ha, hx with
  | 0, ha, hx => cases ha; cases hx; exact .v _
  | 1, ha, hx => cases ha; cases hx; exact .v _
  | 2, ha, hx => cases ha; cases hx; exact .v _
  | 3, ha, hx => cases ha; cases hx; exact .v _
  | 4, ha, hx => cases ha; cases hx; exact .v _
set_option maxRecDepth 100000 in
set_option maxHeartbeats 1000000 in
theorem open_two {H : Type} {enc : TypeId × Value → H} {W : World} {base : Nat} {v : Value} {d : DataW H} {p : List MemPlace} (hv : Value.okWide Tryd.prog W .any base 58 v)
    (h : DataW.Trod enc Tryd.prog W 0 (fun _ => true) true 58 v d p) : ∃ a b : Int, R0 (fun _ => False) W (.agg [nA a, nA b]) v := by
  simp only [Value.okWide, Tryd.underlying58] at hv
  obtain ⟨cs, rfl, hsz, _⟩ := hv
  obtain ⟨fuel, hf⟩ := h
  obtain ⟨xs, h1, h2, _⟩ := arr_of_trod (k := 1) iV dI (fun _ => rfl) (by omega) Tryd.underlying58 cInt cTwo each_int hf
  have h2 : cs.toList = (xs.map iV).flatten := h2
  obtain ⟨a, b, rfl⟩ := list2 h1
  refine ⟨a, b, ?_⟩
  rw [← Array.toArray_toList (xs := cs), h2]
  exact r0_flat (f := iV) (g := iE) (fun _ => rfl) [a, b]
end Go.Proofs.YtgiiedpambimoaaDoor
