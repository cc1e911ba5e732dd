/- Rows of chapter 4: a track of vanes, opened for the abstract machine. No conditions on a program. -/
import Derived.Test.YtgiiedpambimoaaM1
import Derived.Test.YtgiiedpambimoaaQ1
namespace Go.Proofs.Ytgiiedpambimoaa
open Go Go.ChangeShapes Go.WideShapes Go.ChangeAt Go.RowKit Go.Joins Go.Deep
set_option linter.unusedSimpArgs false
set_option linter.unusedVariables false
theorem cVTrack : Try.prog.cellsOf 24 = 9 := by kernel_rfl
theorem cIntsQ : Try.prog.cellsOf 22 = 1 := by kernel_rfl
set_option maxRecDepth 100000 in
set_option maxHeartbeats 1000000 in
theorem open_vtrack {H : Type} {enc : TypeId × Value → H} {W : World} {base : Nat} {v : Value} {d : DataW H} {p : List MemPlace} (hv : Value.okWide Try.prog W .any base 24 v)
    (h : DataW.Trod enc Try.prog W 0 (fun _ => true) true 24 v d p) : ∃ t : Trk, R0 (fun _ => False) W (qA t) v := by
  obtain ⟨cs, rfl, hsz⟩ := okWide_struct Try.underlying24 hv
  rw [cVTrack] at hsz
  have hsz' : cs.toList.length = 9 := by simpa using hsz
  obtain ⟨c0, c1, c2, c3, c4, c5, c6, c7, c8, hc⟩ : ∃ c0 c1 c2 c3 c4 c5 c6 c7 c8, cs.toList = [c0, c1, c2, c3, c4, c5, c6, c7, c8] := by
    generalize cs.toList = l at hsz'
    match l, hsz' with
    | [a, b, c, d, e, f, g, h, i], _ => exact ⟨a, b, c, d, e, f, g, h, i, rfl⟩
  obtain ⟨fuel, hf⟩ := h
  obtain ⟨ys, k, _, _, _, hxl, hfs⟩ := DataW.trod_struct Try.underlying24 hf
  rw [show (Value.agg cs).cells.toList = [c0, c1, c2, c3, c4, c5, c6, c7, c8] from hc] at hfs
  obtain ⟨y0, y1, y2, y3, y4, y5, y6, y7, y8, rfl⟩ : ∃ y0 y1 y2 y3 y4 y5 y6 y7 y8, ys = [y0, y1, y2, y3, y4, y5, y6, y7, y8] := by
    match ys, hxl with
    | [a, b, c, d, e, f, g, h, i], _ => exact ⟨a, b, c, d, e, f, g, h, i, rfl⟩
  have g0 := hfs 0 _ rfl
  have g1 := hfs 1 _ rfl
  have g2 := hfs 2 _ rfl
  have g3 := hfs 3 _ rfl
  have g4 := hfs 4 _ rfl
  have g5 := hfs 5 _ rfl
  have g6 := hfs 6 _ rfl
  have g7 := hfs 7 _ rfl
  have g8 := hfs 8 _ rfl
  simp [cInt, cIntsQ, cBool] at g0 g1 g2 g3 g4 g5 g6 g7 g8
  obtain ⟨xs, hr⟩ := ints_of_trod g0
  obtain ⟨z1, e1, _⟩ := DataW.trod_int Try.underlying3 g1
  obtain ⟨z2, e2, _⟩ := DataW.trod_int Try.underlying3 g2
  obtain ⟨z3, e3, _⟩ := DataW.trod_int Try.underlying3 g3
  obtain ⟨z4, e4, _⟩ := DataW.trod_int Try.underlying3 g4
  obtain ⟨z5, e5, _⟩ := DataW.trod_int Try.underlying3 g5
  obtain ⟨z6, e6, _⟩ := DataW.trod_int Try.underlying3 g6
  obtain ⟨z7, e7, _⟩ := DataW.trod_int Try.underlying3 g7
  obtain ⟨z8, e8, _⟩ := DataW.trod_bool Try.underlying4 g8
  simp at e1 e2 e3 e4 e5 e6 e7 e8
  subst e1 e2 e3 e4 e5 e6 e7 e8
  refine ⟨⟨xs, z1, z2, z3, z4, z5, z6, z7, z8⟩, ?_⟩
  rw [← Array.toArray_toList (xs := cs), hc]
  refine r0_agg (xs := [_, _, _, _, _, _, _, _, _]) rfl fun i a x ha hx => ?_
  match i, ha, hx with
  | 0, ha, hx => cases ha; cases hx; exact hr
  | 1, ha, hx => cases ha; cases hx; exact .v _
  | 2, ha, hx => cases ha; cases hx; exact .v _
  | 3, ha, hx => cases ha; cases hx; exact .v _
  | 4, ha, hx => cases ha; cases hx; exact .v _
  | 5, ha, hx => cases ha; cases hx; exact .v _
  | 6, ha, hx => cases ha; cases hx; exact .v _
  | 7, ha, hx => cases ha; cases hx; exact .v _
  | 8, ha, hx => cases ha; cases hx; exact .v _
end Go.Proofs.Ytgiiedpambimoaa
