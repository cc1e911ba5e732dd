/- Rows of chapter 5: a state and a track, opened for the abstract machine. No conditions on a program. -/
import Derived.Test.YtelgkjekpcfffaaKR2
namespace Go.Proofs.Ytelgkjekpcfffaa
open Go Go.ChangeShapes Go.WideShapes Go.ChangeAt Go.RowKit Go.Joins Go.Deep
set_option linter.unusedSimpArgs false
set_option linter.unusedVariables false
theorem cMore : Try.prog.cellsOf 72 = 4 := by kernel_rfl
set_option maxRecDepth 100000 in
set_option maxHeartbeats 1000000 in
theorem open_more {H : Type} {enc : TypeId × Value → H} {W : World} {base : Nat} {v : Value} {d : DataW H} {p : List MemPlace} (hv : Value.okWide Try.prog W .any base 72 v)
    (h : DataW.Trod enc Try.prog W 0 (fun _ => true) true 72 v d p) : ∃ (a b : Int) (nb : ByteArray) (qs : List Piece), R0 (fun _ => False) W (.agg [iA a, iA b, .v (.string nb), .row 4 (qs.map pE)]) v := by
  obtain ⟨cs, rfl, hsz⟩ := okWide_struct Try.underlying72 hv
  rw [cMore] at hsz
  obtain ⟨c0, c1, c2, c3, rfl⟩ : ∃ c0 c1 c2 c3, cs = #[c0, c1, c2, c3] := by
    obtain ⟨a, b, c, d, e⟩ := list4 (l := cs.toList) (by simpa using hsz)
    exact ⟨a, b, c, d, by rw [← Array.toArray_toList (xs := cs), e]⟩
  obtain ⟨fuel, hf⟩ := h
  obtain ⟨y0, y1, n, hx, _, h0, h1⟩ := trod_struct2 Try.underlying72 hf
  simp [Value.cells, cRun, cTrack] at h0 h1
  obtain ⟨a, b, rfl, rfl⟩ := run_of_trod h0
  obtain ⟨z0, z1, m, hx', _, g0, g1⟩ := trod_struct2 Try.underlying24 h1
  simp [Value.cells, cStr, cPs] at g0 g1
  obtain ⟨s, e0, _⟩ := DataW.trod_string Try.underlying9 g0
  simp at e0
  subst e0
  obtain ⟨qs, hr⟩ := ps_of_trod g1
  refine ⟨a, b, s, qs, r0_agg (xs := [_, _, _, _]) rfl fun i a x ha hx => ?_⟩
  match i, ha, hx with
  | 0, ha, hx => cases ha; cases hx; exact .v _
  | 1, ha, hx => cases ha; cases hx; exact .v _
  | 2, ha, hx => cases ha; cases hx; exact .v _
  | 3, ha, hx => cases ha; cases hx; exact hr
end Go.Proofs.Ytelgkjekpcfffaa
