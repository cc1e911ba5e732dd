/- Rows on texts of vectors: what the six variables hold; a vector, opened. No conditions on a program. -/
import Derived.Test.YtfmjmngkgmlghaaDoorHX
import Derived.Test.YtfmjmngkgmlghaaDoorM1
namespace Go.Proofs.YtfmjmngkgmlghaaDoor
open Go Go.ChangeShapes Go.WideShapes Go.ChangeAt Go.RowKit Go.Joins Go.Deep
set_option linter.unusedSimpArgs false
set_option linter.unusedVariables false
set_option maxRecDepth 100000 in
set_option maxHeartbeats 1000000 in
theorem globXT_of {W : World} (h : laidMetH Tryd.prog [("math/bits.deBruijn32tab", Rows.laid_math_bits_deBruijn32tab), ("math/bits.deBruijn64tab", Rows.laid_math_bits_deBruijn64tab), ("internal/strconv.uint64pow10", Rows.laid_internal_strconv_uint64pow10), ("strconv.ErrRange", Rows.laid_strconv_ErrRange), ("strconv.ErrSyntax", Rows.laid_strconv_ErrSyntax), ("guideway/stator.states", Rows.laid_guideway_stator_states)] W) :
    ∃ es er, isE es ∧ isE er ∧ GlobR (fun _ => False) W (gX es er ++ gT) := by
  obtain ⟨ps, ⟨g1, t1, cs1, fuel1, p1, q1, hg1, ht1, hvar1, hd1, ⟨g2, t2, cs2, fuel2, p2, q2, hg2, ht2, hvar2, hd2, ⟨g3, t3, cs3, fuel3, p3, q3, hg3, ht3, hvar3, hd3, ⟨g4, t4, cs4, fuel4, p4, q4, hg4, ht4, hvar4, hd4, ⟨g5, t5, cs5, fuel5, p5, q5, hg5, ht5, hvar5, hd5, ⟨g6, t6, cs6, fuel6, p6, q6, hg6, ht6, hvar6, hd6, _, _⟩, _⟩, _⟩, _⟩, _⟩, _⟩, _⟩ := h
  obtain rfl : 2 = g3 := Option.some.inj ((show Tryd.prog.globalNamed "internal/strconv.uint64pow10" = some 2 by kernel_rfl).symm.trans hg3)
  obtain rfl : 4 = g4 := Option.some.inj ((show Tryd.prog.globalNamed "strconv.ErrRange" = some 4 by kernel_rfl).symm.trans hg4)
  obtain rfl : 3 = g5 := Option.some.inj ((show Tryd.prog.globalNamed "strconv.ErrSyntax" = some 3 by kernel_rfl).symm.trans hg5)
  obtain rfl : 0 = g6 := Option.some.inj ((show Tryd.prog.globalNamed "guideway/stator.states" = some 0 by kernel_rfl).symm.trans hg6)
  obtain ⟨er, r1, r2⟩ := glob_err (T := 105) hg4 (by kernel_rfl) (by kernel_rfl) ht4 hvar4 hd4
  obtain ⟨es, s1, s2⟩ := glob_err (T := 105) hg5 (by kernel_rfl) (by kernel_rfl) ht5 hvar5 hd5
  refine ⟨es, er, s1, r1, fun x hx => ?_⟩
  rcases List.mem_append.1 hx with hx | hx
  · unfold gX at hx
    rcases List.mem_cons.1 hx with rfl | hx
    · exact glob_pow ht3 hvar3 hd3
    rcases List.mem_cons.1 hx with rfl | hx
    · exact r2
    rcases List.mem_cons.1 hx with rfl | hx
    · exact s2
    · cases hx
  · obtain rfl : x = (0, (stA.map tE).flatten) := by simpa [gT] using hx
    exact glob_states ht6 hvar6 hd6
set_option maxRecDepth 100000 in
set_option maxHeartbeats 1000000 in
theorem open_thirdB {H : Type} {enc : TypeId × Value → H} {W : World} {base : Nat} {v : Value} {d : DataW H} {p : List MemPlace} (hv : Value.okWide Tryd.prog W .any base 23 v)
    (h : DataW.Trod enc Tryd.prog W 0 (fun _ => true) true 23 v d p) : ∃ u : V2, In64 u.1 ∧ In64 u.2 ∧ R0 (fun _ => False) W (tA u) v := by
  obtain ⟨cs, rfl, hsz⟩ := okWide_struct Tryd.underlying23 hv
  rw [cTh] at hsz
  obtain ⟨c0, c1, rfl⟩ : ∃ c0 c1, cs = #[c0, c1] := by
    obtain ⟨a, b, e⟩ := list2 (l := cs.toList) (by simpa using hsz)
    exact ⟨a, b, by rw [← Array.toArray_toList (xs := cs), e]⟩
  obtain ⟨fuel, hf⟩ := h
  obtain ⟨y0, y1, n, hx, _, h0, h1⟩ := trod_struct2 Tryd.underlying23 hf
  simp [Value.cells, cInt] at h0 h1
  obtain ⟨z0, e0, _, w0⟩ := DataW.trod_int Tryd.underlying3 h0
  obtain ⟨z1, e1, _, w1⟩ := DataW.trod_int Tryd.underlying3 h1
  simp at e0 e1
  subst e0 e1
  exact ⟨(z0, z1), in64_wf w0, in64_wf w1, two_ints⟩
end Go.Proofs.YtfmjmngkgmlghaaDoor
