/- Arguments opened: tracks, trains, lists of numbers. -/
import Derived.Test.YtdbglpaejmhbjaaDoorRow
namespace Go.Proofs.YtdbglpaejmhbjaaDoor
open Go Go.ChangeShapes Go.WideShapes Go.ChangeAt Go.RowKit Go.Joins Go.Deep
set_option linter.unusedSimpArgs false
set_option linter.unusedVariables false

/-- Cells that read as a slice of numbers. -/
theorem ints_of_trod {H : Type} {enc : TypeId × Value → H} {W : World} {fuel : Nat} {c0 : Value} {y : DataW H × List MemPlace} (h : DataW.trod enc Tryd.prog W 0 (fun _ => true) true fuel 40 [c0] = some y) :
    ∃ (a : Option Addr) (n c : Nat) (cs : List Int), c0 = .slice a n c ∧ cs.length = n ∧ Rd W 1 a n (ints cs) := by
  rcases open_ints Tryd.underlying40 Tryd.underlying3 cInt h with ⟨hcs, _⟩ | ⟨a, len, cap, zs, hcs, hb, hl, hm, hlen, hx, hi, hw⟩
  · exact ⟨none, 0, 0, [], by simpa using hcs, rfl, Rd.nil _ _ _⟩
  · have hll : (zs.take len).length = len := by simp at hlen; simp; omega
    refine ⟨some a, len, cap, zs.take len, by simpa using hcs, hll, by rw [ints_length, hll]; omega, fun h0 => ?_⟩
    simp only [if_true] at hlen
    have hc0 := hi 0 (by omega)
    have hsp : a = ⟨a.block, a.off, none⟩ := by
      have := spot_none hc0
      simpa [Addr.add] using this
    rw [hsp] at hi
    refine ⟨a.block, a.off, by rw [hsp], ?_, fun j u hu => ?_⟩
    · have := World.block_lt_of_cell? W _ hc0
      simpa [Addr.add] using this
    · have hj : j < len := by
        have := (List.getElem?_eq_some_iff.1 hu).1
        rw [ints_length, hll] at this; exact this
      have hk : j < (zs.take len).length := by rw [hll]; exact hj
      rw [ints_get hk] at hu
      rw [← Option.some.inj hu]
      have hc := hi j (by omega)
      rw [Addr.add_lit] at hc
      have e : zs.getD j 0 = (zs.take len)[j] := by
        rw [List.getElem_take, List.getD_eq_getElem?_getD, List.getElem?_eq_getElem (by omega)]; rfl
      rw [← e]; exact hc
theorem cTrack : Tryd.prog.cellsOf 42 = 1 := by kernel_rfl
theorem cTrain : Tryd.prog.cellsOf 44 = 2 := by kernel_rfl
theorem cSl : Tryd.prog.cellsOf 40 = 1 := by kernel_rfl
set_option maxRecDepth 100000 in
set_option maxHeartbeats 1000000 in
/-- A track, opened. -/
theorem open_track {H : Type} {enc : TypeId × Value → H} {W : World} {base : Nat} {v : Value} {d : DataW H} {p : List MemPlace} (hv : Value.okWide Tryd.prog W .any base 42 v)
    (h : DataW.Trod enc Tryd.prog W 0 (fun _ => true) true 42 v d p) : ∃ (a : Option Addr) (n c : Nat) (cs : List Int), v = .agg #[.slice a n c] ∧ cs.length = n ∧ Rd W 1 a n (ints cs) := by
  obtain ⟨cs, rfl, hsz⟩ := okWide_struct Tryd.underlying42 hv
  rw [cTrack] at hsz
  obtain ⟨c0, rfl⟩ : ∃ c0, cs = #[c0] := Array.size_eq_one_iff.1 hsz
  obtain ⟨fuel, hf⟩ := h
  obtain ⟨y0, n, hx, _, h0⟩ := trod_struct1 Tryd.underlying42 hf
  obtain ⟨a, n, c, cs, rfl, hl, hr⟩ := ints_of_trod (c0 := c0) (by simpa [Value.cells, cSl] using h0)
  exact ⟨a, n, c, cs, rfl, hl, hr⟩
set_option maxRecDepth 100000 in
set_option maxHeartbeats 1000000 in
/-- A train, opened. -/
theorem open_train {H : Type} {enc : TypeId × Value → H} {W : World} {base : Nat} {v : Value} {d : DataW H} {p : List MemPlace} (hv : Value.okWide Tryd.prog W .any base 44 v)
    (h : DataW.Trod enc Tryd.prog W 0 (fun _ => true) true 44 v d p) : ∃ p q : Int, v = .agg #[.int .i64 p, .int .i64 q] ∧ (Lit.int .i64 p).wf = true ∧ (Lit.int .i64 q).wf = true := by
  obtain ⟨v0, v1, y0, y1, n, rfl, rfl, rfl, h0, h1⟩ := open_agg2 Tryd.underlying44 (by kernel_rfl) cTrain hv h
  obtain ⟨z0, e0, _, w0⟩ := DataW.trod_int Tryd.underlying3 h0
  obtain ⟨z1, e1, _, w1⟩ := DataW.trod_int Tryd.underlying3 h1
  obtain rfl : v0 = .int .i64 z0 := by simpa using e0
  obtain rfl : v1 = .int .i64 z1 := by simpa using e1
  exact ⟨z0, z1, rfl, w0, w1⟩
theorem cThree : Tryd.prog.cellsOf 98 = 3 := by kernel_rfl
set_option maxRecDepth 100000 in
set_option maxHeartbeats 1000000 in
/-- Three numbers, opened. -/
theorem open_p3 {H : Type} {enc : TypeId × Value → H} {W : World} {base : Nat} {v : Value} {d : DataW H} {p : List MemPlace} (hv : Value.okWide Tryd.prog W .any base 98 v)
    (h : DataW.Trod enc Tryd.prog W 0 (fun _ => true) true 98 v d p) : ∃ x : Int × Int × Int, v = .agg #[.int .i64 x.1, .int .i64 x.2.1, .int .i64 x.2.2] := by
  simp only [Value.okWide, Tryd.underlying98] at hv
  obtain ⟨cs, rfl, hsz, _⟩ := hv
  rw [cThree] at hsz
  obtain ⟨fuel, hf⟩ := h
  obtain ⟨xs, m, _, hx, hlen, hxl, hi⟩ := DataW.trod_array Tryd.underlying98 hf
  have each : ∀ i, i < 3 → ∃ z, cs[i]? = some (.int .i64 z) := fun i h3 => by
    have h1 := hi i h3
    rw [cInt] at h1
    have hy : xs[i]? = some (xs[i]'(by omega)) := List.getElem?_eq_getElem _
    rw [hy] at h1
    obtain ⟨z, e, _⟩ := DataW.trod_int Tryd.underlying3 h1
    refine ⟨z, ?_⟩
    have f := congrArg (·[0]?) e
    simpa [List.getElem?_take, List.getElem?_drop, Value.cells] using f
  obtain ⟨z0, h0⟩ := each 0 (by omega)
  obtain ⟨z1, h1⟩ := each 1 (by omega)
  obtain ⟨z2, h2⟩ := each 2 (by omega)
  refine ⟨(z0, z1, z2), ?_⟩
  congr 1
  ext i hi1 hi2
  · simp [hsz]
  · have h3 : i < 3 := by omega
    obtain rfl | rfl | rfl : i = 0 ∨ i = 1 ∨ i = 2 := by omega
    · rw [Array.getElem?_eq_getElem hi1] at h0; simpa using h0
    · rw [Array.getElem?_eq_getElem hi1] at h1; simpa using h1
    · rw [Array.getElem?_eq_getElem hi1] at h2; simpa using h2
end Go.Proofs.YtdbglpaejmhbjaaDoor
