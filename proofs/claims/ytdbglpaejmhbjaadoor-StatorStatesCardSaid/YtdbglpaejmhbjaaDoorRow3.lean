/- Arguments opened: feeds. -/
import Derived.Test.YtdbglpaejmhbjaaDoorRow2
namespace Go.Proofs.YtdbglpaejmhbjaaDoor
open Go Go.ChangeShapes Go.WideShapes Go.ChangeAt Go.RowKit Go.Joins Go.Deep
set_option linter.unusedSimpArgs false
set_option linter.unusedVariables false

theorem vectors_of_trod {H : Type} {enc : TypeId × Value → H} {W : World} {fuel : Nat} {c0 : Value} {y : DataW H × List MemPlace} (h : DataW.trod enc Tryd.prog W 0 (fun _ => true) true fuel 22 [c0] = some y) :
    ∃ (a : Option Addr) (n c : Nat) (cs : List T2), c0 = .slice a n c ∧ cs.length = n ∧ Rd W 2 a n (cells2 cs) := by
  rcases open_slice_pairs Tryd.underlying22 Tryd.underlying24 cThird rfl rfl cInt cInt h with ⟨hcs, _⟩ | ⟨a, len, cap, m, n, V0, V1, D0, D1, P0, P1, hcs, hb, hl, hm, hmm, hx, hi⟩
  · exact ⟨none, 0, 0, [], by simpa using hcs, rfl, Rd.nil _ _ _⟩
  · simp only [if_true] at hmm
    subst hmm
    have ex : ∀ i, ∃ z : T2, i < len → V0 i = .int .i64 z.1 ∧ V1 i = .int .i64 z.2 := fun i => by
      by_cases hil : i < len
      · obtain ⟨_, _, h0, h1⟩ := hi i (by omega)
        obtain ⟨z0, e0, _⟩ := DataW.trod_int Tryd.underlying3 h0
        obtain ⟨z1, e1, _⟩ := DataW.trod_int Tryd.underlying3 h1
        exact ⟨(z0, z1), fun _ => ⟨by simpa using e0, by simpa using e1⟩⟩
      · exact ⟨(0, 0), fun h => absurd h hil⟩
    obtain ⟨z, hz⟩ := Classical.axiomOfChoice ex
    have hlen : ((List.range len).map z).length = len := by simp
    refine ⟨some a, len, m, (List.range len).map z, by simpa using hcs, hlen, ⟨by rw [cells2_length, hlen], fun h0 => ?_⟩⟩
    have hc0 := (hi 0 (by omega)).1
    have hsp : a = ⟨a.block, a.off, none⟩ := by
      have := spot_none hc0
      simpa [Addr.add] using this
    rw [hsp] at hi
    refine ⟨a.block, a.off, by rw [hsp], ?_, fun j u hu => ?_⟩
    · have := World.block_lt_of_cell? W _ hc0
      simpa [Addr.add] using this
    · have hj : j < len * 2 := by
        have := (List.getElem?_eq_some_iff.1 hu).1
        rw [cells2_length, hlen] at this; exact this
      obtain ⟨c0, c1, _, _⟩ := hi (j / 2) (by omega)
      have hk : j / 2 < ((List.range len).map z).length := by rw [hlen]; omega
      have hzz := hz (j / 2) (by omega)
      by_cases he : j % 2 = 0
      · have e : j = j / 2 * 2 := by omega
        rw [e, cells2_get0 hk] at hu
        rw [e, ← Option.some.inj hu]
        rw [hzz.1, Addr.add_lit] at c0
        simpa using c0
      · have e : j = j / 2 * 2 + 1 := by omega
        rw [e, cells2_get1 hk] at hu
        rw [e, ← Option.some.inj hu]
        rw [hzz.2, Addr.add_lit] at c1
        simpa using c1
theorem cFeed : Tryd.prog.cellsOf 66 = 4 := by kernel_rfl
theorem cVs : Tryd.prog.cellsOf 22 = 1 := by kernel_rfl
set_option maxRecDepth 100000 in
set_option maxHeartbeats 1000000 in
/-- A feed, opened. -/
theorem open_feed {H : Type} {enc : TypeId × Value → H} {W : World} {base : Nat} {v : Value} {d : DataW H} {p : List MemPlace} (hv : Value.okWide Tryd.prog W .any base 66 v)
    (h : DataW.Trod enc Tryd.prog W 0 (fun _ => true) true 66 v d p) : ∃ (a : Option Addr) (n c : Nat) (cs : List T2) (f : T2) (mv : Int), v = fV a n c f mv ∧ cs.length = n ∧ Rd W 2 a n (cells2 cs) := by
  obtain ⟨cs, rfl, hsz⟩ := okWide_struct Tryd.underlying66 hv
  rw [cFeed] at hsz
  obtain ⟨c0, c1, c2, c3, rfl⟩ := array4 hsz
  obtain ⟨fuel, hf⟩ := h
  obtain ⟨y0, y1, y2, n, hx, _, h0, h1, h2⟩ := trod_struct3 Tryd.underlying66 hf
  obtain ⟨a, n', c, vs, rfl, hl, hr⟩ := vectors_of_trod (c0 := c0) (by simpa [Value.cells, cVs] using h0)
  obtain ⟨z0, z1, m, hy, _, g0, g1⟩ := trod_struct2 Tryd.underlying24 h1
  obtain ⟨u0, e0, _, _⟩ := DataW.trod_int Tryd.underlying3 g0
  obtain ⟨u1, e1, _, _⟩ := DataW.trod_int Tryd.underlying3 g1
  obtain ⟨u2, e2, _, _⟩ := DataW.trod_int Tryd.underlying3 h2
  simp [Value.cells, cThird, cInt] at e0 e1 e2
  subst e0; subst e1; subst e2
  exact ⟨a, n', c, vs, (u0, u1), u2, rfl, hl, hr⟩
end Go.Proofs.YtdbglpaejmhbjaaDoor
