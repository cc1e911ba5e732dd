/- Slices of structs, opened; steps of books. -/
import Derived.Test.YtdbglpaejmhbjaaDoorRow3
import Derived.Test.YtdbglpaejmhbjaaDoorB1
namespace Go.Proofs.YtdbglpaejmhbjaaDoor
open Go Go.ChangeShapes Go.WideShapes Go.ChangeAt Go.RowKit Go.Joins Go.Deep
set_option linter.unusedSimpArgs false
set_option linter.unusedVariables false

/-- A slice whose elements read as f says. -/
theorem rd_of_trod {α H : Type} [Inhabited α] {enc : TypeId × Value → H} {W : World} {fuel : Nat} {T e : TypeId} {k : Nat} {c0 : Value} {y : DataW H × List MemPlace} (f : α → List Value) (hf : ∀ a, (f a).length = k) (hk0 : 0 < k)
    (ht : Tryd.prog.underlying T = some (.slice e)) (hk : Tryd.prog.cellsOf e = k)
    (each : ∀ fuel cs x, cs.length = k → DataW.trod enc Tryd.prog W 0 (fun _ => true) true fuel e cs = some x → ∃ a : α, cs = f a)
    (h : DataW.trod enc Tryd.prog W 0 (fun _ => true) true fuel T [c0] = some y) :
    ∃ (a : Option Addr) (n c : Nat) (l : List α), c0 = .slice a n c ∧ l.length = n ∧ n ≤ c ∧ Rd W k a n (cellsF f l) := by
  rcases open_slice ht h with ⟨hcs, _⟩ | ⟨a, len, cap, m, n, D, Pl, hcs, hb, hl, hm, hmm, rfl, hx⟩
  · exact ⟨none, 0, 0, [], by simpa using hcs, rfl, Nat.le_refl _, Rd.nil _ _ _⟩
  · simp only [if_true] at hmm
    subst hmm
    have ex : ∀ i, ∃ z : α, i < len → ∃ cs', W.cells? 0 (a.add (i * k)) k = some cs' ∧ cs' = f z := fun i => by
      by_cases hil : i < len
      · obtain ⟨cs', h1, h2⟩ := hx i (by omega)
        rw [hk] at h1
        obtain ⟨_, hlen, _⟩ := World.cells?_some h1
        obtain ⟨z, hz⟩ := each _ _ _ hlen h2
        exact ⟨z, fun _ => ⟨cs', h1, hz⟩⟩
      · exact ⟨default, fun h => absurd h hil⟩
    obtain ⟨z, hz⟩ := Classical.axiomOfChoice ex
    have hlen : ((List.range len).map z).length = len := by simp
    refine ⟨some a, len, m, (List.range len).map z, by simpa using hcs, hlen, hl, by rw [cellsF_length hf, hlen], fun h0 => ?_⟩
    have cell : ∀ i j, i < len → j < k → W.cell? ((a.add (i * k)).add j) = (f (z i))[j]? := fun i j hi hj => by
      obtain ⟨cs', h1, h2⟩ := hz i hi
      obtain ⟨_, _, h3⟩ := World.cells?_some h1
      rw [h3 j hj, h2]
    have hc0 := cell 0 0 (by omega) hk0
    rw [List.getElem?_eq_getElem (by rw [hf]; exact hk0)] at hc0
    have hsp : a = ⟨a.block, a.off, none⟩ := by
      have := spot_none hc0
      simpa [Addr.add] using this
    have hbl := World.block_lt_of_cell? W _ hc0
    refine ⟨a.block, a.off, by rw [← hsp], by simpa [Addr.add] using hbl, fun j u hu => ?_⟩
    have hj : j < len * k := by
      have := (List.getElem?_eq_some_iff.1 hu).1
      rw [cellsF_length hf, hlen] at this; exact this
    have hi : j / k < len := (Nat.div_lt_iff_lt_mul hk0).2 hj
    have hjk : j % k < k := Nat.mod_lt _ hk0
    have e : j = j / k * k + j % k := by have := Nat.div_add_mod j k; rw [Nat.mul_comm] at this; omega
    have hkl : j / k < ((List.range len).map z).length := by rw [hlen]; exact hi
    rw [e, cellsF_get hf hkl hjk] at hu
    have hc := cell (j / k) (j % k) hi hjk
    rw [show ((List.range len).map z)[j / k] = z (j / k) by simp] at hu
    rw [hu, add_add, hsp] at hc
    rw [e, ← Addr.add_lit a.block a.off (j / k * k + j % k)]
    exact hc

set_option maxRecDepth 100000 in
theorem p3_of_trod {H : Type} {enc : TypeId × Value → H} {W : World} {fuel : Nat} {cs : List Value} {x : DataW H × List MemPlace} (h : DataW.trod enc Tryd.prog W 0 (fun _ => true) true fuel 98 cs = some x) :
    ∃ z : Int × Int × Int, cs = [.int .i64 z.1, .int .i64 z.2.1, .int .i64 z.2.2] := by
  obtain ⟨xs, m, _, hx, hlen, hxl, hi⟩ := DataW.trod_array Tryd.underlying98 h
  rw [cThree] at hlen
  match cs, hlen with
  | [u0, u1, u2], _ =>
    have each : ∀ i, i < 3 → ∃ z, [u0, u1, u2][i]? = some (.int .i64 z) := fun i h3 => by
      have h1 := hi i h3
      rw [cInt] at h1
      have hy : xs[i]? = some (xs[i]'(by omega)) := List.getElem?_eq_getElem _
      rw [hy] at h1
      obtain ⟨z, e, _⟩ := DataW.trod_int Tryd.underlying3 h1
      refine ⟨z, ?_⟩
      have f := congrArg (·[0]?) e
      simpa [List.getElem?_take, List.getElem?_drop] using f
    obtain ⟨z0, h0⟩ := each 0 (by omega)
    obtain ⟨z1, h1⟩ := each 1 (by omega)
    obtain ⟨z2, h2⟩ := each 2 (by omega)
    simp at h0 h1 h2
    exact ⟨(z0, z1, z2), by rw [h0, h1, h2]⟩
theorem list3 {α : Type} {l : List α} (h : l.length = 3) : ∃ a b c, l = [a, b, c] := by
  match l, h with
  | [a, b, c], _ => exact ⟨a, b, c, rfl⟩
theorem list4 {α : Type} {l : List α} (h : l.length = 4) : ∃ a b c d, l = [a, b, c, d] := by
  match l, h with
  | [a, b, c, d], _ => exact ⟨a, b, c, d, rfl⟩
theorem list7 {α : Type} {l : List α} (h : l.length = 7) : ∃ a b c d e f g, l = [a, b, c, d, e, f, g] := by
  match l, h with
  | [a, b, c, d, e, f, g], _ => exact ⟨a, b, c, d, e, f, g, rfl⟩
theorem cStep : Tryd.prog.cellsOf 100 = 7 := by kernel_rfl
set_option maxRecDepth 100000 in
set_option maxHeartbeats 1000000 in
theorem open_steps {H : Type} {enc : TypeId × Value → H} {W : World} {base : Nat} {v : Value} {d : DataW H} {p : List MemPlace} (hv : Value.okWide Tryd.prog W .any base 90 v)
    (h : DataW.Trod enc Tryd.prog W 0 (fun _ => true) true 90 v d p) : ∃ (a : Option Addr) (n c : Nat) (l : List St), v = .slice a n c ∧ l.length = n ∧ Rd W 7 a n (cells7 l) := by
  obtain ⟨a', n', c', rfl⟩ := okWide_slice Tryd.underlying90 hv
  obtain ⟨fuel, hf⟩ := h
  obtain ⟨a, n, c, l, e, hl, _, hr⟩ := rd_of_trod (c0 := .slice a' n' c') stC (fun _ => rfl) (by omega) Tryd.underlying90 cStep (fun fuel cs x hlen hx => by
    obtain ⟨xs, k, _, _, _, hxl, hfs⟩ := DataW.trod_struct Tryd.underlying100 hx
    obtain ⟨y0, y1, y2, rfl⟩ := list3 hxl
    obtain ⟨u0, u1, u2, u3, u4, u5, u6, rfl⟩ := list7 hlen
    (
      have g0 := hfs 0 _ rfl
      have g1 := hfs 1 _ rfl
      have g2 := hfs 2 _ rfl
      simp [cThree, cInt] at g0 g1 g2
      obtain ⟨z0, e0⟩ := p3_of_trod g0
      obtain ⟨z1, e1⟩ := p3_of_trod g1
      obtain ⟨z2, e2, _⟩ := DataW.trod_int Tryd.underlying3 g2
      simp at e0 e1 e2
      exact ⟨(z0, z1, z2), by simp [stC, e0, e1, e2]⟩)) (by simpa [Value.cells] using hf)
  cases e
  exact ⟨a', n', c', l, rfl, hl, hr⟩
end Go.Proofs.YtdbglpaejmhbjaaDoor
