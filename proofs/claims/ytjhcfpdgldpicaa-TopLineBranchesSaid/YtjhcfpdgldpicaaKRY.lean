/- Lemmas for the statement. -/
import Derived.Test.YtjhcfpdgldpicaaM4
namespace Go.Proofs.Ytjhcfpdgldpicaa
open Go Go.ChangeShapes Go.WideShapes Go.ChangeAt Go.RowKit Go.Joins Go.Deep
set_option linter.unusedSimpArgs false
set_option linter.unusedVariables false
theorem row_of_trod {α H : Type} [Inhabited α] {enc : TypeId × Value → H} {W : World} {fuel : Nat} {T e : TypeId} {k : Nat} {c0 : Value} {y : DataW H × List MemPlace} (g : α → List AV) (hg : ∀ a, (g a).length = k) (hk0 : 0 < k)
 (ht : Try.prog.underlying T = some (.slice e)) (hk : Try.prog.cellsOf e = k)
 (each : ∀ fuel cs x, cs.length = k → DataW.trod enc Try.prog W 0 (fun _ => true) true fuel e cs = some x → ∃ a : α, ∀ (j : Nat) (av : AV) (v : Value), (g a)[j]? = some av → cs[j]? = some v → R0 (fun _ => False) W av v)
 (h : DataW.trod enc Try.prog W 0 (fun _ => true) true fuel T [c0] = some y) : ∃ l : List α, R0 (fun _ => False) W (.row k (l.map g)) c0 := by
 rcases open_slice ht h with ⟨hcs, _⟩ | ⟨a, len, cap, m, n, D, Pl, hcs, hb, hl, hm, hmm, rfl, hx⟩
 ·obtain rfl : c0 = .slice none 0 0 := by simpa using hcs
  exact ⟨[], .nil _ _ _⟩
 ·simp only [if_true] at hmm
  subst hmm
  obtain rfl : c0 = .slice (some a) len m := by simpa using hcs
  by_cases h0 : len = 0
  ·subst h0; exact ⟨[], .nil _ _ _⟩
  have ex : ∀ i, ∃ q : α × List Value, i < len → W.cells? 0 (a.add (i * k)) k = some q.2 ∧ ∀ (j : Nat) (av : AV) (v : Value), (g q.1)[j]? = some av → q.2[j]? = some v → R0 (fun _ => False) W av v := fun i => by
   by_cases hil : i < len
   ·obtain ⟨cs', h1, h2⟩ := hx i (by omega)
    rw [hk] at h1
    obtain ⟨_, hlen, _⟩ := World.cells?_some h1
    obtain ⟨z, hz⟩ := each _ _ _ hlen h2
    exact ⟨(z, cs'), fun _ => ⟨h1, hz⟩⟩
   ·exact ⟨default, fun h => absurd h hil⟩
  obtain ⟨q, hq⟩ := Classical.axiomOfChoice ex
  have cell : ∀ i j, i < len → j < k → (q i).2.length = k ∧ W.cell? ((a.add (i * k)).add j) = (q i).2[j]? := fun i j hi hj => by
   obtain ⟨h1, h2⟩ := hq i hi
   obtain ⟨_, hlen, h3⟩ := World.cells?_some h1
   exact ⟨hlen, h3 j hj⟩
  have hc0 := (cell 0 0 (by omega) hk0).2
  rw [List.getElem?_eq_getElem (by rw [(cell 0 0 (by omega) hk0).1]; exact hk0)] at hc0
  have hsp : a = ⟨a.block, a.off, none⟩ := by
   have := spot_none hc0
   simpa [Addr.add] using this
  have hbl := World.block_lt_of_cell? W _ hc0
  have hel : ∀ l ∈ ((List.range len).map fun i => (q i).1).map g, l.length = k := fun l hl => by
   obtain ⟨x, _, rfl⟩ := List.mem_map.1 hl; exact hg x
  have hfl : ∀ (i : Nat) (av : AV), (((List.range len).map fun i => (q i).1).map g).flatten[i]? = some av → i / k < len ∧ i % k < k ∧ (g (q (i / k)).1)[i % k]? = some av := fun i av hi => by
   have hlt : i < len * k := by
    have := (List.getElem?_eq_some_iff.1 hi).1
    rw [flatten_length hel] at this; simpa using this
   have h1 : i / k < len := (Nat.div_lt_iff_lt_mul hk0).2 hlt
   have h2 : i % k < k := Nat.mod_lt _ hk0
   have e : i = i / k * k + i % k := by have := Nat.div_add_mod i k; rw [Nat.mul_comm] at this; omega
   rw [e, flat_get hel (i := i / k) (el := g (q (i / k)).1) (by simp [h1]) h2] at hi
   exact ⟨h1, h2, hi⟩
  refine ⟨(List.range len).map fun i => (q i).1, ?_⟩
  have := R0.row (pr := fun _ => False) (w := W) k (((List.range len).map fun i => (q i).1).map g) a.block a.off m (fun j => (q (j / k)).2.getD (j % k) undef) (by simp; omega) (by simpa using hl) hel (by simpa [Addr.add] using hbl) (fun h => h)
   (fun i av hi => by
    obtain ⟨h1, h2, h3⟩ := hfl i av hi
    obtain ⟨c1, c2⟩ := cell (i / k) (i % k) h1 h2
    have e : i = i / k * k + i % k := by have := Nat.div_add_mod i k; rw [Nat.mul_comm] at this; omega
    have hget : (q (i / k)).2[i % k]? = some ((q (i / k)).2.getD (i % k) undef) := by
     rw [List.getD_eq_getElem?_getD, List.getElem?_eq_getElem (by omega)]; rfl
    rw [hget, add_add, hsp] at c2
    rw [← Addr.add_lit a.block a.off i]
    conv => lhs; rw [e]
    exact c2)
   (fun i av hi => by
    obtain ⟨h1, h2, h3⟩ := hfl i av hi
    obtain ⟨c1, _⟩ := cell (i / k) (i % k) h1 h2
    refine (hq _ h1).2 (i % k) av _ h3 ?_
    rw [List.getD_eq_getElem?_getD, List.getElem?_eq_getElem (by omega)]; rfl)
  rw [List.length_map, List.length_map, List.length_range, ← hsp] at this
  exact this
theorem cJnt : Try.prog.cellsOf 66 = 4 := by kernel_rfl
theorem cBea : Try.prog.cellsOf 69 = 2 := by kernel_rfl
theorem cSwi : Try.prog.cellsOf 47 = 3 := by kernel_rfl
theorem cRange : Try.prog.cellsOf 55 = 2 := by kernel_rfl
theorem cLine : Try.prog.cellsOf 26 = 4 := by kernel_rfl
theorem cIntsY : Try.prog.cellsOf 40 = 1 := by kernel_rfl
theorem cJnts : Try.prog.cellsOf 22 = 1 := by kernel_rfl
theorem cBeas : Try.prog.cellsOf 23 = 1 := by kernel_rfl
theorem cSwis : Try.prog.cellsOf 24 = 1 := by kernel_rfl
set_option maxRecDepth 100000 in
set_option maxHeartbeats 1000000 in
theorem intsY_of_trod {H : Type} {enc : TypeId × Value → H} {W : World} {fuel : Nat} {c0 : Value} {y : DataW H × List MemPlace} (h : DataW.trod enc Try.prog W 0 (fun _ => true) true fuel 40 [c0] = some y) :
 ∃ xs : List Int, R0 (fun _ => False) W (.row 1 (xs.map iE)) c0 :=
 row_of_trod iE (fun _ => rfl) (by omega) Try.underlying40 cInt (fun fuel cs x hlen hx => by
  obtain ⟨z, e, _⟩ := DataW.trod_int Try.underlying3 hx
  refine ⟨z, fun j av v h1 h2 => ?_⟩
  subst e
  match j, h1, h2 with
  | 0, h1, h2 => cases h1; cases h2; exact .v _) h
set_option maxRecDepth 100000 in
set_option maxHeartbeats 1000000 in
theorem joints_of_trod {H : Type} {enc : TypeId × Value → H} {W : World} {fuel : Nat} {c0 : Value} {y : DataW H × List MemPlace} (h : DataW.trod enc Try.prog W 0 (fun _ => true) true fuel 22 [c0] = some y) :
 ∃ js : List Jnt, R0 (fun _ => False) W (.row 4 (js.map jnE)) c0 :=
 row_of_trod jnE (fun _ => rfl) (by omega) Try.underlying22 cJnt (fun fuel cs x hlen hx => by
  obtain ⟨u0, u1, u2, u3, rfl⟩ := list4 hlen
  obtain ⟨y0, y1, y2, n, _, _, h0, h1, h2⟩ := trod_struct3 Try.underlying66 hx
  simp [cInt, cRange] at h0 h1 h2
  obtain ⟨z0, e0, _⟩ := DataW.trod_int Try.underlying3 h0
  obtain ⟨z1, e1, _⟩ := DataW.trod_int Try.underlying3 h1
  obtain ⟨w0, w1, n', _, _, g0, g1⟩ := trod_struct2 Try.underlying55 h2
  simp [cInt] at g0 g1
  obtain ⟨z2, e2, _⟩ := DataW.trod_int Try.underlying3 g0
  obtain ⟨z3, e3, _⟩ := DataW.trod_int Try.underlying3 g1
  simp at e0 e1 e2 e3
  subst e0 e1 e2 e3
  refine ⟨⟨z0, z1, z2, z3⟩, fun j av v h1 h2 => ?_⟩
  match j, h1, h2 with
  | 0, h1, h2 => cases h1; cases h2; exact .v _
  | 1, h1, h2 => cases h1; cases h2; exact .v _
  | 2, h1, h2 => cases h1; cases h2; exact .v _
  | 3, h1, h2 => cases h1; cases h2; exact .v _) h
set_option maxRecDepth 100000 in
set_option maxHeartbeats 1000000 in
theorem beams_of_trod {H : Type} {enc : TypeId × Value → H} {W : World} {fuel : Nat} {c0 : Value} {y : DataW H × List MemPlace} (h : DataW.trod enc Try.prog W 0 (fun _ => true) true fuel 23 [c0] = some y) :
 ∃ bs : List Bea, R0 (fun _ => False) W (.row 2 (bs.map beE)) c0 :=
 row_of_trod beE (fun _ => rfl) (by omega) Try.underlying23 cBea (fun fuel cs x hlen hx => by
  obtain ⟨u0, u1, rfl⟩ := list2 hlen
  obtain ⟨y0, y1, n, _, _, h0, h1⟩ := trod_struct2 Try.underlying69 hx
  simp [cInt] at h0 h1
  obtain ⟨z0, e0, _⟩ := DataW.trod_int Try.underlying3 h0
  obtain ⟨z1, e1, _⟩ := DataW.trod_int Try.underlying3 h1
  simp at e0 e1
  subst e0 e1
  refine ⟨⟨z0, z1⟩, fun j av v h1 h2 => ?_⟩
  match j, h1, h2 with
  | 0, h1, h2 => cases h1; cases h2; exact .v _
  | 1, h1, h2 => cases h1; cases h2; exact .v _) h
set_option maxRecDepth 100000 in
set_option maxHeartbeats 1000000 in
theorem switches_of_trod {H : Type} {enc : TypeId × Value → H} {W : World} {fuel : Nat} {c0 : Value} {y : DataW H × List MemPlace} (h : DataW.trod enc Try.prog W 0 (fun _ => true) true fuel 24 [c0] = some y) :
 ∃ ss : List Swi, R0 (fun _ => False) W (.row 3 (ss.map swE)) c0 :=
 row_of_trod swE (fun _ => rfl) (by omega) Try.underlying24 cSwi (fun fuel cs x hlen hx => by
  obtain ⟨u0, u1, u2, rfl⟩ := list3 hlen
  obtain ⟨y0, y1, y2, n, _, _, h0, h1, h2⟩ := trod_struct3 Try.underlying47 hx
  simp [cInt, cStr, cIntsY] at h0 h1 h2
  obtain ⟨z0, e0, _⟩ := DataW.trod_string Try.underlying9 h0
  obtain ⟨z1, e1, _⟩ := DataW.trod_int Try.underlying3 h1
  obtain ⟨xs, hr⟩ := intsY_of_trod h2
  simp at e0 e1
  subst e0 e1
  refine ⟨⟨z0, z1, xs⟩, fun j av v h1 h2 => ?_⟩
  match j, h1, h2 with
  | 0, h1, h2 => cases h1; cases h2; exact .v _
  | 1, h1, h2 => cases h1; cases h2; exact .v _
  | 2, h1, h2 => cases h1; cases h2; exact hr) h
set_option maxRecDepth 100000 in
set_option maxHeartbeats 1000000 in
theorem open_line {H : Type} {enc : TypeId × Value → H} {W : World} {base : Nat} {v : Value} {d : DataW H} {p : List MemPlace} (hv : Value.okWide Try.prog W .any base 26 v)
 (h : DataW.Trod enc Try.prog W 0 (fun _ => true) true 26 v d p) : ∃ l : Lin, R0 (fun _ => False) W (lnA l) v := by
 obtain ⟨cs, rfl, hsz⟩ := okWide_struct Try.underlying26 hv
 rw [cLine] at hsz
 obtain ⟨c0, c1, c2, c3, rfl⟩ : ∃ c0 c1 c2 c3, cs = #[c0, c1, c2, c3] := by
  obtain ⟨a, b, c, d, e⟩ := list4 (l := cs.toList) (by simpa using hsz)
  exact ⟨a, b, c, d, by rw [← Array.toArray_toList (xs := cs), e]⟩
 obtain ⟨fuel, hf⟩ := h
 obtain ⟨y0, y1, y2, y3, n, hx, _, h0, h1, h2, h3⟩ := trod_struct4 Try.underlying26 hf
 simp [Value.cells, cStr, cJnts, cBeas, cSwis] at h0 h1 h2 h3
 obtain ⟨s, e0, _⟩ := DataW.trod_string Try.underlying9 h0
 simp at e0
 subst e0
 obtain ⟨js, r1⟩ := joints_of_trod h1
 obtain ⟨bs, r2⟩ := beams_of_trod h2
 obtain ⟨ss, r3⟩ := switches_of_trod h3
 refine ⟨⟨s, js, bs, ss⟩, r0_agg (xs := [_, _, _, _]) rfl fun i a x ha hx => ?_⟩
 match i, ha, hx with
 | 0, ha, hx => cases ha; cases hx; exact .v _
 | 1, ha, hx => cases ha; cases hx; exact r1
 | 2, ha, hx => cases ha; cases hx; exact r2
 | 3, ha, hx => cases ha; cases hx; exact r3
end Go.Proofs.Ytjhcfpdgldpicaa
