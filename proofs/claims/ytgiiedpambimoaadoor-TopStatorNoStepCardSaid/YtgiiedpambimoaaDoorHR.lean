/- Rows of chapter 3 for the abstract machine: arrays opened, what the variables of the package hold. No conditions on a program. -/
import Derived.Test.YtgiiedpambimoaaDoorM4
import Derived.Test.YtgiiedpambimoaaDoorKR
import Derived.Test.YtgiiedpambimoaaDoorCards
import Derived.Test.YtgiiedpambimoaaDoorTie
namespace Go.Proofs.YtgiiedpambimoaaDoor
open Go Go.ChangeShapes Go.WideShapes Go.ChangeAt Go.RowKit Go.Joins Go.Deep
set_option linter.unusedSimpArgs false
set_option linter.unusedVariables false
theorem arr_of_trod {α H : Type} [Inhabited α] {P : Program} {enc : TypeId × Value → H} {W : World} {sp : Nat → Bool} {held : Bool} {fuel : Nat} {T e : TypeId} {n k : Nat} {cs : List Value} {y : DataW H × List MemPlace} (f : α → List Value) (df : α → DataW H) (hf : ∀ a, (f a).length = k) (hk0 : 0 < k)
    (ht : P.underlying T = some (.array n e)) (hk : P.cellsOf e = k) (hT : P.cellsOf T = n * k)
    (each : ∀ fuel cs x, cs.length = k → DataW.trod enc P W 0 sp held fuel e cs = some x → ∃ a : α, cs = f a ∧ x.1 = df a)
    (h : DataW.trod enc P W 0 sp held fuel T cs = some y) : ∃ xs : List α, xs.length = n ∧ cs = (xs.map f).flatten ∧ y.1 = .agg (xs.map df) := by
  obtain ⟨zs, m, _, hx, hlen, hxl, hi⟩ := DataW.trod_array ht h
  rw [hT] at hlen
  have ex : ∀ i, ∃ z : α, i < n → (cs.drop (i * k)).take k = f z ∧ (zs[i]?).map (·.1) = some (df z) := fun i => by
    by_cases hil : i < n
    · have h1 := hi i hil
      rw [hk] at h1
      have hzi : i < zs.length := by omega
      rw [List.getElem?_eq_getElem hzi] at h1
      have hle : (i + 1) * k ≤ n * k := Nat.mul_le_mul_right k hil
      rw [Nat.succ_mul] at hle
      obtain ⟨z, h2, h3⟩ := each _ _ _ (by simp; omega) h1
      exact ⟨z, fun _ => ⟨h2, by rw [List.getElem?_eq_getElem hzi]; simp [h3]⟩⟩
    · exact ⟨default, fun h => absurd h hil⟩
  obtain ⟨z, hz⟩ := Classical.axiomOfChoice ex
  refine ⟨(List.range n).map z, by simp, ?_, ?_⟩
  · have hfl : (((List.range n).map z).map f).flatten.length = n * k := by
      rw [flatten_length (all_mapV hf), List.length_map, List.length_map, List.length_range]
    refine List.ext_getElem? fun j => ?_
    by_cases hj : j < n * k
    · have hiq : j / k < n := (Nat.div_lt_iff_lt_mul hk0).2 hj
      have hjk : j % k < k := Nat.mod_lt _ hk0
      have e : j = j / k * k + j % k := by have := Nat.div_add_mod j k; rw [Nat.mul_comm] at this; omega
      have hel : (((List.range n).map z).map f)[j / k]? = some (f (z (j / k))) := by simp [hiq]
      have h1 := flat_get (all_mapV hf) hel hjk
      rw [← e] at h1
      rw [h1, ← (hz (j / k) hiq).1, List.getElem?_take_of_lt hjk, List.getElem?_drop, ← e]
    · rw [List.getElem?_eq_none (by omega), List.getElem?_eq_none (by omega)]
  · rw [hx]
    simp only
    congr 1
    refine List.ext_getElem? fun i => ?_
    by_cases hin : i < n
    · rw [List.getElem?_map, (hz i hin).2]; simp [hin]
    · rw [List.getElem?_eq_none (by simp; omega), List.getElem?_eq_none (by simp; omega)]
theorem callsG_of_ok {P : Program} {gs : List (Nat × List AV)} {f : FuncId} {args : List AV} (h : FnOkG P gs f args (fun q => q = .v (.bool true))) {vs : List Value} {W : World} (hl : vs.length = args.length) (hg : GlobR (fun _ => False) W gs) (hR : ∀ (i : Nat) (a : AV) (x : Value), args[i]? = some a → vs[i]? = some x → R0 (fun _ => False) W a x) :
    Calls P f vs.toArray W fun e W' => e = .returned (.bool true) ∧ Ext W W' :=
  (h (fun _ => False) W vs hl hR hg).mono fun e W' ⟨r, v, h1, h2, h3, h4⟩ => by
    subst h2
    cases h3
    exact ⟨h1, h4⟩
theorem r0_flat {α : Type} {f : α → List Value} {g : α → List AV} (hfg : ∀ a, g a = (f a).map AV.v) {pr : Nat → Prop} {W : World} (xs : List α) : R0 pr W (.agg (xs.map g).flatten) (.agg (xs.map f).flatten.toArray) := by
  rw [flat_mapV hfg]
  refine .agg _ _ (by rw [List.length_map]) fun i a x ha hx => ?_
  rw [List.getElem?_map, hx] at ha
  cases ha
  exact .v x
theorem c8v : Tryd.prog.cellsOf 112 = 16 := by kernel_rfl
theorem cTh : Tryd.prog.cellsOf 24 = 2 := by kernel_rfl
theorem cVe : Tryd.prog.cellsOf 96 = 2 := by kernel_rfl
def dI {H : Type} (n : Int) : DataW H := .lit (.int .i64 n)
def dT {H : Type} (v : V2) : DataW H := .agg [.lit (.int .i64 v.1), .lit (.int .i64 v.2)]
theorem each_int {H : Type} {enc : TypeId × Value → H} {W : World} {sp : Nat → Bool} {held : Bool} : ∀ (fuel : Nat) (cs : List Value) (x : DataW H × List MemPlace), cs.length = 1 → DataW.trod enc Tryd.prog W 0 sp held fuel 3 cs = some x → ∃ a : Int, cs = iV a ∧ x.1 = dI a := fun fuel cs x _ hx => by
  obtain ⟨z0, e0, e1, _⟩ := DataW.trod_int Tryd.underlying3 hx
  exact ⟨z0, e0, by rw [e1]; rfl⟩
theorem each_pair {H : Type} {enc : TypeId × Value → H} {W : World} {sp : Nat → Bool} {held : Bool} {T : TypeId} {f0 f1 : Field} (ht : Tryd.prog.underlying T = some (.struct #[f0, f1])) (h0t : f0.type = 3 ∧ f0.offset = 0) (h1t : f1.type = 3 ∧ f1.offset = 1) : ∀ (fuel : Nat) (cs : List Value) (x : DataW H × List MemPlace), cs.length = 2 → DataW.trod enc Tryd.prog W 0 sp held fuel T cs = some x → ∃ a : V2, cs = tV a ∧ x.1 = dT a := fun fuel cs x hl hx => by
  obtain ⟨y0, y1, n, rfl, _, h0, h1⟩ := trod_struct2 ht hx
  obtain ⟨u0, u1, rfl⟩ := list2 hl
  rw [h0t.1, h0t.2, cInt] at h0
  rw [h1t.1, h1t.2, cInt] at h1
  simp at h0 h1
  obtain ⟨z0, e0, a0, _⟩ := DataW.trod_int Tryd.underlying3 h0
  obtain ⟨z1, e1, a1, _⟩ := DataW.trod_int Tryd.underlying3 h1
  simp at e0 e1
  subst e0 e1
  exact ⟨(z0, z1), rfl, by rw [a0, a1]; rfl⟩
/-- A variable that is laid, as the machine reads it. -/
theorem r0_var {W : World} {nm : String} {g : Nat} {cs : Array Value} (hg : Tryd.prog.globalNamed nm = some g) (hv : W.var? Tryd.prog nm = some cs) (h0 : 0 < cs.size) {xs : List Value} (hx : cs.toList = xs) : R0 (fun _ => False) W (.ref (xs.map AV.v)) (.pointer (some ⟨g, 0, none⟩)) := by
  have hc : ∀ j, W.cell? ⟨g, j, none⟩ = cs[j]? := fun j => World.var?_cell hg hv j
  have hb : g < W.heap.size := by
    have h1 := hc 0
    rw [Array.getElem?_eq_getElem h0] at h1
    exact World.block_lt_of_cell? W _ h1
  subst hx
  refine .ref _ g 0 (fun i => cs.getD i undef) hb (fun h => h) (fun i a ha => ?_) fun i a ha => ?_
  · have hi : i < cs.size := by have := (List.getElem?_eq_some_iff.1 ha).1; simpa using this
    rw [Nat.zero_add, hc i, Array.getElem?_eq_getElem hi]; simp [hi]
  · have hi : i < cs.size := by have := (List.getElem?_eq_some_iff.1 ha).1; simpa using this
    rw [List.getElem?_map] at ha
    simp [hi] at ha
    subst ha
    simp [hi]
    exact .v _
theorem dT_inj {H : Type} {l m : List V2} (h : l.map (dT (H := H)) = m.map dT) : l = m := by
  refine (List.map_inj_right (f := dT (H := H)) fun a b hab => ?_).1 h
  unfold dT at hab
  simp at hab
  exact Prod.ext hab.1 hab.2
theorem glob_states {W : World} {t : Nat} {cs : Array Value} {fuel : Nat} {p : List MemPlace} (ht : (Tryd.prog.globals[1]?).map (·.type) = some t) (hv : W.var? Tryd.prog "guideway/stator.states" = some cs) (hd : DataW.trod (fun _ => ()) Tryd.prog W 0 (fun _ => true) false fuel t cs.toList = some (Rows.laid_guideway_stator_states, p)) :
    R0 (fun _ => False) W (.ref (stA.map tE).flatten) (.pointer (some ⟨1, 0, none⟩)) := by
  obtain rfl : 112 = t := Option.some.inj ((show (Tryd.prog.globals[1]?).map (·.type) = some 112 by kernel_rfl).symm.trans ht)
  obtain ⟨xs, h1, h2, h3⟩ := arr_of_trod (k := 2) tV dT (fun _ => rfl) (by omega) Tryd.underlying112 cVe c8v (each_pair Tryd.underlying96 ⟨rfl, rfl⟩ ⟨rfl, rfl⟩) hd
  have hx : xs = stA := by
    refine dT_inj (H := Unit) ?_
    have : DataW.agg (xs.map dT) = DataW.agg (stA.map (dT (H := Unit))) := by rw [← h3]; rfl
    exact DataW.agg.inj this
  subst hx
  have := r0_var (W := W) (show Tryd.prog.globalNamed "guideway/stator.states" = some 1 by kernel_rfl) hv (by rw [← Array.length_toList, h2]; decide) h2
  rwa [← flat_mapV (f := tE) (g := tV) (fun _ => rfl)] at this
theorem globT_of {W : World} (h : laidMetH Tryd.prog [("guideway/stator.states", Rows.laid_guideway_stator_states)] W) : GlobR (fun _ => False) W gT := by
  obtain ⟨ps, ⟨g', t', cs, fuel, p, q, hg', ht', hvar, hd, _, _⟩, _⟩ := h
  obtain rfl : 1 = g' := Option.some.inj ((show Tryd.prog.globalNamed "guideway/stator.states" = some 1 by kernel_rfl).symm.trans hg')
  intro x hx
  obtain rfl : x = (1, (stA.map tE).flatten) := by simpa [gT] using hx
  exact glob_states ht' hvar hd
end Go.Proofs.YtgiiedpambimoaaDoor
