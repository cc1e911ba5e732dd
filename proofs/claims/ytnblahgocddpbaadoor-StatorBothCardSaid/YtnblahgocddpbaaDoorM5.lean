/- Texts of this claim, one behind the other: lemmas for the statement. -/
import Derived.Test.YtnblahgocddpbaaDoorM4
import Derived.Test.YtnblahgocddpbaaDoorRows
import Derived.Test.YtnblahgocddpbaaDoorChecked
import Derived.WalkKit
import Derived.ProofKit
import Derived.OpenShut
import Derived.Deep.DeepHandedRow
import Derived.Deep.SlicePairs
import Derived.Lib.LaidTab
import Derived.Lib.SmallJoins
import Derived.Carry
import Derived.Test.YtnblahgocddpbaaDoorCards
import Derived.Test.YtnblahgocddpbaaDoorTie
/- Rows of chapter 5: arguments opened for the abstract machine, what reads behind the call as before it. No conditions on a program. -/
namespace Go.Proofs.YtnblahgocddpbaaDoor
open Go Go.ChangeShapes Go.WideShapes Go.ChangeAt Go.RowKit Go.Joins Go.Deep
set_option linter.unusedSimpArgs false
set_option linter.unusedVariables false
theorem trodAll_stays {H : Type} {enc : TypeId × Value → H} {P : Program} (hl : laidOutB P = true) {W W' : World} (hx : Ext W W') {sp : Nat → Bool} : ∀ {ts : List TypeId} {vs : List Value} {ds : List (DataW H)} {ps : List MemPlace},
    (∀ t ∈ ts, P.readableRec t = true ∧ t < P.types.size) → DataW.TrodAll enc P W 0 (fun _ => true) true ts vs ds ps → (∀ x ∈ ps, x.block < W.heap.size) → (∀ x ∈ ps, sp x.block = true) → DataW.TrodAll enc P W' 0 sp true ts vs ds ps
  | [], _, _, _, _, h, _, _ => by
    obtain ⟨rfl, rfl, rfl⟩ := trodAll_nil h
    exact trodAll_mk0
  | t :: ts, _, _, _, ht, h, hlt, hsp => by
    obtain ⟨v, vs, d, ds, p, q, rfl, rfl, rfl, h1, h2⟩ := trodAll_cons h
    refine ⟨p, q, WideElems.Trod_stays hl (ht t (by simp)).1 (ht t (by simp)).2 h1 (fun x hx' => hx.same (hlt x (by simp [hx']))) (fun x hx' => hsp x (by simp [hx'])), ?_, rfl⟩
    exact trodAll_stays hl hx (fun t' ht' => ht t' (by simp [ht'])) h2 (fun x hx' => hlt x (by simp [hx'])) (fun x hx' => hsp x (by simp [hx']))

/-- Memory that is only added to, no variables, the arguments told as they were: the specification's post. -/
theorem post_of_ext {H : Type} {enc : TypeId × Value → H} {P : Program} {f : Func} {s : ChangeSpec} {apart fresh handsOn again : Bool} {W W' : World} {args : Array Value} {v : Value} {ds : List (DataW H)} {before : List MemPlace}
    (hl : laidOutB P = true) (hts : (f.params.toList.all fun t => P.readableRec t && decide (t < P.types.size)) = true) (hx : Ext W W') (hv : s.vars = [])
    (hW : DataW.Whole enc P f.params.toList s.vars apart W args.toList ds [] before) (hA : DataW.TrodAll enc P W 0 (fun _ => true) true f.params.toList args.toList ds before)
    (hsp : (s.fn H ds).args = ds) (hsv : (s.fn H ds).vars = [])
    (hres : ∀ (b : Nat) (sp : Nat → Bool) (hd : Bool), DataW.TrodAll enc P W' b sp hd f.resultTypes.toList (v.resultList f.resultTypes.size) (s.fn H ds).results [])
    (hok : ∀ (j : Nat) (t : TypeId) (r : Value), f.resultTypes[j]? = some t → (v.resultList f.resultTypes.size)[j]? = some r → Value.okWide P W' .any 0 t r) :
    s.post enc P f apart fresh handsOn again W args v W' := by
  have hts' : ∀ t ∈ f.params.toList, P.readableRec t = true ∧ t < P.types.size := fun t ht => by
    have := List.all_eq_true.1 hts t ht
    simpa using this
  have hlt : ∀ x ∈ before, x.block < W.heap.size := fun x hx' => by simpa using hW.lt x hx'
  have hargs : ∀ sp : Nat → Bool, (∀ p ∈ before, sp p.block = true) → DataW.TrodAll enc P W' 0 sp true f.params.toList args.toList (s.fn H (ds ++ [])).args before := fun sp h => by
    rw [List.append_nil, hsp]; exact trodAll_stays hl hx hts' hA hlt h
  have hvars : ∀ sp : Nat → Bool, DataW.TrodVars enc P W' sp s.vars (s.fn H (ds ++ [])).vars [] := fun sp => by
    rw [List.append_nil, hsv, hv]; rfl
  have hres' : ∀ (b : Nat) (sp : Nat → Bool) (hd : Bool), DataW.TrodAll enc P W' b sp hd f.resultTypes.toList (v.resultList f.resultTypes.size) (s.fn H (ds ++ [])).results [] := fun b sp hd => by
    rw [List.append_nil]; exact hres b sp hd
  have hold : ∀ p ∈ before, (fun b => decide (b < W.heap.size)) p.block = true := fun p hp => by simpa using hlt p hp
  refine ⟨ds, [], before, [], before, [], hW, hres' _ _ _, hargs _ hold, hvars _, hx.frame _, fun _ => ?_⟩
  obtain ⟨_, _, _, _, _, hz, hn⟩ := id hW
  refine ⟨hok, _, _, ([] ++ before) ++ [], ⟨[] ++ before, [], trodAll_append (hargs _ (fun _ _ => rfl)) (hres' _ _ _), hvars _, rfl, ?_, ?_⟩, ?_⟩
  · intro b off hp
    simp only [List.nil_append, List.append_nil] at hp
    rw [Below.frozen hx (p := ⟨b, off, none⟩) (hlt _ hp)]
    exact hz b off hp
  · intro ha
    have := hn ha
    simpa using this
  · intro p hp _
    simpa using hp

theorem r0_agg {pr : Nat → Prop} {W : World} {l : List AV} {xs : List Value} (hl : xs.length = l.length) (h : ∀ (i : Nat) (a : AV) (x : Value), l[i]? = some a → xs[i]? = some x → R0 pr W a x) : R0 pr W (.agg l) (.agg xs.toArray) := .agg l xs hl h
theorem list2 {α : Type} {l : List α} (h : l.length = 2) : ∃ a b, l = [a, b] := by
  match l, h with
  | [a, b], _ => exact ⟨a, b, rfl⟩
theorem cInt : Tryd.prog.cellsOf 3 = 1 := by kernel_rfl
end Go.Proofs.YtnblahgocddpbaaDoor

/- Rows of chapter 3 for the abstract machine: arrays opened, what the variables of the package hold. No conditions on a program. -/
namespace Go.Proofs.YtnblahgocddpbaaDoor
open Go Go.ChangeShapes Go.WideShapes Go.ChangeAt Go.RowKit Go.Joins Go.Deep
set_option linter.unusedSimpArgs false
set_option linter.unusedVariables false
theorem arr_of_trod {α H : Type} [Inhabited α] {P : Program} {enc : TypeId × Value → H} {W : World} {sp : Nat → Bool} {held : Bool} {fuel : Nat} {T e : TypeId} {n k : Nat} {cs : List Value} {y : DataW H × List MemPlace} (f : α → List Value) (df : α → DataW H) (hf : ∀ a, (f a).length = k) (hk0 : 0 < k)
    (ht : P.underlying T = some (.array n e)) (hk : P.cellsOf e = k) (hT : P.cellsOf T = n * k)
    (each : ∀ fuel cs x, cs.length = k → DataW.trod enc P W 0 sp held fuel e cs = some x → ∃ a : α, cs = f a ∧ x.1 = df a)
    (h : DataW.trod enc P W 0 sp held fuel T cs = some y) : ∃ xs : List α, xs.length = n ∧ cs = (xs.map f).flatten ∧ y.1 = .agg (xs.map df) := by
  obtain ⟨zs, m, _, hx, hlen, hxl, hi⟩ := DataW.trod_array ht h
  rw [hT] at hlen
  have ex : ∀ i, ∃ z : α, i < n → (cs.drop (i * k)).take k = f z ∧ (zs[i]?).map (·.1) = some (df z) := fun i => by
    by_cases hil : i < n
    · have h1 := hi i hil
      rw [hk] at h1
      have hzi : i < zs.length := by omega
      rw [List.getElem?_eq_getElem hzi] at h1
      have hle : (i + 1) * k ≤ n * k := Nat.mul_le_mul_right k hil
      rw [Nat.succ_mul] at hle
      obtain ⟨z, h2, h3⟩ := each _ _ _ (by simp; omega) h1
      exact ⟨z, fun _ => ⟨h2, by rw [List.getElem?_eq_getElem hzi]; simp [h3]⟩⟩
    · exact ⟨default, fun h => absurd h hil⟩
  obtain ⟨z, hz⟩ := Classical.axiomOfChoice ex
  refine ⟨(List.range n).map z, by simp, ?_, ?_⟩
  · have hfl : (((List.range n).map z).map f).flatten.length = n * k := by
      rw [flatten_length (all_mapV hf), List.length_map, List.length_map, List.length_range]
    refine List.ext_getElem? fun j => ?_
    by_cases hj : j < n * k
    · have hiq : j / k < n := (Nat.div_lt_iff_lt_mul hk0).2 hj
      have hjk : j % k < k := Nat.mod_lt _ hk0
      have e : j = j / k * k + j % k := by have := Nat.div_add_mod j k; rw [Nat.mul_comm] at this; omega
      have hel : (((List.range n).map z).map f)[j / k]? = some (f (z (j / k))) := by simp [hiq]
      have h1 := flat_get (all_mapV hf) hel hjk
      rw [← e] at h1
      rw [h1, ← (hz (j / k) hiq).1, List.getElem?_take_of_lt hjk, List.getElem?_drop, ← e]
    · rw [List.getElem?_eq_none (by omega), List.getElem?_eq_none (by omega)]
  · rw [hx]
    simp only
    congr 1
    refine List.ext_getElem? fun i => ?_
    by_cases hin : i < n
    · rw [List.getElem?_map, (hz i hin).2]; simp [hin]
    · rw [List.getElem?_eq_none (by simp; omega), List.getElem?_eq_none (by simp; omega)]
theorem callsG_of_ok {P : Program} {gs : List (Nat × List AV)} {f : FuncId} {args : List AV} (h : FnOkG P gs f args (fun q => q = .v (.bool true))) {vs : List Value} {W : World} (hl : vs.length = args.length) (hg : GlobR (fun _ => False) W gs) (hR : ∀ (i : Nat) (a : AV) (x : Value), args[i]? = some a → vs[i]? = some x → R0 (fun _ => False) W a x) :
    Calls P f vs.toArray W fun e W' => e = .returned (.bool true) ∧ Ext W W' :=
  (h (fun _ => False) W vs hl hR hg).mono fun e W' ⟨r, v, h1, h2, h3, h4⟩ => by
    subst h2
    cases h3
    exact ⟨h1, h4⟩
theorem c8v : Tryd.prog.cellsOf 71 = 16 := by kernel_rfl
theorem cTh : Tryd.prog.cellsOf 23 = 2 := by kernel_rfl
theorem cVe : Tryd.prog.cellsOf 49 = 2 := by kernel_rfl
def dT {H : Type} (v : V2) : DataW H := .agg [.lit (.int .i64 v.1), .lit (.int .i64 v.2)]
theorem each_pair {H : Type} {enc : TypeId × Value → H} {W : World} {sp : Nat → Bool} {held : Bool} {T : TypeId} {f0 f1 : Field} (ht : Tryd.prog.underlying T = some (.struct #[f0, f1])) (h0t : f0.type = 3 ∧ f0.offset = 0) (h1t : f1.type = 3 ∧ f1.offset = 1) : ∀ (fuel : Nat) (cs : List Value) (x : DataW H × List MemPlace), cs.length = 2 → DataW.trod enc Tryd.prog W 0 sp held fuel T cs = some x → ∃ a : V2, cs = tV a ∧ x.1 = dT a := fun fuel cs x hl hx => by
  obtain ⟨y0, y1, n, rfl, _, h0, h1⟩ := trod_struct2 ht hx
  obtain ⟨u0, u1, rfl⟩ := list2 hl
  rw [h0t.1, h0t.2, cInt] at h0
  rw [h1t.1, h1t.2, cInt] at h1
  simp at h0 h1
  obtain ⟨z0, e0, a0, _⟩ := DataW.trod_int Tryd.underlying3 h0
  obtain ⟨z1, e1, a1, _⟩ := DataW.trod_int Tryd.underlying3 h1
  simp at e0 e1
  subst e0 e1
  exact ⟨(z0, z1), rfl, by rw [a0, a1]; rfl⟩
/-- A variable that is laid, as the machine reads it. -/
theorem r0_var {W : World} {nm : String} {g : Nat} {cs : Array Value} (hg : Tryd.prog.globalNamed nm = some g) (hv : W.var? Tryd.prog nm = some cs) (h0 : 0 < cs.size) {xs : List Value} (hx : cs.toList = xs) : R0 (fun _ => False) W (.ref (xs.map AV.v)) (.pointer (some ⟨g, 0, none⟩)) := by
  have hc : ∀ j, W.cell? ⟨g, j, none⟩ = cs[j]? := fun j => World.var?_cell hg hv j
  have hb : g < W.heap.size := by
    have h1 := hc 0
    rw [Array.getElem?_eq_getElem h0] at h1
    exact World.block_lt_of_cell? W _ h1
  subst hx
  refine .ref _ g 0 (fun i => cs.getD i undef) hb (fun h => h) (fun i a ha => ?_) fun i a ha => ?_
  · have hi : i < cs.size := by have := (List.getElem?_eq_some_iff.1 ha).1; simpa using this
    rw [Nat.zero_add, hc i, Array.getElem?_eq_getElem hi]; simp [hi]
  · have hi : i < cs.size := by have := (List.getElem?_eq_some_iff.1 ha).1; simpa using this
    rw [List.getElem?_map] at ha
    simp [hi] at ha
    subst ha
    simp [hi]
    exact .v _
theorem dT_inj {H : Type} {l m : List V2} (h : l.map (dT (H := H)) = m.map dT) : l = m := by
  refine (List.map_inj_right (f := dT (H := H)) fun a b hab => ?_).1 h
  unfold dT at hab
  simp at hab
  exact Prod.ext hab.1 hab.2
theorem glob_states {W : World} {t : Nat} {cs : Array Value} {fuel : Nat} {p : List MemPlace} (ht : (Tryd.prog.globals[0]?).map (·.type) = some t) (hv : W.var? Tryd.prog "guideway/stator.states" = some cs) (hd : DataW.trod (fun _ => ()) Tryd.prog W 0 (fun _ => true) false fuel t cs.toList = some (Rows.laid_guideway_stator_states, p)) :
    R0 (fun _ => False) W (.ref (stA.map tE).flatten) (.pointer (some ⟨0, 0, none⟩)) := by
  obtain rfl : 71 = t := Option.some.inj ((show (Tryd.prog.globals[0]?).map (·.type) = some 71 by kernel_rfl).symm.trans ht)
  obtain ⟨xs, h1, h2, h3⟩ := arr_of_trod (k := 2) tV dT (fun _ => rfl) (by omega) Tryd.underlying71 cVe c8v (each_pair Tryd.underlying49 ⟨rfl, rfl⟩ ⟨rfl, rfl⟩) hd
  have hx : xs = stA := by
    refine dT_inj (H := Unit) ?_
    have : DataW.agg (xs.map dT) = DataW.agg (stA.map (dT (H := Unit))) := by rw [← h3]; rfl
    exact DataW.agg.inj this
  subst hx
  have := r0_var (W := W) (show Tryd.prog.globalNamed "guideway/stator.states" = some 0 by kernel_rfl) hv (by rw [← Array.length_toList, h2]; decide) h2
  rwa [← flat_mapV (f := tE) (g := tV) (fun _ => rfl)] at this
theorem globT_of {W : World} (h : laidMetH Tryd.prog [("guideway/stator.states", Rows.laid_guideway_stator_states)] W) : GlobR (fun _ => False) W gT := by
  obtain ⟨ps, ⟨g', t', cs, fuel, p, q, hg', ht', hvar, hd, _, _⟩, _⟩ := h
  obtain rfl : 0 = g' := Option.some.inj ((show Tryd.prog.globalNamed "guideway/stator.states" = some 0 by kernel_rfl).symm.trans hg')
  intro x hx
  obtain rfl : x = (0, (stA.map tE).flatten) := by simpa [gT] using hx
  exact glob_states ht' hvar hd
end Go.Proofs.YtnblahgocddpbaaDoor

/- Rows of chapter 3: numbers, vectors and slices of these opened for the abstract machine. No conditions on a program. -/
namespace Go.Proofs.YtnblahgocddpbaaDoor
open Go Go.ChangeShapes Go.WideShapes Go.ChangeAt Go.RowKit Go.Joins Go.Deep
set_option linter.unusedSimpArgs false
set_option linter.unusedVariables false
set_option maxRecDepth 100000 in
set_option maxHeartbeats 1000000 in
theorem open_numS {H : Type} {enc : TypeId × Value → H} {W : World} {base : Nat} {v : Value} {d : DataW H} {p : List MemPlace} (hv : Value.okWide Tryd.prog W .any base 3 v)
    (h : DataW.Trod enc Tryd.prog W 0 (fun _ => true) true 3 v d p) : ∃ z : Int, R0 (fun _ => False) W (nA z) v := by
  obtain ⟨z, rfl, _, _, _⟩ := open_int Tryd.underlying3 hv h
  exact ⟨z, .v _⟩
set_option maxRecDepth 100000 in
set_option maxHeartbeats 1000000 in
theorem open_thirdS {H : Type} {enc : TypeId × Value → H} {W : World} {base : Nat} {v : Value} {d : DataW H} {p : List MemPlace} (hv : Value.okWide Tryd.prog W .any base 23 v)
    (h : DataW.Trod enc Tryd.prog W 0 (fun _ => true) true 23 v d p) : ∃ u : V2, R0 (fun _ => False) W (tA u) v := by
  obtain ⟨cs, rfl, hsz⟩ := okWide_struct Tryd.underlying23 hv
  rw [cTh] at hsz
  obtain ⟨fuel, hf⟩ := h
  obtain ⟨a, h1, _⟩ := each_pair Tryd.underlying23 ⟨rfl, rfl⟩ ⟨rfl, rfl⟩ _ _ _ (by simpa [Value.cells] using hsz) hf
  have h1 : cs.toList = tV a := h1
  refine ⟨a, ?_⟩
  rw [← Array.toArray_toList (xs := cs), h1]
  refine r0_agg (xs := tV a) rfl fun i a' x ha hx => ?_
  match i, ha, hx with
  | 0, ha, hx => cases ha; cases hx; exact .v _
  | 1, ha, hx => cases ha; cases hx; exact .v _
end Go.Proofs.YtnblahgocddpbaaDoor

/- Plain facts of chapter 3 on pulses: what is left, and how near. No program in sight. -/
namespace Go.Proofs.YtnblahgocddpbaaDoor
open Go Go.RowKit Go.Proofs
set_option linter.unusedSimpArgs false
set_option linter.unusedVariables false

theorem w64 {n : Int} (h1 : -9000000000000000000 ≤ n) (h2 : n ≤ 9000000000000000000) : wrap64 n = n := by unfold wrap64; omega
theorem nearL_form (s : Int) (v : V2) : ∀ (l : List (Int × V2)) (b : Int) (z : V2), (nearL s v l b z = (b, z)) ∨ ∃ k x, (k, x) ∈ l ∧ nearL s v l b z = (k, subW v (byW x s))
  | [], b, z => .inl rfl
  | (k, x) :: r, b, z => by
    simp only [nearL]
    split
    · rcases nearL_form s v r k (subW v (byW x s)) with h | ⟨k', x', h1, h2⟩
      · exact .inr ⟨k, x, by simp, h⟩
      · exact .inr ⟨k', x', by simp [h1], h2⟩
    · rcases nearL_form s v r b z with h | ⟨k', x', h1, h2⟩
      · exact .inl h
      · exact .inr ⟨k', x', by simp [h1], h2⟩
theorem nearL_min (s : Int) (v : V2) : ∀ (l : List (Int × V2)) (b : Int) (z : V2), normW (nearL s v l b z).2 ≤ normW z ∧ ∀ k x, (k, x) ∈ l → normW (nearL s v l b z).2 ≤ normW (subW v (byW x s))
  | [], b, z => ⟨Int.le_refl _, fun _ _ h => by simp at h⟩
  | (k, x) :: r, b, z => by
    simp only [nearL]
    split
    · rename_i hlt
      obtain ⟨h1, h2⟩ := nearL_min s v r k (subW v (byW x s))
      refine ⟨by omega, fun k' x' hm => ?_⟩
      simp only [List.mem_cons, Prod.mk.injEq] at hm
      rcases hm with ⟨rfl, rfl⟩ | hm
      · exact h1
      · exact h2 k' x' hm
    · rename_i hlt
      obtain ⟨h1, h2⟩ := nearL_min s v r b z
      refine ⟨h1, fun k' x' hm => ?_⟩
      simp only [List.mem_cons, Prod.mk.injEq] at hm
      rcases hm with ⟨rfl, rfl⟩ | hm
      · omega
      · exact h2 k' x' hm
theorem stT_mem {k : Int} {x : V2} (h : (k, x) ∈ stT) : (0 ≤ k ∧ k ≤ 7) ∧ x = stA.getD k.toNat default ∧ x ∈ stA := by
  simp only [stT, List.mem_cons, List.not_mem_nil, or_false, Prod.mk.injEq] at h
  rcases h with ⟨rfl, rfl⟩ | ⟨rfl, rfl⟩ | ⟨rfl, rfl⟩ | ⟨rfl, rfl⟩ | ⟨rfl, rfl⟩ | ⟨rfl, rfl⟩ | ⟨rfl, rfl⟩ | ⟨rfl, rfl⟩ <;> decide
theorem stA_stT {u : V2} (h : u ∈ stA) : ∃ k, (k, u) ∈ stT := by
  simp only [stA, List.mem_cons, List.not_mem_nil, or_false] at h
  rcases h with rfl | rfl | rfl | rfl | rfl | rfl | rfl | rfl
  · exact ⟨0, by decide⟩
  · exact ⟨1, by decide⟩
  · exact ⟨2, by decide⟩
  · exact ⟨3, by decide⟩
  · exact ⟨4, by decide⟩
  · exact ⟨5, by decide⟩
  · exact ⟨6, by decide⟩
  · exact ⟨7, by decide⟩
theorem stA_bd {u : V2} (h : u ∈ stA) : Bd 1 u := by
  simp only [stA, List.mem_cons, List.not_mem_nil, or_false] at h
  rcases h with rfl | rfl | rfl | rfl | rfl | rfl | rfl | rfl <;> exact ⟨⟨by decide, by decide⟩, by decide, by decide⟩
theorem step_eq {v x : V2} {s : Int} (hv : Bd 1000000 v) (hx : x ∈ stA) (hs : 0 ≤ s ∧ s ≤ 100000) : subW v (byW x s) = subV v (byV s x) ∧ Bd 1100000 (subV v (byV s x)) := by
  obtain ⟨⟨a1, a2⟩, a3, a4⟩ := hv
  simp only [stA, List.mem_cons, List.not_mem_nil, or_false] at hx
  rcases hx with rfl | rfl | rfl | rfl | rfl | rfl | rfl | rfl <;> simp only [subW, byW, subV, byV, Int.mul_zero, Int.mul_one, Int.mul_neg] <;>
    refine ⟨?_, ⟨by simp only; omega, by simp only; omega⟩, by simp only; omega, by simp only; omega⟩ <;> ext <;> simp only <;> unfold wrap64 <;> omega
theorem norm_eq {v : V2} (h : Bd 1100000 v) : normW v = sqV v := by
  have m1 := mulBd h.1 h.1
  have m2 := mulBd h.1 h.2
  have m3 := mulBd h.2 h.2
  unfold normW sqV
  rw [w64 (n := v.1 * v.1) (by omega) (by omega), w64 (n := v.1 * v.2) (by omega) (by omega), w64 (n := v.2 * v.2) (by omega) (by omega), w64 (n := v.1 * v.1 - v.1 * v.2) (by omega) (by omega), w64 (by omega) (by omega)]
/-- The nearest state: which, what is left, and that none is nearer. -/
theorem near_one {v : V2} {s : Int} (hv : Bd 1000000 v) (hs : 0 ≤ s ∧ s ≤ 100000) : (0 ≤ (nearW s v).1 ∧ (nearW s v).1 ≤ 7) ∧ (nearW s v).2 = subV v (byV s (stA.getD (nearW s v).1.toNat default)) ∧ ∀ u ∈ stA, sqV (nearW s v).2 ≤ sqV (subV v (byV s u)) := by
  have form : (0 ≤ (nearW s v).1 ∧ (nearW s v).1 ≤ 7) ∧ (nearW s v).2 = subV v (byV s (stA.getD (nearW s v).1.toNat default)) ∧ Bd 1100000 (nearW s v).2 := by
    unfold nearW
    rcases nearL_form s v stT 0 v with h | ⟨k, x, hm, h⟩
    · rw [h]
      refine ⟨⟨Int.le_refl 0, by show (0 : Int) ≤ 7; decide⟩, ?_, hv.mono (by decide)⟩
      show v = subV v (byV s (0, 0))
      simp [subV, byV]
    · rw [h]
      obtain ⟨h1, h2, h3⟩ := stT_mem hm
      obtain ⟨e1, e2⟩ := step_eq hv h3 hs
      exact ⟨h1, by simp only; rw [e1, ← h2], by simp only; rw [e1]; exact e2⟩
  refine ⟨form.1, form.2.1, fun u hu => ?_⟩
  obtain ⟨k, hk⟩ := stA_stT hu
  have h := (nearL_min s v stT 0 v).2 k u hk
  obtain ⟨e1, e2⟩ := step_eq hv hu hs
  rw [e1, norm_eq e2] at h
  have e3 := norm_eq form.2.2
  unfold nearW at e3 ⊢
  rw [e3] at h
  exact h
theorem addW_eq {u v : V2} (hu : Bd 500000 u) (hv : Bd 100000 v) : addW u v = addV u v := by
  obtain ⟨⟨a1, a2⟩, a3, a4⟩ := hu
  obtain ⟨⟨b1, b2⟩, b3, b4⟩ := hv
  unfold addW addV
  rw [w64 (by omega) (by omega), w64 (by omega) (by omega)]
/-- The states of all pulses, and what is left behind each, one by one. -/
theorem modGo_at (s : Int) : ∀ (cs : List V2) (l : V2) (i : Nat), i < cs.length → (modGo s l cs).getD i default = nearW s (addW (if i = 0 then l else ((modGo s l cs).getD (i - 1) default).2) (cs.getD i default))
  | [], _, _, h => by simp at h
  | c :: cs, l, 0, _ => rfl
  | c :: cs, l, i + 1, h => by
    have ih := modGo_at s cs (nearW s (addW l c)).2 i (by simpa using h)
    have e1 : (modGo s l (c :: cs)).getD (i + 1) default = (modGo s (nearW s (addW l c)).2 cs).getD i default := rfl
    have e2 : (if i + 1 = 0 then l else ((modGo s l (c :: cs)).getD (i + 1 - 1) default).2) = (if i = 0 then (nearW s (addW l c)).2 else ((modGo s (nearW s (addW l c)).2 cs).getD (i - 1) default).2) := by
      rw [if_neg (Nat.succ_ne_zero i)]
      cases i with
      | zero => rfl
      | succ i => rw [if_neg (Nat.succ_ne_zero i)]; rfl
    rw [e1, ih, e2]; rfl
def lfP (s : Int) (cs : List V2) (i : Nat) : V2 := if i = 0 then (0, 0) else (moL s cs).getD (i - 1) default
theorem moL_at (s : Int) (cs : List V2) (i : Nat) : (moL s cs).getD i default = ((modGo s (0, 0) cs).getD i default).2 := by
  simp only [moL, List.getD_eq_getElem?_getD, List.getElem?_map]
  cases (modGo s (0, 0) cs)[i]? <;> rfl
theorem moS_at (s : Int) (cs : List V2) (i : Nat) : (moS s cs).getD i default = ((modGo s (0, 0) cs).getD i default).1 := by
  simp only [moS, List.getD_eq_getElem?_getD, List.getElem?_map]
  cases (modGo s (0, 0) cs)[i]? <;> rfl
/-- One pulse. -/
theorem pulse {s : Int} {cs : List V2} (hs : 1 ≤ s ∧ s ≤ 1000) (hc : ∀ v ∈ cs, Bd 1000 v) : ∀ i : Nat, i < cs.length → i ≤ 60 → Bd (2000 * i) (lfP s cs i) ∧ (0 ≤ (moS s cs).getD i default ∧ (moS s cs).getD i default ≤ 7) ∧
    (moL s cs).getD i default = subV (addV (lfP s cs i) (cs.getD i default)) (byV s (stA.getD ((moS s cs).getD i default).toNat default)) ∧ Bd (2000 * ((i : Int) + 1)) ((moL s cs).getD i default) ∧
    ∀ u ∈ stA, sqV ((moL s cs).getD i default) ≤ sqV (subV (addV (lfP s cs i) (cs.getD i default)) (byV s u)) := by
  intro i
  induction i with
  | zero =>
    intro hi _
    have hb : Bd 1000 (cs.getD 0 default) := Bd.getD hc (by decide) 0
    have e0 : addW (0, 0) (cs.getD 0 default) = addV (0, 0) (cs.getD 0 default) := addW_eq ⟨⟨by decide, by decide⟩, by decide, by decide⟩ (hb.mono (by decide))
    have hv : Bd 1000000 (addV (0, 0) (cs.getD 0 default)) := (add_bd (M := 0) ⟨⟨by decide, by decide⟩, by decide, by decide⟩ hb).mono (by decide)
    have h1 := modGo_at s cs (0, 0) 0 hi
    rw [if_pos rfl, e0] at h1
    obtain ⟨n1, n2, n3⟩ := near_one hv (s := s) (by omega)
    rw [moL_at, moS_at, h1]
    refine ⟨show Bd (2000 * ((0 : Nat) : Int)) (0, 0) from ⟨⟨by simp, by simp⟩, by simp, by simp⟩, n1, n2, ?_, n3⟩
    rw [n2]
    have hst : Bd 1 (stA.getD (nearW s (addV (0, 0) (cs.getD 0 default))).1.toNat default) := Bd.getD (fun u hu => stA_bd hu) (by decide) _
    generalize stA.getD (nearW s (addV (0, 0) (cs.getD 0 default))).1.toNat default = t at hst
    have m1 := mulBd (A := 1000) (a := s) (by omega) hst.1
    have m2 := mulBd (A := 1000) (a := s) (by omega) hst.2
    obtain ⟨⟨b1, b2⟩, b3, b4⟩ := hb
    refine ⟨⟨?_, ?_⟩, ?_, ?_⟩ <;> simp only [subV, addV, byV] <;> omega
  | succ i ih =>
    intro hi h60
    obtain ⟨_, _, _, g4, _⟩ := ih (by omega) (by omega)
    have hb : Bd 1000 (cs.getD (i + 1) default) := Bd.getD hc (by decide) _
    have el : lfP s cs (i + 1) = (moL s cs).getD i default := by unfold lfP; rw [if_neg (by omega)]; rfl
    have hl : Bd (2000 * ((i : Int) + 1)) (lfP s cs (i + 1)) := by rw [el]; exact g4
    have e0 : addW (lfP s cs (i + 1)) (cs.getD (i + 1) default) = addV (lfP s cs (i + 1)) (cs.getD (i + 1) default) := addW_eq (hl.mono (by omega)) (hb.mono (by decide))
    have hv : Bd 1000000 (addV (lfP s cs (i + 1)) (cs.getD (i + 1) default)) := (add_bd hl hb).mono (by omega)
    have h1 := modGo_at s cs (0, 0) (i + 1) hi
    rw [if_neg (by omega), Nat.add_sub_cancel, ← moL_at, ← el, e0] at h1
    obtain ⟨n1, n2, n3⟩ := near_one hv (s := s) (by omega)
    rw [moL_at, moS_at, h1]
    refine ⟨hl.mono (by omega), n1, n2, ?_, n3⟩
    rw [n2]
    have hst : Bd 1 (stA.getD (nearW s (addV (lfP s cs (i + 1)) (cs.getD (i + 1) default))).1.toNat default) := Bd.getD (fun u hu => stA_bd hu) (by decide) _
    generalize stA.getD (nearW s (addV (lfP s cs (i + 1)) (cs.getD (i + 1) default))).1.toNat default = t at hst
    have m1 := mulBd (A := 1000) (a := s) (by omega) hst.1
    have m2 := mulBd (A := 1000) (a := s) (by omega) hst.2
    generalize lfP s cs (i + 1) = l at *
    obtain ⟨⟨b1, b2⟩, b3, b4⟩ := hb
    obtain ⟨⟨c1, c2⟩, c3, c4⟩ := hl
    refine ⟨⟨?_, ?_⟩, ?_, ?_⟩ <;> simp only [subV, addV, byV] <;> omega
theorem sq_nonneg (n : Int) : 0 ≤ n * n := by
  rcases Int.le_total 0 n with hq | hq
  · exact Int.mul_nonneg hq hq
  · exact Int.mul_nonneg_of_nonpos_of_nonpos hq hq
theorem sqV_nonneg (v : V2) : 0 ≤ sqV v := by
  have m4 : 4 * sqV v = (2 * v.1 - v.2) * (2 * v.1 - v.2) + 3 * (v.2 * v.2) := by unfold sqV; grind
  have := sq_nonneg (2 * v.1 - v.2)
  have := sq_nonneg v.2
  omega
end Go.Proofs.YtnblahgocddpbaaDoor

/- The law of chapter 3 on orders and samples. The variables of the package hold what the text lays. -/
namespace Go.Proofs.YtnblahgocddpbaaDoor
open Go Go.RowKit Go.Proofs
set_option linter.unusedSimpArgs false
set_option linter.unusedVariables false
theorem h10_az23 : (Tryd.prog.info? 23).bind (·.zero) = some (.agg #[.int .i64 0, .int .i64 0]) := by kernel_rfl
theorem h10_az43 : (Tryd.prog.info? 43).bind (·.zero) = some (.agg #[.slice none 0 0, .slice none 0 0]) := by kernel_rfl
theorem h10_bz23 : (Tryd.prog.info? 23).bind (·.zero) = some (.agg #[.int .i64 0, .int .i64 0]) := by kernel_rfl
theorem h10_bu23 : Tryd.prog.underlying 23 = some (.struct (fsOf Tryd.prog 23)) := by kernel_rfl
theorem h10_bp23 : ∀ w, ((fsOf Tryd.prog 23).mapM fun f => Prod.mk f.offset <$> sizeOf f.type : Sem (Array (Nat × Nat))).run Tryd.prog w = .ok (#[(0, 1), (1, 1)]) w := fun _ => by kernel_rfl
theorem h10_bz36 : (Tryd.prog.info? 36).bind (·.zero) = some (.agg #[.slice none 0 0]) := by kernel_rfl
theorem h10_bu36 : Tryd.prog.underlying 36 = some (.struct (fsOf Tryd.prog 36)) := by kernel_rfl
theorem h10_bp36 : ∀ w, ((fsOf Tryd.prog 36).mapM fun f => Prod.mk f.offset <$> sizeOf f.type : Sem (Array (Nat × Nat))).run Tryd.prog w = .ok (#[(0, 1)]) w := fun _ => by kernel_rfl
theorem h10_bz38 : (Tryd.prog.info? 38).bind (·.zero) = some (.agg #[.int .i64 0, .int .i64 0]) := by kernel_rfl
theorem h10_bu38 : Tryd.prog.underlying 38 = some (.struct (fsOf Tryd.prog 38)) := by kernel_rfl
theorem h10_bp38 : ∀ w, ((fsOf Tryd.prog 38).mapM fun f => Prod.mk f.offset <$> sizeOf f.type : Sem (Array (Nat × Nat))).run Tryd.prog w = .ok (#[(0, 1), (1, 1)]) w := fun _ => by kernel_rfl
theorem h10_bz41 : (Tryd.prog.info? 41).bind (·.zero) = some (.agg #[.slice none 0 0, .int .i64 0, .int .i64 0, .int .i64 0]) := by kernel_rfl
theorem h10_bu41 : Tryd.prog.underlying 41 = some (.struct (fsOf Tryd.prog 41)) := by kernel_rfl
theorem h10_bp41 : ∀ w, ((fsOf Tryd.prog 41).mapM fun f => Prod.mk f.offset <$> sizeOf f.type : Sem (Array (Nat × Nat))).run Tryd.prog w = .ok (#[(0, 1), (1, 2), (3, 1)]) w := fun _ => by kernel_rfl
theorem h10_fl43_0 : FldIs Tryd.prog 43 0 0 false 1 := by unfold FldIs; kernel_rfl
theorem h10_fl43_1 : FldIs Tryd.prog 43 1 1 false 1 := by unfold FldIs; kernel_rfl
theorem h10_hcf10 : ∀ args w, (callFunc 10 args).run Tryd.prog w = .ok (.enter 10 args) w := fun _ _ => by kernel_rfl
theorem h10_hcf11 : ∀ args w, (callFunc 11 args).run Tryd.prog w = .ok (.enter 11 args) w := fun _ _ => by kernel_rfl
theorem h10_hcf12 : ∀ args w, (callFunc 12 args).run Tryd.prog w = .ok (.enter 12 args) w := fun _ _ => by kernel_rfl
theorem h10_hcf13 : ∀ args w, (callFunc 13 args).run Tryd.prog w = .ok (.enter 13 args) w := fun _ _ => by kernel_rfl
theorem h10_hcf9 : ∀ args w, (callFunc 9 args).run Tryd.prog w = .ok (.enter 9 args) w := fun _ _ => by kernel_rfl
theorem h10_sl34 : SlIs Tryd.prog 34 3 1 8 (.int .i64 0) := ⟨by kernel_rfl, by kernel_rfl, by kernel_rfl⟩
theorem h10_sl39 : SlIs Tryd.prog 39 23 2 16 (.agg #[.int .i64 0, .int .i64 0]) := ⟨by kernel_rfl, by kernel_rfl, by kernel_rfl⟩
theorem h10_sz23 : (Tryd.prog.info? 23).map (·.size) = some 2 := by kernel_rfl
theorem h10_sz43 : (Tryd.prog.info? 43).map (·.size) = some 2 := by kernel_rfl
theorem h10_ty23 : TyIs Tryd.prog 23 true 2 := ⟨by kernel_rfl, by kernel_rfl⟩
theorem h10_ty3 : TyIs Tryd.prog 3 false 1 := ⟨by kernel_rfl, by kernel_rfl⟩
theorem h10_ty34 : TyIs Tryd.prog 34 false 1 := ⟨by kernel_rfl, by kernel_rfl⟩
theorem h10_ty39 : TyIs Tryd.prog 39 false 1 := ⟨by kernel_rfl, by kernel_rfl⟩

set_option maxRecDepth 100000 in
set_option maxHeartbeats 1000000 in
theorem bInts_ok (a b : List Int) (ha : a.length ≤ 1000000000) (hb : b.length ≤ 1000000000) : FnOk Tryd.prog 12 [.row 1 (a.map iE), .row 1 (b.map iE)] (fun q => q = oA (decide (a = b))) := by
  refine fnOk_of (fn := Tryd.f12) 26 (by kernel_rfl) rfl (by kernel_rfl) (Nat.le_of_ble_eq_true rfl) ?_
  intro e_0 m_0 hA hm_0
  have s0_0 : evA e_0 (.tmp 0) = _ := hA 0 _ rfl
  have s1_0 : evA e_0 (.tmp 1) = _ := hA 1 _ rfl
  have ml_0 : m_0.length = 0 := by rw [hm_0]; rfl
  clear hA hm_0
  refine aw_seq ?_
  refine aw_text (by kernel_rfl) ?_
  refine al_ro' (ro_assign ev_c) trivial rfl ?_
  refine al_end (fun e_1 he_1 => ?_)
  have s0_1 := ef 0 he_1 (up_m rfl s0_0)
  have s1_1 := ef 1 he_1 (up_m rfl s1_0)
  clear he_1 s0_0 s1_0
  refine then_n ?_
  refine aw_seq ?_
  refine aw_seq ?_
  refine aw_text (by kernel_rfl) ?_
  refine al_ro' (ro_move s0_1) trivial rfl ?_
  refine al_ro' (ro_eq (ro_len_row up_h rfl h10_sl34.1) (by first | (simp only [lnS] <;> rfl) | rfl)) trivial rfl ?_
  refine al_ro' (ro_move (u2 rfl s1_1)) trivial rfl ?_
  refine al_ro' (ro_eq (ro_len_row up_h rfl h10_sl34.1) (by first | (simp only [lnS] <;> rfl) | rfl)) trivial rfl ?_
  refine al_ro' (ro_neq (u2 rfl up_h) up_h) trivial rfl ?_
  refine al_end (fun e_2 he_2 => ?_)
  have s0_2 := ef 0 he_2 (up_m rfl (u4 rfl s0_1))
  have s1_2 := ef 1 he_2 (up_m rfl (u4 rfl s1_1))
  have s10_2 := ef 10 he_2 up_h
  clear he_2 s0_1 s1_1
  refine then_n ?_
  refine aw_case s10_2 (fun hq_3 => ?_) (fun hq_3 => ?_)
  · (first | replace hq_3 := bnt hq_3 | replace hq_3 := bnf hq_3 | replace hq_3 := bt hq_3 | replace hq_3 := bf hq_3 | replace hq_3 := bt' hq_3 | replace hq_3 := bf' hq_3 | skip)
    first
    | (cases hq_3; done) | (exfalso; omega)
    | (
       refine aw_seq ?_
       refine aw_text (by kernel_rfl) ?_
       refine al_ro' (ro_assign ev_c) trivial rfl ?_
       refine al_end (fun e_4 he_4 => ?_)
       have s4_4 := ef 4 he_4 up_h
       clear he_4 s0_2 s10_2 s1_2
       refine then_n ?_
       refine aw_ret ?_
       refine then_r ?_
       refine ret1 (.inr rfl) (by kernel_rfl) (resV_tmp s4_4) (.ro _ rfl) ?_
       clear s4_4  ml_0
       (have hne : ¬ a = b := (fun hc => absurd (congrArg List.length hc) (by omega)); rw [decide_eq_false hne]))
  · (first | replace hq_3 := bnt hq_3 | replace hq_3 := bnf hq_3 | replace hq_3 := bt hq_3 | replace hq_3 := bf hq_3 | replace hq_3 := bt' hq_3 | replace hq_3 := bf' hq_3 | skip)
    first
    | (cases hq_3; done) | (exfalso; omega)
    | (
       (have hl : a.length = b.length := (by omega))
       refine aw_skip ?_
       refine then_n ?_
       refine aw_seq ?_
       refine aw_seq ?_
       refine aw_text (by kernel_rfl) ?_
       refine al_ro' (ro_assign ev_c) trivial rfl ?_
       refine al_end (fun e_5 he_5 => ?_)
       have s0_5 := ef 0 he_5 (up_m rfl s0_2)
       have s1_5 := ef 1 he_5 (up_m rfl s1_2)
       have s5_5 := ef 5 he_5 up_h
       clear he_5 s0_2 s10_2 s1_2
       refine then_n ?_
       refine aw_block ?_
       refine aw_loop (S := Int) (fun i e mem => (evA e (.tmp 5) = .v (.int .i64 i)) ∧ (evA e (.tmp 0) = evA e_5 (.tmp 0)) ∧ (evA e (.tmp 1) = evA e_5 (.tmp 1)) ∧ (mem.length = 0) ∧ ((0 ≤ i ∧ i ≤ a.length ∧ a.length = b.length ∧ ∀ j : Nat, j < i → a.getD j default = b.getD j default))) (fun i => (a.length - i).toNat) _ ⟨s5_5, rfl, rfl, ml_0, ?_⟩ ?_
       · (refine ⟨by omega, by omega, by omega, fun j hj => absurd hj (by omega)⟩)
       · rintro i e_6 m_6 ⟨s5_6, k0_6, k1_6, ml_6, hinv⟩
         have s0_6 := k0_6.trans s0_5
         have s1_6 := k1_6.trans s1_5
         (have hl := hinv.2.2.1)
         refine aw_seq ?_
         refine aw_seq ?_
         refine aw_text (by kernel_rfl) ?_
         refine al_ro' (ro_move s5_6) trivial rfl ?_
         refine al_ro' (ro_move (up_m rfl s0_6)) trivial rfl ?_
         refine al_ro' (ro_eq (ro_len_row up_h rfl h10_sl34.1) (by first | (simp only [lnS] <;> rfl) | rfl)) trivial rfl ?_
         refine al_ro' (ro_lss (u2 rfl up_h) up_h) trivial rfl ?_
         refine al_end (fun e_7 he_7 => ?_)
         have s0_7 := ef 0 he_7 (u4 rfl s0_6)
         have s1_7 := ef 1 he_7 (u4 rfl s1_6)
         have s5_7 := ef 5 he_7 (u4 rfl s5_6)
         have s14_7 := ef 14 he_7 up_h
         clear he_7 s0_6 s1_6 s5_6
         refine then_n ?_
         refine aw_case s14_7 (fun hq_8 => ?_) (fun hq_8 => ?_)
         · (first | replace hq_8 := bnt hq_8 | replace hq_8 := bnf hq_8 | replace hq_8 := bt hq_8 | replace hq_8 := bf hq_8 | replace hq_8 := bt' hq_8 | replace hq_8 := bf' hq_8 | skip)
           first
           | (cases hq_8; done) | (exfalso; omega)
           | (
              (have hx := hinv.2.1)
              refine aw_skip ?_
              refine then_n ?_
              refine aw_seq ?_
              refine aw_block ?_
              refine aw_seq ?_
              refine aw_draw 9 (by kernel_rfl) (by kernel_rfl) (by kernel_rfl) (by kernel_rfl) ?_
              refine ds_ro' (ro_move s0_7) trivial rfl ?_
              refine ds_ro' (ro_move (up_m rfl s5_7)) trivial rfl ?_
              refine ds_ro' (ro_eq (ro_ix h10_sl34 (up_m rfl up_h) up_h (by first | decide | omega | (simp <;> omega)) (by first | (refine idx_map ?_; first | omega | (simp only [lnS]; omega)) | (refine idx_mapI ?_; first | omega | (simp only [lnS]; omega)) | (refine idx_mapN ?_; first | omega | (simp only [lnS]; omega)) | rfl)) (by first | (simp only [packA_t, packA_f, iE, bE, setAt, cellsA, Value.cells, map_vc, map_vn, Nat.reduceAdd, qS] <;> rfl) | rfl)) trivial rfl ?_
              refine ds_ro' (ro_eq (ro_ld_ref h10_ty3 rfl up_h (by first | exact Nat.le_of_ble_eq_true rfl | omega | (simp only [lnS] <;> omega) | (simp <;> omega))) (by first | (simp only [packA_t, packA_f, iE, bE, setAt, cellsA, Value.cells, map_vc, map_vn, Nat.reduceAdd, qS] <;> rfl) | rfl)) trivial rfl ?_
              refine ds_ro' (ro_move (u4 rfl s1_7)) trivial rfl ?_
              refine ds_ro' (ro_move (up_m rfl (u4 rfl s5_7))) trivial rfl ?_
              refine ds_ro' (ro_eq (ro_ix h10_sl34 (up_m rfl up_h) up_h (by first | decide | omega | (simp <;> omega)) (by first | (refine idx_map ?_; first | omega | (simp only [lnS]; omega)) | (refine idx_mapI ?_; first | omega | (simp only [lnS]; omega)) | (refine idx_mapN ?_; first | omega | (simp only [lnS]; omega)) | rfl)) (by first | (simp only [packA_t, packA_f, iE, bE, setAt, cellsA, Value.cells, map_vc, map_vn, Nat.reduceAdd, qS] <;> rfl) | rfl)) trivial rfl ?_
              refine ds_ro' (ro_eq (ro_ld_ref h10_ty3 rfl up_h (by first | exact Nat.le_of_ble_eq_true rfl | omega | (simp only [lnS] <;> omega) | (simp <;> omega))) (by first | (simp only [packA_t, packA_f, iE, bE, setAt, cellsA, Value.cells, map_vc, map_vn, Nat.reduceAdd, qS] <;> rfl) | rfl)) trivial rfl ?_
              refine ds_ro' (ro_neq (u4 rfl up_h) up_h) trivial rfl ?_
              refine ds_nil ?_
              refine al_end (fun e_9 he_9 => ?_)
              have s0_9 := ef 0 he_9 (up_m rfl (u8 rfl s0_7))
              have s1_9 := ef 1 he_9 (up_m rfl (u8 rfl s1_7))
              have s5_9 := ef 5 he_9 (up_m rfl (u8 rfl s5_7))
              have s25_9 := ef 25 he_9 up_h
              clear he_9 s0_7 s14_7 s1_7 s5_7
              refine then_n ?_
              refine aw_case s25_9 (fun hq_10 => ?_) (fun hq_10 => ?_)
              · (first | replace hq_10 := bnt hq_10 | replace hq_10 := bnf hq_10 | replace hq_10 := bt hq_10 | replace hq_10 := bf hq_10 | replace hq_10 := bt' hq_10 | replace hq_10 := bf' hq_10 | skip)
                first
                | (cases hq_10; done) | (exfalso; omega)
                | (
                   refine aw_seq ?_
                   refine aw_text (by kernel_rfl) ?_
                   refine al_ro' (ro_assign ev_c) trivial rfl ?_
                   refine al_end (fun e_11 he_11 => ?_)
                   have s4_11 := ef 4 he_11 up_h
                   clear he_11 s0_9 s1_9 s25_9 s5_9
                   refine then_n ?_
                   refine aw_ret ?_
                   refine block_r ?_
                   refine then_r ?_
                   refine then_r ?_
                   refine block_r ?_
                   refine then_r ?_
                   refine ret1 (.inr rfl) (by kernel_rfl) (resV_tmp s4_11) (.ro _ rfl) ?_
                   clear s4_11  ml_6
                   (have hne : ¬ a = b := (fun hc => absurd (congrArg (fun l => l.getD i.toNat default) hc) (by assumption)); rw [decide_eq_false hne]))
              · (first | replace hq_10 := bnt hq_10 | replace hq_10 := bnf hq_10 | replace hq_10 := bt hq_10 | replace hq_10 := bf hq_10 | replace hq_10 := bt' hq_10 | replace hq_10 := bf' hq_10 | skip)
                first
                | (cases hq_10; done) | (exfalso; omega)
                | (
                   refine aw_skip ?_
                   refine block_n ?_
                   refine then_n ?_
                   refine aw_text (by kernel_rfl) ?_
                   refine al_ro' (ro_move s5_9) trivial rfl ?_
                   first | (refine al_ro' (ro_add' up_h ev_c ?_) trivial rfl ?_; · (unfold In64; omega)) | refine al_ro' (ro_add up_h ev_c) trivial rfl ?_
                   refine al_ro' (ro_assign up_h) trivial rfl ?_
                   refine al_end (fun e_12 he_12 => ?_)
                   have s0_12 := ef 0 he_12 (up_m rfl (u2 rfl s0_9))
                   have s1_12 := ef 1 he_12 (up_m rfl (u2 rfl s1_9))
                   have s5_12 := ef 5 he_12 up_h
                   clear he_12 s0_9 s1_9 s25_9 s5_9
                   refine then_n ?_
                   refine ⟨_, ⟨s5_12, (s0_12.trans s0_5.symm), (s1_12.trans s1_5.symm), ml_6, ?_⟩, ?_⟩
                   · (obtain ⟨p1, p2, p3, p4⟩ := hinv; refine ⟨by omega, by omega, p3, fun j hj => ?_⟩; by_cases hji : j = i.toNat; (rw [hji]; assumption); exact p4 j (by omega))
                   · ((try dsimp only); omega)))
         · (first | replace hq_8 := bnt hq_8 | replace hq_8 := bnf hq_8 | replace hq_8 := bt hq_8 | replace hq_8 := bf hq_8 | replace hq_8 := bt' hq_8 | replace hq_8 := bf' hq_8 | skip)
           first
           | (cases hq_8; done) | (exfalso; omega)
           | (
              refine aw_exit ?_
              refine then_x ?_
              refine then_x ?_
              refine block_hit ?_
              refine then_n ?_
              refine aw_seq ?_
              refine aw_text (by kernel_rfl) ?_
              refine al_ro' (ro_assign ev_c) trivial rfl ?_
              refine al_end (fun e_13 he_13 => ?_)
              have s4_13 := ef 4 he_13 up_h
              clear he_13 s0_7 s14_7 s1_7 s5_7
              refine then_n ?_
              refine aw_ret ?_
              refine ret1 (.inr rfl) (by kernel_rfl) (resV_tmp s4_13) (.ro _ rfl) ?_
              clear s4_13  ml_6
              (obtain ⟨p1, p2, p3, p4⟩ := hinv; refine congrArg oA ?_; simp; exact list_ext' (by omega) fun j hj => p4 j (by omega))))
theorem sameI_ok (l : List Int) (h : l.length ≤ 1000000000) : FnOk Tryd.prog 12 [.row 1 (l.map iE), .row 1 (l.map iE)] (fun q => q = oA true) :=
  (bInts_ok l l h h).mono fun q h => h.trans (by simp)
theorem sameV_ok (l : List V2) (h : l.length ≤ 1000000) : FnOk Tryd.prog 13 [.row 2 (l.map tE), .row 2 (l.map tE)] (fun q => q = oA true) :=
  (same_ok' l l h h).mono fun q h => h.trans (by simp [samV])
set_option maxRecDepth 100000 in
set_option maxHeartbeats 1000000 in
theorem sAwake_ok : FnOkG Tryd.prog gT 4 [] (fun q => q = oA true) := by
  refine fnOkG_of (fn := Tryd.f4) gT 66 (by kernel_rfl) rfl (by kernel_rfl) (Nat.le_of_ble_eq_true rfl) ?_
  intro e_0 m_0 hA hm_0
  have ml_0 : m_0.length = 1 := by rw [hm_0]; rfl
  have mo0_0 : m_0[0]? = some (.glob gT) := by rw [hm_0]; rfl
  clear hA hm_0
  refine aw_seq ?_
  refine aw_text (by kernel_rfl) ?_
  refine al_ro' (ro_assign ev_c) trivial rfl ?_
  refine al_end (fun e_1 he_1 => ?_)
  clear he_1
  refine then_n ?_
  refine aw_seq ?_
  refine aw_text (by kernel_rfl) ?_
  refine al_ro' (ro_build (evP_cons ev_c evP_nil) h10_bz23 h10_bu23 h10_bp23 rfl) trivial rfl ?_
  refine al_ro' (ro_call (evL_cons up_h (evL_cons ev_c evL_nil)) rfl (turned0_ok) h10_hcf9) trivial rfl ?_
  refine al_ro' (ro_move up_h) trivial rfl ?_
  refine al_ro' (ro_extract up_h rfl) trivial rfl ?_
  refine al_ro' (ro_extract (up_m rfl up_h) rfl) trivial rfl ?_
  refine al_stm (st_alloc h10_az23 rfl ml_0) trivial rfl (fun m_2 hm_2 => ?_)
  have mo1_2 := m_push hm_2 ml_0
  (try simp only [packA_t, packA_f, iE, bE, setAt, cellsA, Value.cells, map_vc, map_vn, Nat.reduceAdd, qS] at mo1_2)
  have mo0_2 := m_push_o hm_2 mo0_0
  have ml_2 := m_push_l hm_2 ml_0
  have ml_2 : _ = 2 := ml_2
  clear hm_2 mo0_0
  refine al_stm (st_store up_h (u2 rfl up_h) rfl rfl mo1_2 h10_sz23 rfl (by first | exact Nat.le_of_ble_eq_true rfl | omega | (simp only [lnS] <;> omega) | (simp <;> omega))) trivial rfl (fun m_3 hm_3 => ?_)
  have mo1_3 := m_set hm_3 mo1_2
  (try simp only [packA_t, packA_f, iE, bE, setAt, cellsA, Value.cells, map_vc, map_vn, Nat.reduceAdd, qS] at mo1_3)
  have mo0_3 := m_set_o hm_3 mo0_2 (by decide)
  have ml_3 := m_set_l hm_3 ml_2
  clear hm_3 mo1_2 mo0_2
  refine al_ro' (ro_assign (up_n (up_m rfl up_h))) trivial rfl ?_
  refine al_end (fun e_4 he_4 => ?_)
  have s1_4 := ef 1 he_4 (up_m rfl (up_n up_h))
  have s2_4 := ef 2 he_4 up_h
  clear he_4
  refine then_n ?_
  refine aw_seq ?_
  refine aw_text (by kernel_rfl) ?_
  refine al_ro' (ro_lit h10_sl34 (evP_cons ev_c (evP_cons ev_c evP_nil)) rfl rfl rfl rfl) trivial rfl ?_
  refine al_ro' (ro_build (evP_cons up_h evP_nil) h10_bz36 h10_bu36 h10_bp36 rfl) trivial rfl ?_
  refine al_ro' (ro_build (evP_cons ev_c (evP_cons ev_c evP_nil)) h10_bz38 h10_bu38 h10_bp38 rfl) trivial rfl ?_
  refine al_ro' (ro_build (evP_cons ev_c evP_nil) h10_bz23 h10_bu23 h10_bp23 rfl) trivial rfl ?_
  refine al_ro' (ro_build (evP_cons ev_c evP_nil) h10_bz23 h10_bu23 h10_bp23 rfl) trivial rfl ?_
  refine al_ro' (ro_lit h10_sl39 (evP_cons (up_m rfl up_h) (evP_cons up_h evP_nil)) rfl rfl rfl rfl) trivial rfl ?_
  refine al_ro' (ro_build (evP_cons ev_c evP_nil) h10_bz23 h10_bu23 h10_bp23 rfl) trivial rfl ?_
  refine al_ro' (ro_build (evP_cons (up_m rfl up_h) (evP_cons up_h evP_nil)) h10_bz41 h10_bu41 h10_bp41 rfl) trivial rfl ?_
  refine al_ro' (ro_call (evL_cons (u2 rfl (u4 rfl up_h)) (evL_cons (up_m rfl (u4 rfl up_h)) (evL_cons up_h evL_nil))) rfl (forceAt0_ok) h10_hcf10) trivial rfl ?_
  refine al_ro' (ro_move up_h) trivial rfl ?_
  refine al_ro' (ro_extract up_h rfl) trivial rfl ?_
  refine al_ro' (ro_extract (up_m rfl up_h) rfl) trivial rfl ?_
  refine al_ro' (ro_assign (up_m rfl up_h)) trivial rfl ?_
  refine al_ro' (ro_assign (up_m rfl up_h)) trivial rfl ?_
  refine al_end (fun e_5 he_5 => ?_)
  have s1_5 := ef 1 he_5 (u2 rfl (u4 rfl (u8 rfl s1_4)))
  have s2_5 := ef 2 he_5 (u2 rfl (u4 rfl (u8 rfl s2_4)))
  have s3_5 := ef 3 he_5 (up_m rfl up_h)
  have s4_5 := ef 4 he_5 up_h
  clear he_5 s1_4 s2_4
  refine then_n ?_
  refine aw_seq ?_
  refine aw_text (by kernel_rfl) ?_
  refine al_ro' (ro_build (evP_cons ev_c evP_nil) h10_bz23 h10_bu23 h10_bp23 rfl) trivial rfl ?_
  refine al_ro' (ro_build (evP_cons ev_c evP_nil) h10_bz23 h10_bu23 h10_bp23 rfl) trivial rfl ?_
  refine al_ro' (ro_build (evP_cons ev_c evP_nil) h10_bz23 h10_bu23 h10_bp23 rfl) trivial rfl ?_
  refine al_ro' (ro_lit h10_sl39 (evP_cons (u2 rfl up_h) (evP_cons (up_m rfl up_h) (evP_cons up_h evP_nil))) rfl rfl rfl rfl) trivial rfl ?_
  refine al_ro' (ro_callG (evL_cons ev_c (evL_cons up_h evL_nil)) rfl mo0_3 (modulated0_ok) h10_hcf11) trivial rfl ?_
  refine al_ro' (ro_move up_h) trivial rfl ?_
  refine al_ro' (ro_extract up_h rfl) trivial rfl ?_
  refine al_ro' (ro_extract (up_m rfl up_h) rfl) trivial rfl ?_
  refine al_stm (st_alloc h10_az43 rfl ml_3) trivial rfl (fun m_6 hm_6 => ?_)
  have mo2_6 := m_push hm_6 ml_3
  (try simp only [packA_t, packA_f, iE, bE, setAt, cellsA, Value.cells, map_vc, map_vn, Nat.reduceAdd, qS] at mo2_6)
  have mo1_6 := m_push_o hm_6 mo1_3
  have mo0_6 := m_push_o hm_6 mo0_3
  have ml_6 := m_push_l hm_6 ml_3
  have ml_6 : _ = 3 := ml_6
  clear hm_6 mo1_3 mo0_3
  refine al_stm (st_store up_h (u2 rfl up_h) rfl rfl mo2_6 h10_sz43 rfl (by first | exact Nat.le_of_ble_eq_true rfl | omega | (simp only [lnS] <;> omega) | (simp <;> omega))) trivial rfl (fun m_7 hm_7 => ?_)
  have mo2_7 := m_set hm_7 mo2_6
  (try simp only [packA_t, packA_f, iE, bE, setAt, cellsA, Value.cells, map_vc, map_vn, Nat.reduceAdd, qS] at mo2_7)
  have mo1_7 := m_set_o hm_7 mo1_6 (by decide)
  have mo0_7 := m_set_o hm_7 mo0_6 (by decide)
  have ml_7 := m_set_l hm_7 ml_6
  clear hm_7 mo2_6 mo1_6 mo0_6
  refine al_ro' (ro_assign (up_n (up_m rfl up_h))) trivial rfl ?_
  refine al_end (fun e_8 he_8 => ?_)
  have s1_8 := ef 1 he_8 (up_m rfl (up_n (up_m rfl (u8 rfl s1_5))))
  have s2_8 := ef 2 he_8 (up_m rfl (up_n (up_m rfl (u8 rfl s2_5))))
  have s3_8 := ef 3 he_8 (up_m rfl (up_n (up_m rfl (u8 rfl s3_5))))
  have s4_8 := ef 4 he_8 (up_m rfl (up_n (up_m rfl (u8 rfl s4_5))))
  have s5_8 := ef 5 he_8 (up_m rfl (up_n up_h))
  have s6_8 := ef 6 he_8 up_h
  clear he_8 s1_5 s2_5 s3_5 s4_5
  refine then_n ?_
  refine aw_seq ?_
  refine aw_text (by kernel_rfl) ?_
  refine al_ro' (ro_move s2_8) trivial rfl ?_
  refine al_ro' (ro_eql up_h ev_c) trivial rfl ?_
  refine al_ro' (ro_move up_h) trivial rfl ?_
  refine al_case up_h (fun hb_9 hq_9 => ?_) (fun hb_9 hq_9 => ?_)
  · (first | replace hq_9 := bnt hq_9 | replace hq_9 := bnf hq_9 | replace hq_9 := bt hq_9 | replace hq_9 := bf hq_9 | replace hq_9 := bt' hq_9 | replace hq_9 := bf' hq_9 | skip)
    first
    | (cases hq_9; done) | (exfalso; omega)
    | (
       refine al_ro' (ro_eq (ro_ld_ptr h10_ty23 rfl mo1_7 (up_m rfl (u2 rfl s1_8)) (by first | exact Nat.le_of_ble_eq_true rfl | omega | (simp only [lnS] <;> omega) | (simp <;> omega))) (by first | (simp only [packA_t, packA_f, iE, bE, setAt, cellsA, Value.cells, map_vc, map_vn, Nat.reduceAdd, qS] <;> rfl) | rfl)) ⟨_, rfl, hb_9⟩ rfl ?_
       refine al_ro' (ro_build (evP_cons ev_c evP_nil) h10_bz23 h10_bu23 h10_bp23 rfl) ⟨_, rfl, (up_m rfl hb_9)⟩ rfl ?_
       refine al_ro' (ro_aeql (up_m rfl up_h) up_h (xs := [.int .i64 (-1), .int .i64 0]) (ys := [.int .i64 (-1), .int .i64 0]) (b := true) ⟨rfl, by kernel_rfl, fun _ => by kernel_rfl⟩) ⟨_, rfl, (u2 rfl hb_9)⟩ rfl ?_
       refine al_ro' (ro_pickT (up_m rfl (u2 rfl hb_9)) up_h) trivial rfl ?_
       refine al_ro' (ro_move up_h) trivial rfl ?_
       refine al_case up_h (fun hb_10 hq_10 => ?_) (fun hb_10 hq_10 => ?_)
       · (first | replace hq_10 := bnt hq_10 | replace hq_10 := bnf hq_10 | replace hq_10 := bt hq_10 | replace hq_10 := bf hq_10 | replace hq_10 := bt' hq_10 | replace hq_10 := bf' hq_10 | skip)
         first
         | (cases hq_10; done) | (exfalso; omega)
         | (
            refine al_ro' (ro_move (u8 rfl s4_8)) ⟨_, rfl, hb_10⟩ rfl ?_
            refine al_ro' (ro_eql up_h ev_c) ⟨_, rfl, (up_m rfl hb_10)⟩ rfl ?_
            refine al_ro' (ro_pickT (u2 rfl hb_10) up_h) trivial rfl ?_
            refine al_ro' (ro_move up_h) trivial rfl ?_
            refine al_case up_h (fun hb_11 hq_11 => ?_) (fun hb_11 hq_11 => ?_)
            · (first | replace hq_11 := bnt hq_11 | replace hq_11 := bnf hq_11 | replace hq_11 := bt hq_11 | replace hq_11 := bf hq_11 | replace hq_11 := bt' hq_11 | replace hq_11 := bf' hq_11 | skip)
              first
              | (cases hq_11; done) | (exfalso; omega)
              | (
                 refine al_ro' (ro_move (u4 rfl (u8 rfl s3_8))) ⟨_, rfl, hb_11⟩ rfl ?_
                 refine al_ro' (ro_eql up_h ev_c) ⟨_, rfl, (up_m rfl hb_11)⟩ rfl ?_
                 refine al_ro' (ro_pickT (u2 rfl hb_11) up_h) trivial rfl ?_
                 refine al_ro' (ro_move up_h) trivial rfl ?_
                 refine al_case up_h (fun hb_12 hq_12 => ?_) (fun hb_12 hq_12 => ?_)
                 · (first | replace hq_12 := bnt hq_12 | replace hq_12 := bnf hq_12 | replace hq_12 := bt hq_12 | replace hq_12 := bf hq_12 | replace hq_12 := bt' hq_12 | replace hq_12 := bf' hq_12 | skip)
                   first
                   | (cases hq_12; done) | (exfalso; omega)
                   | (
                      refine al_ro' (ro_move (u16 rfl s6_8)) ⟨_, rfl, hb_12⟩ rfl ?_
                      refine al_ro' (ro_eql up_h ev_c) ⟨_, rfl, (up_m rfl hb_12)⟩ rfl ?_
                      refine al_ro' (ro_pickT (u2 rfl hb_12) up_h) trivial rfl ?_
                      refine al_ro' (ro_move up_h) trivial rfl ?_
                      refine al_case up_h (fun hb_13 hq_13 => ?_) (fun hb_13 hq_13 => ?_)
                      · (first | replace hq_13 := bnt hq_13 | replace hq_13 := bnf hq_13 | replace hq_13 := bt hq_13 | replace hq_13 := bf hq_13 | replace hq_13 := bt' hq_13 | replace hq_13 := bf' hq_13 | skip)
                        first
                        | (cases hq_13; done) | (exfalso; omega)
                        | (
                           refine al_ro' (ro_fld_ptr h10_fl43_0 rfl (u4 rfl (u16 rfl s5_8))) ⟨_, rfl, hb_13⟩ rfl ?_
                           refine al_ro' (ro_eq (ro_ld_ptr h10_ty34 rfl mo2_7 up_h (by first | exact Nat.le_of_ble_eq_true rfl | omega | (simp only [lnS] <;> omega) | (simp <;> omega))) (by first | (simp only [packA_t, packA_f, iE, bE, setAt, cellsA, Value.cells, map_vc, map_vn, Nat.reduceAdd, qS] <;> rfl) | rfl)) ⟨_, rfl, (up_m rfl hb_13)⟩ rfl ?_
                           refine al_ro' (ro_lit h10_sl34 (evP_cons ev_c (evP_cons ev_c (evP_cons ev_c evP_nil))) rfl rfl rfl rfl) ⟨_, rfl, (u2 rfl hb_13)⟩ rfl ?_
                           refine al_ro' (ro_call (evL_cons (up_m rfl up_h) (evL_cons up_h evL_nil)) rfl (sameI_ok [0, 4, 0] (by decide)) h10_hcf12) ⟨_, rfl, (up_m rfl (u2 rfl hb_13))⟩ rfl ?_
                           refine al_ro' (ro_pickT (u4 rfl hb_13) up_h) trivial rfl ?_
                           refine al_ro' (ro_move up_h) trivial rfl ?_
                           refine al_case up_h (fun hb_14 hq_14 => ?_) (fun hb_14 hq_14 => ?_)
                           · (first | replace hq_14 := bnt hq_14 | replace hq_14 := bnf hq_14 | replace hq_14 := bt hq_14 | replace hq_14 := bf hq_14 | replace hq_14 := bt' hq_14 | replace hq_14 := bf' hq_14 | skip)
                             first
                             | (cases hq_14; done) | (exfalso; omega)
                             | (
                                refine al_ro' (ro_fld_ptr h10_fl43_1 rfl (u2 rfl (u8 rfl (u16 rfl s5_8)))) ⟨_, rfl, hb_14⟩ rfl ?_
                                refine al_ro' (ro_eq (ro_ld_ptr h10_ty39 rfl mo2_7 up_h (by first | exact Nat.le_of_ble_eq_true rfl | omega | (simp only [lnS] <;> omega) | (simp <;> omega))) (by first | (simp only [packA_t, packA_f, iE, bE, setAt, cellsA, Value.cells, map_vc, map_vn, Nat.reduceAdd, qS] <;> rfl) | rfl)) ⟨_, rfl, (up_m rfl hb_14)⟩ rfl ?_
                                refine al_ro' (ro_build (evP_cons ev_c evP_nil) h10_bz23 h10_bu23 h10_bp23 rfl) ⟨_, rfl, (u2 rfl hb_14)⟩ rfl ?_
                                refine al_ro' (ro_build (evP_cons ev_c evP_nil) h10_bz23 h10_bu23 h10_bp23 rfl) ⟨_, rfl, (up_m rfl (u2 rfl hb_14))⟩ rfl ?_
                                refine al_ro' (ro_build (evP_cons ev_c evP_nil) h10_bz23 h10_bu23 h10_bp23 rfl) ⟨_, rfl, (u4 rfl hb_14)⟩ rfl ?_
                                refine al_ro' (ro_lit h10_sl39 (evP_cons (u2 rfl up_h) (evP_cons (up_m rfl up_h) (evP_cons up_h evP_nil))) rfl rfl rfl rfl) ⟨_, rfl, (up_m rfl (u4 rfl hb_14))⟩ rfl ?_
                                refine al_ro' (ro_call (evL_cons (u4 rfl up_h) (evL_cons up_h evL_nil)) rfl (sameV_ok [(4, 0), (-2, 0), (2, 0)] (by decide)) h10_hcf13) ⟨_, rfl, (u2 rfl (u4 rfl hb_14))⟩ rfl ?_
                                refine al_ro' (ro_pickT (up_m rfl (u2 rfl (u4 rfl hb_14))) up_h) trivial rfl ?_
                                refine al_ro' (ro_assign up_h) trivial rfl ?_
                                refine al_end (fun e_15 he_15 => ?_)
                                have s0_15 := ef 0 he_15 up_h
                                clear he_15 hb_10 hb_11 hb_12 hb_13 hb_14 hb_9 s1_8 s2_8 s3_8 s4_8 s5_8 s6_8
                                refine then_n ?_
                                refine aw_ret ?_
                                refine ret1 (.inr rfl) (by kernel_rfl) (resV_tmp s0_15) (.ro _ rfl) ?_
                                clear s0_15 mo2_7 mo1_7 mo0_7 ml_7
                                rfl)
                           · (first | replace hq_14 := bnt hq_14 | replace hq_14 := bnf hq_14 | replace hq_14 := bt hq_14 | replace hq_14 := bf hq_14 | replace hq_14 := bt' hq_14 | replace hq_14 := bf' hq_14 | skip)
                             first
                             | (cases hq_14; done) | (exfalso; omega)
                             | (
                                refine al_skip' ⟨_, rfl, .inl hb_14⟩ rfl ?_
                                refine al_skip' ⟨_, rfl, .inl (up_m rfl hb_14)⟩ rfl ?_
                                refine al_skip' ⟨_, rfl, .inl (u2 rfl hb_14)⟩ rfl ?_
                                refine al_skip' ⟨_, rfl, .inl (up_m rfl (u2 rfl hb_14))⟩ rfl ?_
                                refine al_skip' ⟨_, rfl, .inl (u4 rfl hb_14)⟩ rfl ?_
                                refine al_skip' ⟨_, rfl, .inl (up_m rfl (u4 rfl hb_14))⟩ rfl ?_
                                refine al_skip' ⟨_, rfl, .inl (u2 rfl (u4 rfl hb_14))⟩ rfl ?_
                                refine al_ro' (ro_pickF (up_m rfl (u2 rfl (u4 rfl hb_14))) ev_c) trivial rfl ?_
                                refine al_ro' (ro_assign up_h) trivial rfl ?_
                                refine al_end (fun e_16 he_16 => ?_)
                                have s0_16 := ef 0 he_16 up_h
                                clear he_16 hb_10 hb_11 hb_12 hb_13 hb_14 hb_9 s1_8 s2_8 s3_8 s4_8 s5_8 s6_8
                                refine then_n ?_
                                refine aw_ret ?_
                                refine ret1 (.inr rfl) (by kernel_rfl) (resV_tmp s0_16) (.ro _ rfl) ?_
                                clear s0_16 mo2_7 mo1_7 mo0_7 ml_7
                                rfl))
                      · (first | replace hq_13 := bnt hq_13 | replace hq_13 := bnf hq_13 | replace hq_13 := bt hq_13 | replace hq_13 := bf hq_13 | replace hq_13 := bt' hq_13 | replace hq_13 := bf' hq_13 | skip)
                        first
                        | (cases hq_13; done) | (exfalso; omega)
                        | (
                           refine al_skip' ⟨_, rfl, .inl hb_13⟩ rfl ?_
                           refine al_skip' ⟨_, rfl, .inl (up_m rfl hb_13)⟩ rfl ?_
                           refine al_skip' ⟨_, rfl, .inl (u2 rfl hb_13)⟩ rfl ?_
                           refine al_skip' ⟨_, rfl, .inl (up_m rfl (u2 rfl hb_13))⟩ rfl ?_
                           refine al_ro' (ro_pickF (u4 rfl hb_13) ev_c) trivial rfl ?_
                           refine al_ro' (ro_move up_h) trivial rfl ?_
                           refine al_skip' ⟨_, rfl, .inl up_h⟩ rfl ?_
                           refine al_skip' ⟨_, rfl, .inl (up_m rfl up_h)⟩ rfl ?_
                           refine al_skip' ⟨_, rfl, .inl (u2 rfl up_h)⟩ rfl ?_
                           refine al_skip' ⟨_, rfl, .inl (up_m rfl (u2 rfl up_h))⟩ rfl ?_
                           refine al_skip' ⟨_, rfl, .inl (u4 rfl up_h)⟩ rfl ?_
                           refine al_skip' ⟨_, rfl, .inl (up_m rfl (u4 rfl up_h))⟩ rfl ?_
                           refine al_skip' ⟨_, rfl, .inl (u2 rfl (u4 rfl up_h))⟩ rfl ?_
                           refine al_ro' (ro_pickF (up_m rfl (u2 rfl (u4 rfl up_h))) ev_c) trivial rfl ?_
                           refine al_ro' (ro_assign up_h) trivial rfl ?_
                           refine al_end (fun e_17 he_17 => ?_)
                           have s0_17 := ef 0 he_17 up_h
                           clear he_17 hb_10 hb_11 hb_12 hb_13 hb_9 s1_8 s2_8 s3_8 s4_8 s5_8 s6_8
                           refine then_n ?_
                           refine aw_ret ?_
                           refine ret1 (.inr rfl) (by kernel_rfl) (resV_tmp s0_17) (.ro _ rfl) ?_
                           clear s0_17 mo2_7 mo1_7 mo0_7 ml_7
                           rfl))
                 · (first | replace hq_12 := bnt hq_12 | replace hq_12 := bnf hq_12 | replace hq_12 := bt hq_12 | replace hq_12 := bf hq_12 | replace hq_12 := bt' hq_12 | replace hq_12 := bf' hq_12 | skip)
                   first
                   | (cases hq_12; done) | (exfalso; omega)
                   | (
                      refine al_skip' ⟨_, rfl, .inl hb_12⟩ rfl ?_
                      refine al_skip' ⟨_, rfl, .inl (up_m rfl hb_12)⟩ rfl ?_
                      refine al_ro' (ro_pickF (u2 rfl hb_12) ev_c) trivial rfl ?_
                      refine al_ro' (ro_move up_h) trivial rfl ?_
                      refine al_skip' ⟨_, rfl, .inl up_h⟩ rfl ?_
                      refine al_skip' ⟨_, rfl, .inl (up_m rfl up_h)⟩ rfl ?_
                      refine al_skip' ⟨_, rfl, .inl (u2 rfl up_h)⟩ rfl ?_
                      refine al_skip' ⟨_, rfl, .inl (up_m rfl (u2 rfl up_h))⟩ rfl ?_
                      refine al_ro' (ro_pickF (u4 rfl up_h) ev_c) trivial rfl ?_
                      refine al_ro' (ro_move up_h) trivial rfl ?_
                      refine al_skip' ⟨_, rfl, .inl up_h⟩ rfl ?_
                      refine al_skip' ⟨_, rfl, .inl (up_m rfl up_h)⟩ rfl ?_
                      refine al_skip' ⟨_, rfl, .inl (u2 rfl up_h)⟩ rfl ?_
                      refine al_skip' ⟨_, rfl, .inl (up_m rfl (u2 rfl up_h))⟩ rfl ?_
                      refine al_skip' ⟨_, rfl, .inl (u4 rfl up_h)⟩ rfl ?_
                      refine al_skip' ⟨_, rfl, .inl (up_m rfl (u4 rfl up_h))⟩ rfl ?_
                      refine al_skip' ⟨_, rfl, .inl (u2 rfl (u4 rfl up_h))⟩ rfl ?_
                      refine al_ro' (ro_pickF (up_m rfl (u2 rfl (u4 rfl up_h))) ev_c) trivial rfl ?_
                      refine al_ro' (ro_assign up_h) trivial rfl ?_
                      refine al_end (fun e_18 he_18 => ?_)
                      have s0_18 := ef 0 he_18 up_h
                      clear he_18 hb_10 hb_11 hb_12 hb_9 s1_8 s2_8 s3_8 s4_8 s5_8 s6_8
                      refine then_n ?_
                      refine aw_ret ?_
                      refine ret1 (.inr rfl) (by kernel_rfl) (resV_tmp s0_18) (.ro _ rfl) ?_
                      clear s0_18 mo2_7 mo1_7 mo0_7 ml_7
                      rfl))
            · (first | replace hq_11 := bnt hq_11 | replace hq_11 := bnf hq_11 | replace hq_11 := bt hq_11 | replace hq_11 := bf hq_11 | replace hq_11 := bt' hq_11 | replace hq_11 := bf' hq_11 | skip)
              first
              | (cases hq_11; done) | (exfalso; omega)
              | (
                 refine al_skip' ⟨_, rfl, .inl hb_11⟩ rfl ?_
                 refine al_skip' ⟨_, rfl, .inl (up_m rfl hb_11)⟩ rfl ?_
                 refine al_ro' (ro_pickF (u2 rfl hb_11) ev_c) trivial rfl ?_
                 refine al_ro' (ro_move up_h) trivial rfl ?_
                 refine al_skip' ⟨_, rfl, .inl up_h⟩ rfl ?_
                 refine al_skip' ⟨_, rfl, .inl (up_m rfl up_h)⟩ rfl ?_
                 refine al_ro' (ro_pickF (u2 rfl up_h) ev_c) trivial rfl ?_
                 refine al_ro' (ro_move up_h) trivial rfl ?_
                 refine al_skip' ⟨_, rfl, .inl up_h⟩ rfl ?_
                 refine al_skip' ⟨_, rfl, .inl (up_m rfl up_h)⟩ rfl ?_
                 refine al_skip' ⟨_, rfl, .inl (u2 rfl up_h)⟩ rfl ?_
                 refine al_skip' ⟨_, rfl, .inl (up_m rfl (u2 rfl up_h))⟩ rfl ?_
                 refine al_ro' (ro_pickF (u4 rfl up_h) ev_c) trivial rfl ?_
                 refine al_ro' (ro_move up_h) trivial rfl ?_
                 refine al_skip' ⟨_, rfl, .inl up_h⟩ rfl ?_
                 refine al_skip' ⟨_, rfl, .inl (up_m rfl up_h)⟩ rfl ?_
                 refine al_skip' ⟨_, rfl, .inl (u2 rfl up_h)⟩ rfl ?_
                 refine al_skip' ⟨_, rfl, .inl (up_m rfl (u2 rfl up_h))⟩ rfl ?_
                 refine al_skip' ⟨_, rfl, .inl (u4 rfl up_h)⟩ rfl ?_
                 refine al_skip' ⟨_, rfl, .inl (up_m rfl (u4 rfl up_h))⟩ rfl ?_
                 refine al_skip' ⟨_, rfl, .inl (u2 rfl (u4 rfl up_h))⟩ rfl ?_
                 refine al_ro' (ro_pickF (up_m rfl (u2 rfl (u4 rfl up_h))) ev_c) trivial rfl ?_
                 refine al_ro' (ro_assign up_h) trivial rfl ?_
                 refine al_end (fun e_19 he_19 => ?_)
                 have s0_19 := ef 0 he_19 up_h
                 clear he_19 hb_10 hb_11 hb_9 s1_8 s2_8 s3_8 s4_8 s5_8 s6_8
                 refine then_n ?_
                 refine aw_ret ?_
                 refine ret1 (.inr rfl) (by kernel_rfl) (resV_tmp s0_19) (.ro _ rfl) ?_
                 clear s0_19 mo2_7 mo1_7 mo0_7 ml_7
                 rfl))
       · (first | replace hq_10 := bnt hq_10 | replace hq_10 := bnf hq_10 | replace hq_10 := bt hq_10 | replace hq_10 := bf hq_10 | replace hq_10 := bt' hq_10 | replace hq_10 := bf' hq_10 | skip)
         first
         | (cases hq_10; done) | (exfalso; omega)
         | (
            refine al_skip' ⟨_, rfl, .inl hb_10⟩ rfl ?_
            refine al_skip' ⟨_, rfl, .inl (up_m rfl hb_10)⟩ rfl ?_
            refine al_ro' (ro_pickF (u2 rfl hb_10) ev_c) trivial rfl ?_
            refine al_ro' (ro_move up_h) trivial rfl ?_
            refine al_skip' ⟨_, rfl, .inl up_h⟩ rfl ?_
            refine al_skip' ⟨_, rfl, .inl (up_m rfl up_h)⟩ rfl ?_
            refine al_ro' (ro_pickF (u2 rfl up_h) ev_c) trivial rfl ?_
            refine al_ro' (ro_move up_h) trivial rfl ?_
            refine al_skip' ⟨_, rfl, .inl up_h⟩ rfl ?_
            refine al_skip' ⟨_, rfl, .inl (up_m rfl up_h)⟩ rfl ?_
            refine al_ro' (ro_pickF (u2 rfl up_h) ev_c) trivial rfl ?_
            refine al_ro' (ro_move up_h) trivial rfl ?_
            refine al_skip' ⟨_, rfl, .inl up_h⟩ rfl ?_
            refine al_skip' ⟨_, rfl, .inl (up_m rfl up_h)⟩ rfl ?_
            refine al_skip' ⟨_, rfl, .inl (u2 rfl up_h)⟩ rfl ?_
            refine al_skip' ⟨_, rfl, .inl (up_m rfl (u2 rfl up_h))⟩ rfl ?_
            refine al_ro' (ro_pickF (u4 rfl up_h) ev_c) trivial rfl ?_
            refine al_ro' (ro_move up_h) trivial rfl ?_
            refine al_skip' ⟨_, rfl, .inl up_h⟩ rfl ?_
            refine al_skip' ⟨_, rfl, .inl (up_m rfl up_h)⟩ rfl ?_
            refine al_skip' ⟨_, rfl, .inl (u2 rfl up_h)⟩ rfl ?_
            refine al_skip' ⟨_, rfl, .inl (up_m rfl (u2 rfl up_h))⟩ rfl ?_
            refine al_skip' ⟨_, rfl, .inl (u4 rfl up_h)⟩ rfl ?_
            refine al_skip' ⟨_, rfl, .inl (up_m rfl (u4 rfl up_h))⟩ rfl ?_
            refine al_skip' ⟨_, rfl, .inl (u2 rfl (u4 rfl up_h))⟩ rfl ?_
            refine al_ro' (ro_pickF (up_m rfl (u2 rfl (u4 rfl up_h))) ev_c) trivial rfl ?_
            refine al_ro' (ro_assign up_h) trivial rfl ?_
            refine al_end (fun e_20 he_20 => ?_)
            have s0_20 := ef 0 he_20 up_h
            clear he_20 hb_10 hb_9 s1_8 s2_8 s3_8 s4_8 s5_8 s6_8
            refine then_n ?_
            refine aw_ret ?_
            refine ret1 (.inr rfl) (by kernel_rfl) (resV_tmp s0_20) (.ro _ rfl) ?_
            clear s0_20 mo2_7 mo1_7 mo0_7 ml_7
            rfl))
  · (first | replace hq_9 := bnt hq_9 | replace hq_9 := bnf hq_9 | replace hq_9 := bt hq_9 | replace hq_9 := bf hq_9 | replace hq_9 := bt' hq_9 | replace hq_9 := bf' hq_9 | skip)
    first
    | (cases hq_9; done) | (exfalso; omega)
    | (
       refine al_skip' ⟨_, rfl, .inl hb_9⟩ rfl ?_
       refine al_skip' ⟨_, rfl, .inl (up_m rfl hb_9)⟩ rfl ?_
       refine al_skip' ⟨_, rfl, .inl (u2 rfl hb_9)⟩ rfl ?_
       refine al_ro' (ro_pickF (up_m rfl (u2 rfl hb_9)) ev_c) trivial rfl ?_
       refine al_ro' (ro_move up_h) trivial rfl ?_
       refine al_skip' ⟨_, rfl, .inl up_h⟩ rfl ?_
       refine al_skip' ⟨_, rfl, .inl (up_m rfl up_h)⟩ rfl ?_
       refine al_ro' (ro_pickF (u2 rfl up_h) ev_c) trivial rfl ?_
       refine al_ro' (ro_move up_h) trivial rfl ?_
       refine al_skip' ⟨_, rfl, .inl up_h⟩ rfl ?_
       refine al_skip' ⟨_, rfl, .inl (up_m rfl up_h)⟩ rfl ?_
       refine al_ro' (ro_pickF (u2 rfl up_h) ev_c) trivial rfl ?_
       refine al_ro' (ro_move up_h) trivial rfl ?_
       refine al_skip' ⟨_, rfl, .inl up_h⟩ rfl ?_
       refine al_skip' ⟨_, rfl, .inl (up_m rfl up_h)⟩ rfl ?_
       refine al_ro' (ro_pickF (u2 rfl up_h) ev_c) trivial rfl ?_
       refine al_ro' (ro_move up_h) trivial rfl ?_
       refine al_skip' ⟨_, rfl, .inl up_h⟩ rfl ?_
       refine al_skip' ⟨_, rfl, .inl (up_m rfl up_h)⟩ rfl ?_
       refine al_skip' ⟨_, rfl, .inl (u2 rfl up_h)⟩ rfl ?_
       refine al_skip' ⟨_, rfl, .inl (up_m rfl (u2 rfl up_h))⟩ rfl ?_
       refine al_ro' (ro_pickF (u4 rfl up_h) ev_c) trivial rfl ?_
       refine al_ro' (ro_move up_h) trivial rfl ?_
       refine al_skip' ⟨_, rfl, .inl up_h⟩ rfl ?_
       refine al_skip' ⟨_, rfl, .inl (up_m rfl up_h)⟩ rfl ?_
       refine al_skip' ⟨_, rfl, .inl (u2 rfl up_h)⟩ rfl ?_
       refine al_skip' ⟨_, rfl, .inl (up_m rfl (u2 rfl up_h))⟩ rfl ?_
       refine al_skip' ⟨_, rfl, .inl (u4 rfl up_h)⟩ rfl ?_
       refine al_skip' ⟨_, rfl, .inl (up_m rfl (u4 rfl up_h))⟩ rfl ?_
       refine al_skip' ⟨_, rfl, .inl (u2 rfl (u4 rfl up_h))⟩ rfl ?_
       refine al_ro' (ro_pickF (up_m rfl (u2 rfl (u4 rfl up_h))) ev_c) trivial rfl ?_
       refine al_ro' (ro_assign up_h) trivial rfl ?_
       refine al_end (fun e_21 he_21 => ?_)
       have s0_21 := ef 0 he_21 up_h
       clear he_21 hb_9 s1_8 s2_8 s3_8 s4_8 s5_8 s6_8
       refine then_n ?_
       refine aw_ret ?_
       refine ret1 (.inr rfl) (by kernel_rfl) (resV_tmp s0_21) (.ro _ rfl) ?_
       clear s0_21 mo2_7 mo1_7 mo0_7 ml_7
       rfl)
end Go.Proofs.YtnblahgocddpbaaDoor

/- The law of chapter 3: pulses drive as was wanted. The variables of the package hold what the text lays. -/
namespace Go.Proofs.YtnblahgocddpbaaDoor
open Go Go.RowKit Go.Proofs
set_option linter.unusedSimpArgs false
set_option linter.unusedVariables false
theorem h13_fl49_1 : FldIs Tryd.prog 49 1 1 false 1 := by unfold FldIs; kernel_rfl
theorem h13_hcf14 : ∀ args w, (callFunc 14 args).run Tryd.prog w = .ok (.enter 14 args) w := fun _ _ => by kernel_rfl
theorem h13_hcf15 : ∀ args w, (callFunc 15 args).run Tryd.prog w = .ok (.enter 15 args) w := fun _ _ => by kernel_rfl
theorem h13_sl39 : SlIs Tryd.prog 39 23 2 16 (.agg #[.int .i64 0, .int .i64 0]) := ⟨by kernel_rfl, by kernel_rfl, by kernel_rfl⟩
theorem h13_ty23 : TyIs Tryd.prog 23 true 2 := ⟨by kernel_rfl, by kernel_rfl⟩

set_option maxRecDepth 100000 in
set_option maxHeartbeats 1000000 in
theorem forceOf_ok (u v : V2) (hu : Bd 100000 u) (hv : Bd 100000 v) : FnOk Tryd.prog 6 [tA u, tA v] (fun q => q = .tuple [nA (prodV u v).2, nA 0]) := by
  have hr : rightE [u, v] = 0 := bd_right (by simp; exact ⟨hu, hv⟩)
  refine fnOk_of (fn := Tryd.f6) 18 (by kernel_rfl) rfl (by kernel_rfl) (Nat.le_of_ble_eq_true rfl) ?_
  intro e_0 m_0 hA hm_0
  have s0_0 : evA e_0 (.tmp 0) = _ := hA 0 _ rfl
  have s1_0 : evA e_0 (.tmp 1) = _ := hA 1 _ rfl
  have ml_0 : m_0.length = 0 := by rw [hm_0]; rfl
  clear hA hm_0
  refine aw_seq ?_
  refine aw_text (by kernel_rfl) ?_
  refine al_stm (st_box s0_0 rfl ml_0) trivial rfl (fun m_1 hm_1 => ?_)
  have mo0_1 := m_push hm_1 ml_0
  (try simp only [packA_t, packA_f, iE, bE, setAt, cellsA, Value.cells, map_vc, map_vn, Nat.reduceAdd, qS] at mo0_1)
  have ml_1 := m_push_l hm_1 ml_0
  have ml_1 : _ = 1 := ml_1
  clear hm_1
  refine al_stm (st_box (up_m rfl s1_0) rfl ml_1) trivial rfl (fun m_2 hm_2 => ?_)
  have mo1_2 := m_push hm_2 ml_1
  (try simp only [packA_t, packA_f, iE, bE, setAt, cellsA, Value.cells, map_vc, map_vn, Nat.reduceAdd, qS] at mo1_2)
  have mo0_2 := m_push_o hm_2 mo0_1
  have ml_2 := m_push_l hm_2 ml_1
  have ml_2 : _ = 2 := ml_2
  clear hm_2 mo0_1
  refine al_ro' (ro_assign ev_c) trivial rfl ?_
  refine al_ro' (ro_assign ev_c) trivial rfl ?_
  refine al_end (fun e_3 he_3 => ?_)
  have s2_3 := ef 2 he_3 (up_m rfl (u2 rfl up_h))
  have s3_3 := ef 3 he_3 (u2 rfl up_h)
  clear he_3 s0_0 s1_0
  refine then_n ?_
  refine aw_seq ?_
  refine aw_seq ?_
  refine aw_text (by kernel_rfl) ?_
  refine al_ro' (ro_eq (ro_ld_ptr h13_ty23 rfl mo0_2 s2_3 (by first | exact Nat.le_of_ble_eq_true rfl | omega | (simp only [lnS] <;> omega) | (simp <;> omega))) (by first | (simp only [packA_t, packA_f, iE, bE, setAt, cellsA, Value.cells, map_vc, map_vn, Nat.reduceAdd, qS] <;> rfl) | rfl)) trivial rfl ?_
  refine al_ro' (ro_eq (ro_ld_ptr h13_ty23 rfl mo1_2 (up_m rfl s3_3) (by first | exact Nat.le_of_ble_eq_true rfl | omega | (simp only [lnS] <;> omega) | (simp <;> omega))) (by first | (simp only [packA_t, packA_f, iE, bE, setAt, cellsA, Value.cells, map_vc, map_vn, Nat.reduceAdd, qS] <;> rfl) | rfl)) trivial rfl ?_
  refine al_ro' (ro_lit h13_sl39 (evP_cons (up_m rfl up_h) (evP_cons up_h evP_nil)) rfl rfl rfl rfl) trivial rfl ?_
  refine al_ro' (ro_call (evL_cons up_h evL_nil) rfl ((right_ok [u, v] (by simp)).mono (fun q h => h.trans (by rw [hr]))) h13_hcf14) trivial rfl ?_
  refine al_ro' (ro_assign up_h) trivial rfl ?_
  refine al_end (fun e_4 he_4 => ?_)
  have s2_4 := ef 2 he_4 (up_m rfl (u4 rfl s2_3))
  have s3_4 := ef 3 he_4 (up_m rfl (u4 rfl s3_3))
  have s6_4 := ef 6 he_4 up_h
  clear he_4 s2_3 s3_3
  refine then_n ?_
  refine aw_seq ?_
  refine aw_text (by kernel_rfl) ?_
  refine al_ro' (ro_move s6_4) trivial rfl ?_
  refine al_ro' (ro_neq up_h ev_c) trivial rfl ?_
  refine al_end (fun e_5 he_5 => ?_)
  have s2_5 := ef 2 he_5 (u2 rfl s2_4)
  have s3_5 := ef 3 he_5 (u2 rfl s3_4)
  have s6_5 := ef 6 he_5 (u2 rfl s6_4)
  have s12_5 := ef 12 he_5 up_h
  clear he_5 s2_4 s3_4 s6_4
  refine then_n ?_
  refine aw_case s12_5 (fun hq_6 => ?_) (fun hq_6 => ?_)
  · (first | replace hq_6 := bnt hq_6 | replace hq_6 := bnf hq_6 | replace hq_6 := bt hq_6 | replace hq_6 := bf hq_6 | replace hq_6 := bt' hq_6 | replace hq_6 := bf' hq_6 | skip)
    first
    | (cases hq_6; done) | (exfalso; omega)
    | (
       refine aw_seq ?_
       refine aw_text (by kernel_rfl) ?_
       refine al_ro' (ro_move s6_5) trivial rfl ?_
       refine al_ro' (ro_assign ev_c) trivial rfl ?_
       refine al_ro' (ro_assign (up_m rfl up_h)) trivial rfl ?_
       refine al_end (fun e_7 he_7 => ?_)
       have s4_7 := ef 4 he_7 (up_m rfl up_h)
       have s5_7 := ef 5 he_7 up_h
       clear he_7 s12_5 s2_5 s3_5 s6_5
       refine then_n ?_
       refine aw_ret ?_
       refine then_r ?_
       refine ret2 (.inr rfl) (by kernel_rfl) (resV_tmp s4_7) (resV_tmp s5_7) (.ro _ rfl) (.ro _ rfl) ?_
       clear s4_7 s5_7 mo1_2 mo0_2 ml_2
       rfl)
  · (first | replace hq_6 := bnt hq_6 | replace hq_6 := bnf hq_6 | replace hq_6 := bt hq_6 | replace hq_6 := bf hq_6 | replace hq_6 := bt' hq_6 | replace hq_6 := bf' hq_6 | skip)
    first
    | (cases hq_6; done) | (exfalso; omega)
    | (
       refine aw_skip ?_
       refine then_n ?_
       refine aw_seq ?_
       refine aw_text (by kernel_rfl) ?_
       refine al_ro' (ro_eq (ro_ld_ptr h13_ty23 rfl mo0_2 s2_5 (by first | exact Nat.le_of_ble_eq_true rfl | omega | (simp only [lnS] <;> omega) | (simp <;> omega))) (by first | (simp only [packA_t, packA_f, iE, bE, setAt, cellsA, Value.cells, map_vc, map_vn, Nat.reduceAdd, qS] <;> rfl) | rfl)) trivial rfl ?_
       refine al_ro' (ro_eq (ro_ld_ptr h13_ty23 rfl mo1_2 (up_m rfl s3_5) (by first | exact Nat.le_of_ble_eq_true rfl | omega | (simp only [lnS] <;> omega) | (simp <;> omega))) (by first | (simp only [packA_t, packA_f, iE, bE, setAt, cellsA, Value.cells, map_vc, map_vn, Nat.reduceAdd, qS] <;> rfl) | rfl)) trivial rfl ?_
       refine al_ro' (ro_call (evL_cons (up_m rfl up_h) (evL_cons up_h evL_nil)) rfl (product_ok u v (hu.mono (by decide)) (hv.mono (by decide))) h13_hcf15) trivial rfl ?_
       refine al_ro' (ro_eq (ro_fld h13_fl49_1 up_h (by first | exact Nat.le_of_ble_eq_true rfl | omega | (simp only [lnS] <;> omega) | (simp <;> omega)) rfl) (by first | (simp only [packA_t, packA_f, iE, bE, setAt, cellsA, Value.cells, map_vc, map_vn, Nat.reduceAdd, qS] <;> rfl) | rfl)) trivial rfl ?_
       refine al_ro' (ro_assign up_h) trivial rfl ?_
       refine al_ro' (ro_assign ev_c) trivial rfl ?_
       refine al_end (fun e_8 he_8 => ?_)
       have s4_8 := ef 4 he_8 (up_m rfl up_h)
       have s5_8 := ef 5 he_8 up_h
       clear he_8 s12_5 s2_5 s3_5 s6_5
       refine then_n ?_
       refine aw_ret ?_
       refine ret2 (.inr rfl) (by kernel_rfl) (resV_tmp s4_8) (resV_tmp s5_8) (.ro _ rfl) (.ro _ rfl) ?_
       clear s4_8 s5_8 mo1_2 mo0_2 ml_2
       rfl)
end Go.Proofs.YtnblahgocddpbaaDoor

/- Contracts of chapter 3: even forces, currents handed on. No conditions on a program. -/
namespace Go.Proofs.YtnblahgocddpbaaDoor
open Go Go.RowKit Go.Proofs
set_option linter.unusedSimpArgs false
set_option linter.unusedVariables false

end Go.Proofs.YtnblahgocddpbaaDoor

/- The law of chapter 3: handed on without a step. The variables of the package hold what the text lays. -/
namespace Go.Proofs.YtnblahgocddpbaaDoor
open Go Go.RowKit Go.Proofs
set_option linter.unusedSimpArgs false
set_option linter.unusedVariables false

/-- The force, by the parts. -/
theorem force_det (u f : V2) : (prodV u f).2 = u.2 * f.1 - u.1 * f.2 := by simp only [prodV, mulV, conjV]; grind
theorem tur_right {v : V2} {z : Int} (hv : Bd 100000 v) (hz : -100 ≤ z ∧ z ≤ 100) : turE v z = 0 ∧ turR v z = turnV v z := by
  have h : turE v z = 0 := by
    unfold turE
    rw [bd_right (l := [v]) (by simpa using hv), show smallB z 1000000 = true by simp only [smallB, withinB, Bool.and_eq_true, decide_eq_true_eq]; omega]
    rfl
  refine ⟨h, ?_⟩
  unfold turR; rw [if_pos h]
end Go.Proofs.YtnblahgocddpbaaDoor

