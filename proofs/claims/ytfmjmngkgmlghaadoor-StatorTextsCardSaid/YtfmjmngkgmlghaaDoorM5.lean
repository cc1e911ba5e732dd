/- Texts of this claim, one behind the other: lemmas for the statement. -/
import Derived.Test.YtfmjmngkgmlghaaDoorM4
import Derived.Test.YtfmjmngkgmlghaaDoorRows
import Derived.Test.YtfmjmngkgmlghaaDoorChecked
import Derived.WalkKit
import Derived.ProofKit
import Derived.OpenShut
import Derived.Deep.DeepHandedRow
import Derived.Deep.SlicePairs
import Derived.Lib.LaidTab
import Derived.Lib.SmallJoins
import Derived.Carry
import Derived.Test.YtfmjmngkgmlghaaDoorCards
import Derived.Test.YtfmjmngkgmlghaaDoorTie
/- Rows of chapter 5: arguments opened for the abstract machine, what reads behind the call as before it. No conditions on a program. -/
namespace Go.Proofs.YtfmjmngkgmlghaaDoor
open Go Go.ChangeShapes Go.WideShapes Go.ChangeAt Go.RowKit Go.Joins Go.Deep
set_option linter.unusedSimpArgs false
set_option linter.unusedVariables false
theorem trodAll_stays {H : Type} {enc : TypeId × Value → H} {P : Program} (hl : laidOutB P = true) {W W' : World} (hx : Ext W W') {sp : Nat → Bool} : ∀ {ts : List TypeId} {vs : List Value} {ds : List (DataW H)} {ps : List MemPlace},
    (∀ t ∈ ts, P.readableRec t = true ∧ t < P.types.size) → DataW.TrodAll enc P W 0 (fun _ => true) true ts vs ds ps → (∀ x ∈ ps, x.block < W.heap.size) → (∀ x ∈ ps, sp x.block = true) → DataW.TrodAll enc P W' 0 sp true ts vs ds ps
  | [], _, _, _, _, h, _, _ => by
    obtain ⟨rfl, rfl, rfl⟩ := trodAll_nil h
    exact trodAll_mk0
  | t :: ts, _, _, _, ht, h, hlt, hsp => by
    obtain ⟨v, vs, d, ds, p, q, rfl, rfl, rfl, h1, h2⟩ := trodAll_cons h
    refine ⟨p, q, WideElems.Trod_stays hl (ht t (by simp)).1 (ht t (by simp)).2 h1 (fun x hx' => hx.same (hlt x (by simp [hx']))) (fun x hx' => hsp x (by simp [hx'])), ?_, rfl⟩
    exact trodAll_stays hl hx (fun t' ht' => ht t' (by simp [ht'])) h2 (fun x hx' => hlt x (by simp [hx'])) (fun x hx' => hsp x (by simp [hx']))

/-- Memory that is only added to, no variables, the arguments told as they were: the specification's post. -/
theorem post_of_ext {H : Type} {enc : TypeId × Value → H} {P : Program} {f : Func} {s : ChangeSpec} {apart fresh handsOn again : Bool} {W W' : World} {args : Array Value} {v : Value} {ds : List (DataW H)} {before : List MemPlace}
    (hl : laidOutB P = true) (hts : (f.params.toList.all fun t => P.readableRec t && decide (t < P.types.size)) = true) (hx : Ext W W') (hv : s.vars = [])
    (hW : DataW.Whole enc P f.params.toList s.vars apart W args.toList ds [] before) (hA : DataW.TrodAll enc P W 0 (fun _ => true) true f.params.toList args.toList ds before)
    (hsp : (s.fn H ds).args = ds) (hsv : (s.fn H ds).vars = [])
    (hres : ∀ (b : Nat) (sp : Nat → Bool) (hd : Bool), DataW.TrodAll enc P W' b sp hd f.resultTypes.toList (v.resultList f.resultTypes.size) (s.fn H ds).results [])
    (hok : ∀ (j : Nat) (t : TypeId) (r : Value), f.resultTypes[j]? = some t → (v.resultList f.resultTypes.size)[j]? = some r → Value.okWide P W' .any 0 t r) :
    s.post enc P f apart fresh handsOn again W args v W' := by
  have hts' : ∀ t ∈ f.params.toList, P.readableRec t = true ∧ t < P.types.size := fun t ht => by
    have := List.all_eq_true.1 hts t ht
    simpa using this
  have hlt : ∀ x ∈ before, x.block < W.heap.size := fun x hx' => by simpa using hW.lt x hx'
  have hargs : ∀ sp : Nat → Bool, (∀ p ∈ before, sp p.block = true) → DataW.TrodAll enc P W' 0 sp true f.params.toList args.toList (s.fn H (ds ++ [])).args before := fun sp h => by
    rw [List.append_nil, hsp]; exact trodAll_stays hl hx hts' hA hlt h
  have hvars : ∀ sp : Nat → Bool, DataW.TrodVars enc P W' sp s.vars (s.fn H (ds ++ [])).vars [] := fun sp => by
    rw [List.append_nil, hsv, hv]; rfl
  have hres' : ∀ (b : Nat) (sp : Nat → Bool) (hd : Bool), DataW.TrodAll enc P W' b sp hd f.resultTypes.toList (v.resultList f.resultTypes.size) (s.fn H (ds ++ [])).results [] := fun b sp hd => by
    rw [List.append_nil]; exact hres b sp hd
  have hold : ∀ p ∈ before, (fun b => decide (b < W.heap.size)) p.block = true := fun p hp => by simpa using hlt p hp
  refine ⟨ds, [], before, [], before, [], hW, hres' _ _ _, hargs _ hold, hvars _, hx.frame _, fun _ => ?_⟩
  obtain ⟨_, _, _, _, _, hz, hn⟩ := id hW
  refine ⟨hok, _, _, ([] ++ before) ++ [], ⟨[] ++ before, [], trodAll_append (hargs _ (fun _ _ => rfl)) (hres' _ _ _), hvars _, rfl, ?_, ?_⟩, ?_⟩
  · intro b off hp
    simp only [List.nil_append, List.append_nil] at hp
    rw [Below.frozen hx (p := ⟨b, off, none⟩) (hlt _ hp)]
    exact hz b off hp
  · intro ha
    have := hn ha
    simpa using this
  · intro p hp _
    simpa using hp

theorem r0_agg {pr : Nat → Prop} {W : World} {l : List AV} {xs : List Value} (hl : xs.length = l.length) (h : ∀ (i : Nat) (a : AV) (x : Value), l[i]? = some a → xs[i]? = some x → R0 pr W a x) : R0 pr W (.agg l) (.agg xs.toArray) := .agg l xs hl h
theorem list2 {α : Type} {l : List α} (h : l.length = 2) : ∃ a b, l = [a, b] := by
  match l, h with
  | [a, b], _ => exact ⟨a, b, rfl⟩
theorem cInt : Tryd.prog.cellsOf 3 = 1 := by kernel_rfl
end Go.Proofs.YtfmjmngkgmlghaaDoor

/- Rows of chapter 3 for the abstract machine: arrays opened, what the variables of the package hold. No conditions on a program. -/
namespace Go.Proofs.YtfmjmngkgmlghaaDoor
open Go Go.ChangeShapes Go.WideShapes Go.ChangeAt Go.RowKit Go.Joins Go.Deep
set_option linter.unusedSimpArgs false
set_option linter.unusedVariables false
theorem arr_of_trod {α H : Type} [Inhabited α] {P : Program} {enc : TypeId × Value → H} {W : World} {sp : Nat → Bool} {held : Bool} {fuel : Nat} {T e : TypeId} {n k : Nat} {cs : List Value} {y : DataW H × List MemPlace} (f : α → List Value) (df : α → DataW H) (hf : ∀ a, (f a).length = k) (hk0 : 0 < k)
    (ht : P.underlying T = some (.array n e)) (hk : P.cellsOf e = k) (hT : P.cellsOf T = n * k)
    (each : ∀ fuel cs x, cs.length = k → DataW.trod enc P W 0 sp held fuel e cs = some x → ∃ a : α, cs = f a ∧ x.1 = df a)
    (h : DataW.trod enc P W 0 sp held fuel T cs = some y) : ∃ xs : List α, xs.length = n ∧ cs = (xs.map f).flatten ∧ y.1 = .agg (xs.map df) := by
  obtain ⟨zs, m, _, hx, hlen, hxl, hi⟩ := DataW.trod_array ht h
  rw [hT] at hlen
  have ex : ∀ i, ∃ z : α, i < n → (cs.drop (i * k)).take k = f z ∧ (zs[i]?).map (·.1) = some (df z) := fun i => by
    by_cases hil : i < n
    · have h1 := hi i hil
      rw [hk] at h1
      have hzi : i < zs.length := by omega
      rw [List.getElem?_eq_getElem hzi] at h1
      have hle : (i + 1) * k ≤ n * k := Nat.mul_le_mul_right k hil
      rw [Nat.succ_mul] at hle
      obtain ⟨z, h2, h3⟩ := each _ _ _ (by simp; omega) h1
      exact ⟨z, fun _ => ⟨h2, by rw [List.getElem?_eq_getElem hzi]; simp [h3]⟩⟩
    · exact ⟨default, fun h => absurd h hil⟩
  obtain ⟨z, hz⟩ := Classical.axiomOfChoice ex
  refine ⟨(List.range n).map z, by simp, ?_, ?_⟩
  · have hfl : (((List.range n).map z).map f).flatten.length = n * k := by
      rw [flatten_length (all_mapV hf), List.length_map, List.length_map, List.length_range]
    refine List.ext_getElem? fun j => ?_
    by_cases hj : j < n * k
    · have hiq : j / k < n := (Nat.div_lt_iff_lt_mul hk0).2 hj
      have hjk : j % k < k := Nat.mod_lt _ hk0
      have e : j = j / k * k + j % k := by have := Nat.div_add_mod j k; rw [Nat.mul_comm] at this; omega
      have hel : (((List.range n).map z).map f)[j / k]? = some (f (z (j / k))) := by simp [hiq]
      have h1 := flat_get (all_mapV hf) hel hjk
      rw [← e] at h1
      rw [h1, ← (hz (j / k) hiq).1, List.getElem?_take_of_lt hjk, List.getElem?_drop, ← e]
    · rw [List.getElem?_eq_none (by omega), List.getElem?_eq_none (by omega)]
  · rw [hx]
    simp only
    congr 1
    refine List.ext_getElem? fun i => ?_
    by_cases hin : i < n
    · rw [List.getElem?_map, (hz i hin).2]; simp [hin]
    · rw [List.getElem?_eq_none (by simp; omega), List.getElem?_eq_none (by simp; omega)]
theorem callsG_of_ok {P : Program} {gs : List (Nat × List AV)} {f : FuncId} {args : List AV} (h : FnOkG P gs f args (fun q => q = .v (.bool true))) {vs : List Value} {W : World} (hl : vs.length = args.length) (hg : GlobR (fun _ => False) W gs) (hR : ∀ (i : Nat) (a : AV) (x : Value), args[i]? = some a → vs[i]? = some x → R0 (fun _ => False) W a x) :
    Calls P f vs.toArray W fun e W' => e = .returned (.bool true) ∧ Ext W W' :=
  (h (fun _ => False) W vs hl hR hg).mono fun e W' ⟨r, v, h1, h2, h3, h4⟩ => by
    subst h2
    cases h3
    exact ⟨h1, h4⟩
theorem c8v : Tryd.prog.cellsOf 135 = 16 := by kernel_rfl
theorem cTh : Tryd.prog.cellsOf 23 = 2 := by kernel_rfl
theorem cVe : Tryd.prog.cellsOf 93 = 2 := by kernel_rfl
def dT {H : Type} (v : V2) : DataW H := .agg [.lit (.int .i64 v.1), .lit (.int .i64 v.2)]
theorem each_pair {H : Type} {enc : TypeId × Value → H} {W : World} {sp : Nat → Bool} {held : Bool} {T : TypeId} {f0 f1 : Field} (ht : Tryd.prog.underlying T = some (.struct #[f0, f1])) (h0t : f0.type = 3 ∧ f0.offset = 0) (h1t : f1.type = 3 ∧ f1.offset = 1) : ∀ (fuel : Nat) (cs : List Value) (x : DataW H × List MemPlace), cs.length = 2 → DataW.trod enc Tryd.prog W 0 sp held fuel T cs = some x → ∃ a : V2, cs = tV a ∧ x.1 = dT a := fun fuel cs x hl hx => by
  obtain ⟨y0, y1, n, rfl, _, h0, h1⟩ := trod_struct2 ht hx
  obtain ⟨u0, u1, rfl⟩ := list2 hl
  rw [h0t.1, h0t.2, cInt] at h0
  rw [h1t.1, h1t.2, cInt] at h1
  simp at h0 h1
  obtain ⟨z0, e0, a0, _⟩ := DataW.trod_int Tryd.underlying3 h0
  obtain ⟨z1, e1, a1, _⟩ := DataW.trod_int Tryd.underlying3 h1
  simp at e0 e1
  subst e0 e1
  exact ⟨(z0, z1), rfl, by rw [a0, a1]; rfl⟩
/-- A variable that is laid, as the machine reads it. -/
theorem r0_var {W : World} {nm : String} {g : Nat} {cs : Array Value} (hg : Tryd.prog.globalNamed nm = some g) (hv : W.var? Tryd.prog nm = some cs) (h0 : 0 < cs.size) {xs : List Value} (hx : cs.toList = xs) : R0 (fun _ => False) W (.ref (xs.map AV.v)) (.pointer (some ⟨g, 0, none⟩)) ∧ ExN W g (xs.map AV.v).length := by
  refine ⟨?_, by
    unfold World.var? at hv
    rw [hg] at hv
    simp only [Option.bind_some] at hv
    split at hv
    · rename_i c2 t2 f2 h2
      simp only [Option.some.injEq] at hv
      subst hv hx
      exact ⟨_, _, _, h2, by simp⟩
    · cases hv⟩
  have hc : ∀ j, W.cell? ⟨g, j, none⟩ = cs[j]? := fun j => World.var?_cell hg hv j
  have hb : g < W.heap.size := by
    have h1 := hc 0
    rw [Array.getElem?_eq_getElem h0] at h1
    exact World.block_lt_of_cell? W _ h1
  subst hx
  refine .ref _ g 0 (fun i => cs.getD i undef) hb (fun h => h) (fun i a ha => ?_) fun i a ha => ?_
  · have hi : i < cs.size := by have := (List.getElem?_eq_some_iff.1 ha).1; simpa using this
    rw [Nat.zero_add, hc i, Array.getElem?_eq_getElem hi]; simp [hi]
  · have hi : i < cs.size := by have := (List.getElem?_eq_some_iff.1 ha).1; simpa using this
    rw [List.getElem?_map] at ha
    simp [hi] at ha
    subst ha
    simp [hi]
    exact .v _
theorem dT_inj {H : Type} {l m : List V2} (h : l.map (dT (H := H)) = m.map dT) : l = m := by
  refine (List.map_inj_right (f := dT (H := H)) fun a b hab => ?_).1 h
  unfold dT at hab
  simp at hab
  exact Prod.ext hab.1 hab.2
theorem glob_states {W : World} {t : Nat} {cs : Array Value} {fuel : Nat} {p : List MemPlace} (ht : (Tryd.prog.globals[0]?).map (·.type) = some t) (hv : W.var? Tryd.prog "guideway/stator.states" = some cs) (hd : DataW.trod (fun _ => ()) Tryd.prog W 0 (fun _ => true) false fuel t cs.toList = some (Rows.laid_guideway_stator_states, p)) :
    R0 (fun _ => False) W (.ref (stA.map tE).flatten) (.pointer (some ⟨0, 0, none⟩)) ∧ ExN W 0 ((stA.map tE).flatten).length := by
  obtain rfl : 135 = t := Option.some.inj ((show (Tryd.prog.globals[0]?).map (·.type) = some 135 by kernel_rfl).symm.trans ht)
  obtain ⟨xs, h1, h2, h3⟩ := arr_of_trod (k := 2) tV dT (fun _ => rfl) (by omega) Tryd.underlying135 cVe c8v (each_pair Tryd.underlying93 ⟨rfl, rfl⟩ ⟨rfl, rfl⟩) hd
  have hx : xs = stA := by
    refine dT_inj (H := Unit) ?_
    have : DataW.agg (xs.map dT) = DataW.agg (stA.map (dT (H := Unit))) := by rw [← h3]; rfl
    exact DataW.agg.inj this
  subst hx
  have := r0_var (W := W) (show Tryd.prog.globalNamed "guideway/stator.states" = some 0 by kernel_rfl) hv (by rw [← Array.length_toList, h2]; decide) h2
  rwa [← flat_mapV (f := tE) (g := tV) (fun _ => rfl)] at this
end Go.Proofs.YtfmjmngkgmlghaaDoor

