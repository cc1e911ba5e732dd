/- Texts of this claim, one behind the other: lemmas for the statement. -/
import Derived.Test.YtgiiedpambimoaaK1
import Derived.Test.YtgiiedpambimoaaOwn
import Derived.Test.YtgiiedpambimoaaRows
import Derived.Test.YtgiiedpambimoaaChecked
import Derived.WalkKit
import Derived.ProofKit
import Derived.OpenShut
import Derived.Deep.DeepHandedRow
import Derived.Deep.SlicePairs
import Derived.Lib.LaidTab
import Derived.Lib.SmallJoins
import Derived.Carry
/- Contracts of chapter 5: names, tracks, systems. No conditions on a program. -/
namespace Go.Proofs.Ytgiiedpambimoaa
open Go Go.RowKit Go.Proofs
set_option linter.unusedSimpArgs false
set_option linter.unusedVariables false
end Go.Proofs.Ytgiiedpambimoaa

/- Contracts of chapter 5: tracks and systems. No conditions on a program. -/
namespace Go.Proofs.Ytgiiedpambimoaa
open Go Go.RowKit Go.Proofs
set_option linter.unusedSimpArgs false
set_option linter.unusedVariables false
abbrev iA (n : Int) : AV := .v (.int .i64 n)
end Go.Proofs.Ytgiiedpambimoaa

/- Cells of lists, element by element; parts of boxes. No conditions on a program. -/
namespace Go.Proofs.Ytgiiedpambimoaa
open Go Go.RowKit

/-- Cells of a list, element by element. -/
def cellsF {α : Type} (f : α → List Value) (l : List α) : List Value := l.flatMap f
theorem cellsF_length {α : Type} {f : α → List Value} {k : Nat} (hf : ∀ x, (f x).length = k) : ∀ l : List α, (cellsF f l).length = l.length * k
  | [] => by simp [cellsF]
  | x :: l => by
    have := cellsF_length hf l
    simp only [cellsF, List.flatMap_cons, List.length_append, hf, List.length_cons, Nat.add_mul] at this ⊢
    omega
theorem cellsF_get {α : Type} {f : α → List Value} {k : Nat} (hf : ∀ x, (f x).length = k) : ∀ {l : List α} {i j : Nat} (h : i < l.length) (hj : j < k), (cellsF f l)[i * k + j]? = (f l[i])[j]?
  | [], i, j, h, _ => by simp at h
  | x :: l, 0, j, _, hj => by
    have := hf x
    simp only [cellsF, List.flatMap_cons, Nat.zero_mul, Nat.zero_add, List.getElem_cons_zero]
    rw [List.getElem?_append_left (by omega)]
  | x :: l, i + 1, j, h, hj => by
    have h1 := cellsF_get hf (l := l) (i := i) (j := j) (by simpa using h) hj
    have := hf x
    simp only [cellsF, List.flatMap_cons, List.getElem_cons_succ] at h1 ⊢
    rw [List.getElem?_append_right (by rw [Nat.add_mul]; omega), ← h1]
    congr 1
    rw [Nat.add_mul]; omega
/-- A part of a box reads as a slice. -/
theorem Bx.part {w : World} {B : Nat} {t : TypeId} {cs : Array Value} (h : Bx w B t cs) (k n o : Nat) (xs : List Value) (hx : ∀ j u, xs[j]? = some u → cs[o + j]? = some u) (hn : xs.length = n * k) : Rd w k (some ⟨B, o, none⟩) n xs :=
  ⟨hn, fun _ => ⟨B, o, rfl, h.lt, fun j u hu => (h.cell (o + j)).trans (hx j u hu)⟩⟩

end Go.Proofs.Ytgiiedpambimoaa

/- Rows of chapter 5: arguments opened for the abstract machine, what reads behind the call as before it. No conditions on a program. -/
namespace Go.Proofs.Ytgiiedpambimoaa
open Go Go.ChangeShapes Go.WideShapes Go.ChangeAt Go.RowKit Go.Joins Go.Deep
set_option linter.unusedSimpArgs false
set_option linter.unusedVariables false
theorem trodAll_stays {H : Type} {enc : TypeId × Value → H} {P : Program} (hl : laidOutB P = true) {W W' : World} (hx : Ext W W') {sp : Nat → Bool} : ∀ {ts : List TypeId} {vs : List Value} {ds : List (DataW H)} {ps : List MemPlace},
    (∀ t ∈ ts, P.readableRec t = true ∧ t < P.types.size) → DataW.TrodAll enc P W 0 (fun _ => true) true ts vs ds ps → (∀ x ∈ ps, x.block < W.heap.size) → (∀ x ∈ ps, sp x.block = true) → DataW.TrodAll enc P W' 0 sp true ts vs ds ps
  | [], _, _, _, _, h, _, _ => by
    obtain ⟨rfl, rfl, rfl⟩ := trodAll_nil h
    exact trodAll_mk0
  | t :: ts, _, _, _, ht, h, hlt, hsp => by
    obtain ⟨v, vs, d, ds, p, q, rfl, rfl, rfl, h1, h2⟩ := trodAll_cons h
    refine ⟨p, q, WideElems.Trod_stays hl (ht t (by simp)).1 (ht t (by simp)).2 h1 (fun x hx' => hx.same (hlt x (by simp [hx']))) (fun x hx' => hsp x (by simp [hx'])), ?_, rfl⟩
    exact trodAll_stays hl hx (fun t' ht' => ht t' (by simp [ht'])) h2 (fun x hx' => hlt x (by simp [hx'])) (fun x hx' => hsp x (by simp [hx']))

/-- Memory that is only added to, no variables, the arguments told as they were: the specification's post. -/
theorem post_of_ext {H : Type} {enc : TypeId × Value → H} {P : Program} {f : Func} {s : ChangeSpec} {apart fresh handsOn again : Bool} {W W' : World} {args : Array Value} {v : Value} {ds : List (DataW H)} {before : List MemPlace}
    (hl : laidOutB P = true) (hts : (f.params.toList.all fun t => P.readableRec t && decide (t < P.types.size)) = true) (hx : Ext W W') (hv : s.vars = [])
    (hW : DataW.Whole enc P f.params.toList s.vars apart W args.toList ds [] before) (hA : DataW.TrodAll enc P W 0 (fun _ => true) true f.params.toList args.toList ds before)
    (hsp : (s.fn H ds).args = ds) (hsv : (s.fn H ds).vars = [])
    (hres : ∀ (b : Nat) (sp : Nat → Bool) (hd : Bool), DataW.TrodAll enc P W' b sp hd f.resultTypes.toList (v.resultList f.resultTypes.size) (s.fn H ds).results [])
    (hok : ∀ (j : Nat) (t : TypeId) (r : Value), f.resultTypes[j]? = some t → (v.resultList f.resultTypes.size)[j]? = some r → Value.okWide P W' .any 0 t r) :
    s.post enc P f apart fresh handsOn again W args v W' := by
  have hts' : ∀ t ∈ f.params.toList, P.readableRec t = true ∧ t < P.types.size := fun t ht => by
    have := List.all_eq_true.1 hts t ht
    simpa using this
  have hlt : ∀ x ∈ before, x.block < W.heap.size := fun x hx' => by simpa using hW.lt x hx'
  have hargs : ∀ sp : Nat → Bool, (∀ p ∈ before, sp p.block = true) → DataW.TrodAll enc P W' 0 sp true f.params.toList args.toList (s.fn H (ds ++ [])).args before := fun sp h => by
    rw [List.append_nil, hsp]; exact trodAll_stays hl hx hts' hA hlt h
  have hvars : ∀ sp : Nat → Bool, DataW.TrodVars enc P W' sp s.vars (s.fn H (ds ++ [])).vars [] := fun sp => by
    rw [List.append_nil, hsv, hv]; rfl
  have hres' : ∀ (b : Nat) (sp : Nat → Bool) (hd : Bool), DataW.TrodAll enc P W' b sp hd f.resultTypes.toList (v.resultList f.resultTypes.size) (s.fn H (ds ++ [])).results [] := fun b sp hd => by
    rw [List.append_nil]; exact hres b sp hd
  have hold : ∀ p ∈ before, (fun b => decide (b < W.heap.size)) p.block = true := fun p hp => by simpa using hlt p hp
  refine ⟨ds, [], before, [], before, [], hW, hres' _ _ _, hargs _ hold, hvars _, hx.frame _, fun _ => ?_⟩
  obtain ⟨_, _, _, _, _, hz, hn⟩ := id hW
  refine ⟨hok, _, _, ([] ++ before) ++ [], ⟨[] ++ before, [], trodAll_append (hargs _ (fun _ _ => rfl)) (hres' _ _ _), hvars _, rfl, ?_, ?_⟩, ?_⟩
  · intro b off hp
    simp only [List.nil_append, List.append_nil] at hp
    rw [Below.frozen hx (p := ⟨b, off, none⟩) (hlt _ hp)]
    exact hz b off hp
  · intro ha
    have := hn ha
    simpa using this
  · intro p hp _
    simpa using hp

theorem spot_none {W : World} {a : Addr} {u : Value} (h : W.cell? a = some u) : a = ⟨a.block, a.off, none⟩ := by
  obtain ⟨b, o, s⟩ := a
  cases s with
  | none => rfl
  | some s => exfalso; unfold World.cell? at h; simp only at h; split at h <;> simp at h

/-- A slice whose elements read as f says. -/
theorem rd_of_trod {α H : Type} [Inhabited α] {enc : TypeId × Value → H} {W : World} {fuel : Nat} {T e : TypeId} {k : Nat} {c0 : Value} {y : DataW H × List MemPlace} (f : α → List Value) (hf : ∀ a, (f a).length = k) (hk0 : 0 < k)
    (ht : Try.prog.underlying T = some (.slice e)) (hk : Try.prog.cellsOf e = k)
    (each : ∀ fuel cs x, cs.length = k → DataW.trod enc Try.prog W 0 (fun _ => true) true fuel e cs = some x → ∃ a : α, cs = f a)
    (h : DataW.trod enc Try.prog W 0 (fun _ => true) true fuel T [c0] = some y) :
    ∃ (a : Option Addr) (n c : Nat) (l : List α), c0 = .slice a n c ∧ l.length = n ∧ n ≤ c ∧ Rd W k a n (cellsF f l) := by
  rcases open_slice ht h with ⟨hcs, _⟩ | ⟨a, len, cap, m, n, D, Pl, hcs, hb, hl, hm, hmm, rfl, hx⟩
  · exact ⟨none, 0, 0, [], by simpa using hcs, rfl, Nat.le_refl _, Rd.nil _ _ _⟩
  · simp only [if_true] at hmm
    subst hmm
    have ex : ∀ i, ∃ z : α, i < len → ∃ cs', W.cells? 0 (a.add (i * k)) k = some cs' ∧ cs' = f z := fun i => by
      by_cases hil : i < len
      · obtain ⟨cs', h1, h2⟩ := hx i (by omega)
        rw [hk] at h1
        obtain ⟨_, hlen, _⟩ := World.cells?_some h1
        obtain ⟨z, hz⟩ := each _ _ _ hlen h2
        exact ⟨z, fun _ => ⟨cs', h1, hz⟩⟩
      · exact ⟨default, fun h => absurd h hil⟩
    obtain ⟨z, hz⟩ := Classical.axiomOfChoice ex
    have hlen : ((List.range len).map z).length = len := by simp
    refine ⟨some a, len, m, (List.range len).map z, by simpa using hcs, hlen, hl, by rw [cellsF_length hf, hlen], fun h0 => ?_⟩
    have cell : ∀ i j, i < len → j < k → W.cell? ((a.add (i * k)).add j) = (f (z i))[j]? := fun i j hi hj => by
      obtain ⟨cs', h1, h2⟩ := hz i hi
      obtain ⟨_, _, h3⟩ := World.cells?_some h1
      rw [h3 j hj, h2]
    have hc0 := cell 0 0 (by omega) hk0
    rw [List.getElem?_eq_getElem (by rw [hf]; exact hk0)] at hc0
    have hsp : a = ⟨a.block, a.off, none⟩ := by
      have := spot_none hc0
      simpa [Addr.add] using this
    have hbl := World.block_lt_of_cell? W _ hc0
    refine ⟨a.block, a.off, by rw [← hsp], by simpa [Addr.add] using hbl, fun j u hu => ?_⟩
    have hj : j < len * k := by
      have := (List.getElem?_eq_some_iff.1 hu).1
      rw [cellsF_length hf, hlen] at this; exact this
    have hi : j / k < len := (Nat.div_lt_iff_lt_mul hk0).2 hj
    have hjk : j % k < k := Nat.mod_lt _ hk0
    have e : j = j / k * k + j % k := by have := Nat.div_add_mod j k; rw [Nat.mul_comm] at this; omega
    have hkl : j / k < ((List.range len).map z).length := by rw [hlen]; exact hi
    rw [e, cellsF_get hf hkl hjk] at hu
    have hc := cell (j / k) (j % k) hi hjk
    rw [show ((List.range len).map z)[j / k] = z (j / k) by simp] at hu
    rw [hu, add_add, hsp] at hc
    rw [e, ← Addr.add_lit a.block a.off (j / k * k + j % k)]
    exact hc

/-- Cells of structs that read as numbers do: a row. -/
theorem r0_row {α : Type} {f : α → List Value} {g : α → List AV} {k : Nat} (hfg : ∀ a, g a = (f a).map AV.v) (hk : ∀ a, (f a).length = k) {pr : Nat → Prop} (hpr : ∀ b, ¬ pr b) {W : World} {a : Option Addr} {n c : Nat} {l : List α} (hl : l.length = n) (hc : n ≤ c) (hr : Rd W k a n (cellsF f l)) :
    R0 pr W (.row k (l.map g)) (.slice a n c) := by
  have hg : (l.map g).flatten = (cellsF f l).map AV.v := by
    clear hl hr
    induction l with
    | nil => rfl
    | cons x l ih => simp only [List.map_cons, List.flatten_cons, cellsF, List.flatMap_cons, List.map_append, hfg] at ih ⊢; rw [ih]
  by_cases h0 : l = []
  · subst h0
    subst hl
    exact .nil _ _ _
  · have hpos : 0 < n := by rw [← hl]; exact List.length_pos_iff.2 h0
    obtain ⟨b, o, rfl, hb, hrow⟩ := hr.2 hpos
    have := R0.row (pr := pr) (w := W) k (l.map g) b o c (fun i => (cellsF f l).getD i undef) (by simpa using h0) (by simp; omega) (fun q hq => by
      obtain ⟨x, _, rfl⟩ := List.mem_map.1 hq
      rw [hfg, List.length_map, hk]) hb (hpr b) (fun i a ha => by
      rw [hg, List.getElem?_map] at ha
      cases hq : (cellsF f l)[i]? with
      | none => rw [hq] at ha; cases ha
      | some u => rw [List.getD_eq_getElem?_getD, hq]; exact hrow i u hq) (fun i a ha => by
      rw [hg, List.getElem?_map] at ha
      cases hq : (cellsF f l)[i]? with
      | none => rw [hq] at ha; cases ha
      | some u => rw [hq] at ha; cases ha; rw [List.getD_eq_getElem?_getD, hq]; exact .v _)
    rw [List.length_map, hl] at this
    exact this
theorem r0_agg {pr : Nat → Prop} {W : World} {l : List AV} {xs : List Value} (hl : xs.length = l.length) (h : ∀ (i : Nat) (a : AV) (x : Value), l[i]? = some a → xs[i]? = some x → R0 pr W a x) : R0 pr W (.agg l) (.agg xs.toArray) := .agg l xs hl h
theorem calls_of_ok {P : Program} {f : FuncId} {args : List AV} (h : FnOk P f args (fun q => q = .v (.bool true))) {vs : List Value} {W : World} (hl : vs.length = args.length) (hR : ∀ (i : Nat) (a : AV) (x : Value), args[i]? = some a → vs[i]? = some x → R0 (fun _ => False) W a x) :
    Calls P f vs.toArray W fun e W' => e = .returned (.bool true) ∧ Ext W W' :=
  (h (fun _ => False) W vs hl hR).mono fun e W' ⟨r, v, h1, h2, h3, h4⟩ => by
    subst h2
    cases h3
    exact ⟨h1, h4⟩
theorem cInt : Try.prog.cellsOf 3 = 1 := by kernel_rfl
theorem cBool : Try.prog.cellsOf 4 = 1 := by kernel_rfl
end Go.Proofs.Ytgiiedpambimoaa

/- Rows of chapter 5: a slice of numbers, opened for the abstract machine. No conditions on a program. -/
namespace Go.Proofs.Ytgiiedpambimoaa
open Go Go.ChangeShapes Go.WideShapes Go.ChangeAt Go.RowKit Go.Joins Go.Deep
set_option linter.unusedSimpArgs false
set_option linter.unusedVariables false
def iC (n : Int) : List Value := [.int .i64 n]
set_option maxRecDepth 100000 in
set_option maxHeartbeats 1000000 in
theorem ints_of_trod {H : Type} {enc : TypeId × Value → H} {W : World} {fuel : Nat} {c0 : Value} {y : DataW H × List MemPlace} (h : DataW.trod enc Try.prog W 0 (fun _ => true) true fuel 22 [c0] = some y) :
    ∃ xs : List Int, R0 (fun _ => False) W (.row 1 (xs.map iE)) c0 := by
  obtain ⟨a, n, c, l, e, hl, hc, hr⟩ := rd_of_trod (k := 1) iC (fun _ => rfl) (by omega) Try.underlying22 cInt (fun fuel cs x hlen hx => by
    obtain ⟨z0, e0, _⟩ := DataW.trod_int Try.underlying3 hx
    exact ⟨z0, e0⟩) h
  subst e
  exact ⟨l, r0_row (f := iC) (g := iE) (k := 1) (fun _ => rfl) (fun _ => rfl) (fun _ h => h) hl hc hr⟩
set_option maxRecDepth 100000 in
set_option maxHeartbeats 1000000 in
theorem open_intS {H : Type} {enc : TypeId × Value → H} {W : World} {base : Nat} {v : Value} {d : DataW H} {p : List MemPlace} (hv : Value.okWide Try.prog W .any base 22 v)
    (h : DataW.Trod enc Try.prog W 0 (fun _ => true) true 22 v d p) : ∃ xs : List Int, R0 (fun _ => False) W (.row 1 (xs.map iE)) v := by
  obtain ⟨a, n, c, rfl⟩ := okWide_slice Try.underlying22 hv
  obtain ⟨fuel, hf⟩ := h
  exact ints_of_trod hf
end Go.Proofs.Ytgiiedpambimoaa

/- Rows of chapter 5: more arguments opened for the abstract machine. No conditions on a program. -/
namespace Go.Proofs.Ytgiiedpambimoaa
open Go Go.ChangeShapes Go.WideShapes Go.ChangeAt Go.RowKit Go.Joins Go.Deep
set_option linter.unusedSimpArgs false
set_option linter.unusedVariables false
set_option maxRecDepth 100000 in
set_option maxHeartbeats 1000000 in
theorem open_num {H : Type} {enc : TypeId × Value → H} {W : World} {base : Nat} {v : Value} {d : DataW H} {p : List MemPlace} (hv : Value.okWide Try.prog W .any base 3 v)
    (h : DataW.Trod enc Try.prog W 0 (fun _ => true) true 3 v d p) : ∃ z : Int, R0 (fun _ => False) W (iA z) v := by
  obtain ⟨z, rfl, _, _, _⟩ := open_int Try.underlying3 hv h
  exact ⟨z, .v _⟩
end Go.Proofs.Ytgiiedpambimoaa

