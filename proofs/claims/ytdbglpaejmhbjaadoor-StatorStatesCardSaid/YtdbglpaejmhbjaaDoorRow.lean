/- Rows: the table, the arguments, what reads behind the call as before it. -/
import Derived.Test.YtdbglpaejmhbjaaDoorW15
import Derived.Test.YtdbglpaejmhbjaaDoorCards
import Derived.Test.YtdbglpaejmhbjaaDoorTie
import Derived.WalkKit
import Derived.ProofKit
import Derived.OpenShut
import Derived.Deep.DeepHandedRow
import Derived.Deep.SlicePairs
import Derived.Lib.LaidTab
import Derived.Lib.SmallJoins
import Derived.Carry
namespace Go.Proofs.YtdbglpaejmhbjaaDoor
open Go Go.ChangeShapes Go.WideShapes Go.ChangeAt Go.RowKit Go.Joins Go.Deep
set_option linter.unusedSimpArgs false
set_option linter.unusedVariables false

theorem cStates : Tryd.prog.cellsOf 139 = 16 := by kernel_rfl
theorem cVector : Tryd.prog.cellsOf 120 = 2 := by kernel_rfl
theorem cThird : Tryd.prog.cellsOf 24 = 2 := by kernel_rfl
theorem cInt : Tryd.prog.cellsOf 3 = 1 := by kernel_rfl

/-- What the row's list gives: block 0 holds the table. -/
theorem sts_of_laid {W : World} (h : laidMetH Tryd.prog [("guideway/stator.states", Rows.laid_guideway_stator_states)] W) : Sts W := by
  obtain ⟨ps, ⟨g', t', cs, fuel, p, q, hg', ht', hvar, hd, _, _⟩, _⟩ := h
  obtain rfl : 0 = g' := Option.some.inj ((show Tryd.prog.globalNamed "guideway/stator.states" = some 0 by kernel_rfl).symm.trans hg')
  obtain rfl : 139 = t' := Option.some.inj ((show (Tryd.prog.globals[0]?).map (·.type) = some 139 by kernel_rfl).symm.trans ht')
  obtain ⟨xs, m, rfl, hx, hlen, hxl, hf⟩ := DataW.trod_array Tryd.underlying139 hd
  have hxs : xs.map (·.1) = stT.map fun x => (DataW.agg [.lit (.int .i64 x.2.1), .lit (.int .i64 x.2.2)] : DataW Unit) := by
    have := congrArg Prod.fst hx
    simp only [Rows.laid_guideway_stator_states, DataW.agg.injEq] at this
    rw [← this]; rfl
  have hcs : ∀ j, W.cell? ⟨0, j, none⟩ = cs[j]? := fun j => World.var?_cell hg' hvar j
  have each : ∀ i (hi : i < 8), W.cell? ⟨0, i * 2, none⟩ = some (.int .i64 (stT[i]'hi).2.1) ∧ W.cell? ⟨0, i * 2 + 1, none⟩ = some (.int .i64 (stT[i]'hi).2.2) := by
    intro i hi
    have h1 := hf i hi
    rw [cVector] at h1
    have hy : xs[i]? = some (xs[i]'(by omega)) := List.getElem?_eq_getElem _
    rw [hy] at h1
    have h4 : (xs[i]'(by omega)).1 = DataW.agg [.lit (.int .i64 (stT[i]'hi).2.1), .lit (.int .i64 (stT[i]'hi).2.2)] := by
      have h5 : (xs.map (·.1))[i]? = some (xs[i]'(by omega)).1 := by simp [hy]
      rw [hxs] at h5
      simp only [List.getElem?_map, List.getElem?_eq_getElem (show i < stT.length from hi), Option.map_some, Option.some.injEq] at h5
      exact h5.symm
    obtain ⟨y0, y1, n, hy', hl, h2, h3⟩ := trod_struct2 Tryd.underlying120 h1
    rw [hy'] at h4
    simp only [cInt] at h2 h3
    obtain ⟨z0, e0, rfl, _⟩ := DataW.trod_int Tryd.underlying3 h2
    obtain ⟨z1, e1, rfl, _⟩ := DataW.trod_int Tryd.underlying3 h3
    simp only [DataW.agg.injEq, List.cons.injEq, DataW.lit.injEq, Lit.int.injEq, true_and, and_true] at h4
    obtain ⟨rfl, rfl⟩ := h4
    rw [hcs, hcs]
    have f0 := congrArg (·[0]?) e0
    have f1 := congrArg (·[0]?) e1
    simp [List.getElem?_take, List.getElem?_drop] at f0 f1
    exact ⟨f0, f1⟩
  refine ⟨World.block_lt_of_cell? W _ (each 0 (by omega)).1, fun j hj => ?_⟩
  have h := each (j / 2) (by omega)
  have hL : ∀ i (hi : i < 8), stL.getD (i * 2) 0 = (stT[i]'hi).2.1 ∧ stL.getD (i * 2 + 1) 0 = (stT[i]'hi).2.2 := by decide
  have hL' := hL (j / 2) (by omega)
  by_cases he : j % 2 = 0
  · have e : j = j / 2 * 2 := by omega
    rw [e, hL'.1]; exact h.1
  · have e : j = j / 2 * 2 + 1 := by omega
    rw [e, hL'.2]; exact h.2

theorem trodAll_stays {H : Type} {enc : TypeId × Value → H} {P : Program} (hl : laidOutB P = true) {W W' : World} (hx : Ext W W') {sp : Nat → Bool} : ∀ {ts : List TypeId} {vs : List Value} {ds : List (DataW H)} {ps : List MemPlace},
    (∀ t ∈ ts, P.readableRec t = true ∧ t < P.types.size) → DataW.TrodAll enc P W 0 (fun _ => true) true ts vs ds ps → (∀ x ∈ ps, x.block < W.heap.size) → (∀ x ∈ ps, sp x.block = true) → DataW.TrodAll enc P W' 0 sp true ts vs ds ps
  | [], _, _, _, _, h, _, _ => by
    obtain ⟨rfl, rfl, rfl⟩ := trodAll_nil h
    exact trodAll_mk0
  | t :: ts, _, _, _, ht, h, hlt, hsp => by
    obtain ⟨v, vs, d, ds, p, q, rfl, rfl, rfl, h1, h2⟩ := trodAll_cons h
    refine ⟨p, q, WideElems.Trod_stays hl (ht t (by simp)).1 (ht t (by simp)).2 h1 (fun x hx' => hx.same (hlt x (by simp [hx']))) (fun x hx' => hsp x (by simp [hx'])), ?_, rfl⟩
    exact trodAll_stays hl hx (fun t' ht' => ht t' (by simp [ht'])) h2 (fun x hx' => hlt x (by simp [hx'])) (fun x hx' => hsp x (by simp [hx']))

/-- Memory that is only added to, no variables, the arguments told as they were: the specification's post. -/
theorem post_of_ext {H : Type} {enc : TypeId × Value → H} {P : Program} {f : Func} {s : ChangeSpec} {apart fresh handsOn again : Bool} {W W' : World} {args : Array Value} {v : Value} {ds : List (DataW H)} {before : List MemPlace}
    (hl : laidOutB P = true) (hts : (f.params.toList.all fun t => P.readableRec t && decide (t < P.types.size)) = true) (hx : Ext W W') (hv : s.vars = [])
    (hW : DataW.Whole enc P f.params.toList s.vars apart W args.toList ds [] before) (hA : DataW.TrodAll enc P W 0 (fun _ => true) true f.params.toList args.toList ds before)
    (hsp : (s.fn H ds).args = ds) (hsv : (s.fn H ds).vars = [])
    (hres : ∀ (b : Nat) (sp : Nat → Bool) (hd : Bool), DataW.TrodAll enc P W' b sp hd f.resultTypes.toList (v.resultList f.resultTypes.size) (s.fn H ds).results [])
    (hok : ∀ (j : Nat) (t : TypeId) (r : Value), f.resultTypes[j]? = some t → (v.resultList f.resultTypes.size)[j]? = some r → Value.okWide P W' .any 0 t r) :
    s.post enc P f apart fresh handsOn again W args v W' := by
  have hts' : ∀ t ∈ f.params.toList, P.readableRec t = true ∧ t < P.types.size := fun t ht => by
    have := List.all_eq_true.1 hts t ht
    simpa using this
  have hlt : ∀ x ∈ before, x.block < W.heap.size := fun x hx' => by simpa using hW.lt x hx'
  have hargs : ∀ sp : Nat → Bool, (∀ p ∈ before, sp p.block = true) → DataW.TrodAll enc P W' 0 sp true f.params.toList args.toList (s.fn H (ds ++ [])).args before := fun sp h => by
    rw [List.append_nil, hsp]; exact trodAll_stays hl hx hts' hA hlt h
  have hvars : ∀ sp : Nat → Bool, DataW.TrodVars enc P W' sp s.vars (s.fn H (ds ++ [])).vars [] := fun sp => by
    rw [List.append_nil, hsv, hv]; rfl
  have hres' : ∀ (b : Nat) (sp : Nat → Bool) (hd : Bool), DataW.TrodAll enc P W' b sp hd f.resultTypes.toList (v.resultList f.resultTypes.size) (s.fn H (ds ++ [])).results [] := fun b sp hd => by
    rw [List.append_nil]; exact hres b sp hd
  have hold : ∀ p ∈ before, (fun b => decide (b < W.heap.size)) p.block = true := fun p hp => by simpa using hlt p hp
  refine ⟨ds, [], before, [], before, [], hW, hres' _ _ _, hargs _ hold, hvars _, hx.frame _, fun _ => ?_⟩
  obtain ⟨_, _, _, _, _, hz, hn⟩ := id hW
  refine ⟨hok, _, _, ([] ++ before) ++ [], ⟨[] ++ before, [], trodAll_append (hargs _ (fun _ _ => rfl)) (hres' _ _ _), hvars _, rfl, ?_, ?_⟩, ?_⟩
  · intro b off hp
    simp only [List.nil_append, List.append_nil] at hp
    rw [Below.frozen hx (p := ⟨b, off, none⟩) (hlt _ hp)]
    exact hz b off hp
  · intro ha
    have := hn ha
    simpa using this
  · intro p hp _
    simpa using hp

theorem spot_none {W : World} {a : Addr} {u : Value} (h : W.cell? a = some u) : a = ⟨a.block, a.off, none⟩ := by
  obtain ⟨b, o, s⟩ := a
  cases s with
  | none => rfl
  | some s => exfalso; unfold World.cell? at h; simp only at h; split at h <;> simp at h

set_option maxRecDepth 100000 in
set_option maxHeartbeats 1000000 in
/-- A slice of vectors, opened. -/
theorem open_vectors {H : Type} {enc : TypeId × Value → H} {W : World} {base : Nat} {v : Value} {d : DataW H} {p : List MemPlace} (hv : Value.okWide Tryd.prog W .any base 22 v)
    (h : DataW.Trod enc Tryd.prog W 0 (fun _ => true) true 22 v d p) : ∃ (a : Option Addr) (n c : Nat) (cs : List T2), v = .slice a n c ∧ cs.length = n ∧ Rd W 2 a n (cells2 cs) := by
  obtain ⟨a', n', c', rfl⟩ := okWide_slice Tryd.underlying22 hv
  obtain ⟨fuel, hf⟩ := h
  rcases open_slice_pairs Tryd.underlying22 Tryd.underlying24 cThird rfl rfl cInt cInt hf with ⟨hcs, _⟩ | ⟨a, len, cap, m, n, V0, V1, D0, D1, P0, P1, hcs, hb, hl, hm, hmm, hx, hi⟩
  · have e : Value.slice a' n' c' = .slice none 0 0 := by simpa [Value.cells] using hcs
    cases e
    exact ⟨none, 0, 0, [], rfl, rfl, Rd.nil _ _ _⟩
  · have e : Value.slice a' n' c' = .slice (some a) len cap := by simpa [Value.cells] using hcs
    cases e
    simp only [if_true] at hmm
    subst hmm
    have ex : ∀ i, ∃ z : T2, i < n' → V0 i = .int .i64 z.1 ∧ V1 i = .int .i64 z.2 := fun i => by
      by_cases hil : i < n'
      · obtain ⟨_, _, h0, h1⟩ := hi i (by omega)
        obtain ⟨z0, e0, _⟩ := DataW.trod_int Tryd.underlying3 h0
        obtain ⟨z1, e1, _⟩ := DataW.trod_int Tryd.underlying3 h1
        exact ⟨(z0, z1), fun _ => ⟨by simpa using e0, by simpa using e1⟩⟩
      · exact ⟨(0, 0), fun h => absurd h hil⟩
    obtain ⟨z, hz⟩ := Classical.axiomOfChoice ex
    have hlen : ((List.range n').map z).length = n' := by simp
    refine ⟨some a, n', m, (List.range n').map z, rfl, hlen, ⟨by rw [cells2_length, hlen], fun h0 => ?_⟩⟩
    have hc0 := (hi 0 (by omega)).1
    have hsp : a = ⟨a.block, a.off, none⟩ := by
      have := spot_none hc0
      simpa [Addr.add] using this
    rw [hsp] at hi
    refine ⟨a.block, a.off, by rw [hsp], ?_, fun j u hu => ?_⟩
    · have := World.block_lt_of_cell? W _ hc0
      simpa [Addr.add] using this
    · have hj : j < n' * 2 := by
        have := (List.getElem?_eq_some_iff.1 hu).1
        rw [cells2_length, hlen] at this; exact this
      obtain ⟨c0, c1, _, _⟩ := hi (j / 2) (by omega)
      have hk : j / 2 < ((List.range n').map z).length := by rw [hlen]; omega
      have hzz := hz (j / 2) (by omega)
      by_cases he : j % 2 = 0
      · have e : j = j / 2 * 2 := by omega
        rw [e, cells2_get0 hk] at hu
        rw [e, ← Option.some.inj hu]
        rw [hzz.1, Addr.add_lit] at c0
        simpa using c0
      · have e : j = j / 2 * 2 + 1 := by omega
        rw [e, cells2_get1 hk] at hu
        rw [e, ← Option.some.inj hu]
        rw [hzz.2, Addr.add_lit] at c1
        simpa using c1
set_option maxRecDepth 100000 in
set_option maxHeartbeats 1000000 in
/-- A vector, opened. -/
theorem open_third {H : Type} {enc : TypeId × Value → H} {W : World} {base : Nat} {v : Value} {d : DataW H} {p : List MemPlace} (hv : Value.okWide Tryd.prog W .any base 24 v)
    (h : DataW.Trod enc Tryd.prog W 0 (fun _ => true) true 24 v d p) : ∃ f : T2, v = tV f ∧ (Lit.int .i64 f.1).wf = true ∧ (Lit.int .i64 f.2).wf = true := by
  obtain ⟨v0, v1, y0, y1, n, rfl, rfl, rfl, h0, h1⟩ := open_agg2 Tryd.underlying24 (by kernel_rfl) cThird hv h
  obtain ⟨z0, e0, _, w0⟩ := DataW.trod_int Tryd.underlying3 h0
  obtain ⟨z1, e1, _, w1⟩ := DataW.trod_int Tryd.underlying3 h1
  obtain rfl : v0 = .int .i64 z0 := by simpa using e0
  obtain rfl : v1 = .int .i64 z1 := by simpa using e1
  exact ⟨(z0, z1), rfl, w0, w1⟩
end Go.Proofs.YtdbglpaejmhbjaaDoor
