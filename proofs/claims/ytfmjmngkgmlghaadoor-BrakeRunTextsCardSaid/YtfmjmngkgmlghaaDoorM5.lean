/- Texts of this claim, one behind the other: lemmas for the statement. -/
import Derived.Test.YtfmjmngkgmlghaaDoorM4
import Derived.Test.YtfmjmngkgmlghaaDoorRows
import Derived.Test.YtfmjmngkgmlghaaDoorChecked
import Derived.WalkKit
import Derived.ProofKit
import Derived.OpenShut
import Derived.Deep.DeepHandedRow
import Derived.Deep.SlicePairs
import Derived.Lib.LaidTab
import Derived.Lib.SmallJoins
import Derived.Carry
import Derived.Test.YtfmjmngkgmlghaaDoorCards
import Derived.Test.YtfmjmngkgmlghaaDoorTie
/- Rows of chapter 5: arguments opened for the abstract machine, what reads behind the call as before it. No conditions on a program. -/
namespace Go.Proofs.YtfmjmngkgmlghaaDoor
open Go Go.ChangeShapes Go.WideShapes Go.ChangeAt Go.RowKit Go.Joins Go.Deep
set_option linter.unusedSimpArgs false
set_option linter.unusedVariables false
theorem trodAll_stays {H : Type} {enc : TypeId × Value → H} {P : Program} (hl : laidOutB P = true) {W W' : World} (hx : Ext W W') {sp : Nat → Bool} : ∀ {ts : List TypeId} {vs : List Value} {ds : List (DataW H)} {ps : List MemPlace},
    (∀ t ∈ ts, P.readableRec t = true ∧ t < P.types.size) → DataW.TrodAll enc P W 0 (fun _ => true) true ts vs ds ps → (∀ x ∈ ps, x.block < W.heap.size) → (∀ x ∈ ps, sp x.block = true) → DataW.TrodAll enc P W' 0 sp true ts vs ds ps
  | [], _, _, _, _, h, _, _ => by
    obtain ⟨rfl, rfl, rfl⟩ := trodAll_nil h
    exact trodAll_mk0
  | t :: ts, _, _, _, ht, h, hlt, hsp => by
    obtain ⟨v, vs, d, ds, p, q, rfl, rfl, rfl, h1, h2⟩ := trodAll_cons h
    refine ⟨p, q, WideElems.Trod_stays hl (ht t (by simp)).1 (ht t (by simp)).2 h1 (fun x hx' => hx.same (hlt x (by simp [hx']))) (fun x hx' => hsp x (by simp [hx'])), ?_, rfl⟩
    exact trodAll_stays hl hx (fun t' ht' => ht t' (by simp [ht'])) h2 (fun x hx' => hlt x (by simp [hx'])) (fun x hx' => hsp x (by simp [hx']))

/-- Memory that is only added to, no variables, the arguments told as they were: the specification's post. -/
theorem post_of_ext {H : Type} {enc : TypeId × Value → H} {P : Program} {f : Func} {s : ChangeSpec} {apart fresh handsOn again : Bool} {W W' : World} {args : Array Value} {v : Value} {ds : List (DataW H)} {before : List MemPlace}
    (hl : laidOutB P = true) (hts : (f.params.toList.all fun t => P.readableRec t && decide (t < P.types.size)) = true) (hx : Ext W W') (hv : s.vars = [])
    (hW : DataW.Whole enc P f.params.toList s.vars apart W args.toList ds [] before) (hA : DataW.TrodAll enc P W 0 (fun _ => true) true f.params.toList args.toList ds before)
    (hsp : (s.fn H ds).args = ds) (hsv : (s.fn H ds).vars = [])
    (hres : ∀ (b : Nat) (sp : Nat → Bool) (hd : Bool), DataW.TrodAll enc P W' b sp hd f.resultTypes.toList (v.resultList f.resultTypes.size) (s.fn H ds).results [])
    (hok : ∀ (j : Nat) (t : TypeId) (r : Value), f.resultTypes[j]? = some t → (v.resultList f.resultTypes.size)[j]? = some r → Value.okWide P W' .any 0 t r) :
    s.post enc P f apart fresh handsOn again W args v W' := by
  have hts' : ∀ t ∈ f.params.toList, P.readableRec t = true ∧ t < P.types.size := fun t ht => by
    have := List.all_eq_true.1 hts t ht
    simpa using this
  have hlt : ∀ x ∈ before, x.block < W.heap.size := fun x hx' => by simpa using hW.lt x hx'
  have hargs : ∀ sp : Nat → Bool, (∀ p ∈ before, sp p.block = true) → DataW.TrodAll enc P W' 0 sp true f.params.toList args.toList (s.fn H (ds ++ [])).args before := fun sp h => by
    rw [List.append_nil, hsp]; exact trodAll_stays hl hx hts' hA hlt h
  have hvars : ∀ sp : Nat → Bool, DataW.TrodVars enc P W' sp s.vars (s.fn H (ds ++ [])).vars [] := fun sp => by
    rw [List.append_nil, hsv, hv]; rfl
  have hres' : ∀ (b : Nat) (sp : Nat → Bool) (hd : Bool), DataW.TrodAll enc P W' b sp hd f.resultTypes.toList (v.resultList f.resultTypes.size) (s.fn H (ds ++ [])).results [] := fun b sp hd => by
    rw [List.append_nil]; exact hres b sp hd
  have hold : ∀ p ∈ before, (fun b => decide (b < W.heap.size)) p.block = true := fun p hp => by simpa using hlt p hp
  refine ⟨ds, [], before, [], before, [], hW, hres' _ _ _, hargs _ hold, hvars _, hx.frame _, fun _ => ?_⟩
  obtain ⟨_, _, _, _, _, hz, hn⟩ := id hW
  refine ⟨hok, _, _, ([] ++ before) ++ [], ⟨[] ++ before, [], trodAll_append (hargs _ (fun _ _ => rfl)) (hres' _ _ _), hvars _, rfl, ?_, ?_⟩, ?_⟩
  · intro b off hp
    simp only [List.nil_append, List.append_nil] at hp
    rw [Below.frozen hx (p := ⟨b, off, none⟩) (hlt _ hp)]
    exact hz b off hp
  · intro ha
    have := hn ha
    simpa using this
  · intro p hp _
    simpa using hp

theorem spot_none {W : World} {a : Addr} {u : Value} (h : W.cell? a = some u) : a = ⟨a.block, a.off, none⟩ := by
  obtain ⟨b, o, s⟩ := a
  cases s with
  | none => rfl
  | some s => exfalso; unfold World.cell? at h; simp only at h; split at h <;> simp at h

/-- A slice whose elements read as f says. -/
theorem rd_of_trod {α H : Type} [Inhabited α] {enc : TypeId × Value → H} {W : World} {fuel : Nat} {T e : TypeId} {k : Nat} {c0 : Value} {y : DataW H × List MemPlace} (f : α → List Value) (hf : ∀ a, (f a).length = k) (hk0 : 0 < k)
    (ht : Tryd.prog.underlying T = some (.slice e)) (hk : Tryd.prog.cellsOf e = k)
    (each : ∀ fuel cs x, cs.length = k → DataW.trod enc Tryd.prog W 0 (fun _ => true) true fuel e cs = some x → ∃ a : α, cs = f a)
    (h : DataW.trod enc Tryd.prog W 0 (fun _ => true) true fuel T [c0] = some y) :
    ∃ (a : Option Addr) (n c : Nat) (l : List α), c0 = .slice a n c ∧ l.length = n ∧ n ≤ c ∧ Rd W k a n (cellsF f l) := by
  rcases open_slice ht h with ⟨hcs, _⟩ | ⟨a, len, cap, m, n, D, Pl, hcs, hb, hl, hm, hmm, rfl, hx⟩
  · exact ⟨none, 0, 0, [], by simpa using hcs, rfl, Nat.le_refl _, Rd.nil _ _ _⟩
  · simp only [if_true] at hmm
    subst hmm
    have ex : ∀ i, ∃ z : α, i < len → ∃ cs', W.cells? 0 (a.add (i * k)) k = some cs' ∧ cs' = f z := fun i => by
      by_cases hil : i < len
      · obtain ⟨cs', h1, h2⟩ := hx i (by omega)
        rw [hk] at h1
        obtain ⟨_, hlen, _⟩ := World.cells?_some h1
        obtain ⟨z, hz⟩ := each _ _ _ hlen h2
        exact ⟨z, fun _ => ⟨cs', h1, hz⟩⟩
      · exact ⟨default, fun h => absurd h hil⟩
    obtain ⟨z, hz⟩ := Classical.axiomOfChoice ex
    have hlen : ((List.range len).map z).length = len := by simp
    refine ⟨some a, len, m, (List.range len).map z, by simpa using hcs, hlen, hl, by rw [cellsF_length hf, hlen], fun h0 => ?_⟩
    have cell : ∀ i j, i < len → j < k → W.cell? ((a.add (i * k)).add j) = (f (z i))[j]? := fun i j hi hj => by
      obtain ⟨cs', h1, h2⟩ := hz i hi
      obtain ⟨_, _, h3⟩ := World.cells?_some h1
      rw [h3 j hj, h2]
    have hc0 := cell 0 0 (by omega) hk0
    rw [List.getElem?_eq_getElem (by rw [hf]; exact hk0)] at hc0
    have hsp : a = ⟨a.block, a.off, none⟩ := by
      have := spot_none hc0
      simpa [Addr.add] using this
    have hbl := World.block_lt_of_cell? W _ hc0
    refine ⟨a.block, a.off, by rw [← hsp], by simpa [Addr.add] using hbl, fun j u hu => ?_⟩
    have hj : j < len * k := by
      have := (List.getElem?_eq_some_iff.1 hu).1
      rw [cellsF_length hf, hlen] at this; exact this
    have hi : j / k < len := (Nat.div_lt_iff_lt_mul hk0).2 hj
    have hjk : j % k < k := Nat.mod_lt _ hk0
    have e : j = j / k * k + j % k := by have := Nat.div_add_mod j k; rw [Nat.mul_comm] at this; omega
    have hkl : j / k < ((List.range len).map z).length := by rw [hlen]; exact hi
    rw [e, cellsF_get hf hkl hjk] at hu
    have hc := cell (j / k) (j % k) hi hjk
    rw [show ((List.range len).map z)[j / k] = z (j / k) by simp] at hu
    rw [hu, add_add, hsp] at hc
    rw [e, ← Addr.add_lit a.block a.off (j / k * k + j % k)]
    exact hc

/-- Cells of structs that read as numbers do: a row. -/
theorem r0_row {α : Type} {f : α → List Value} {g : α → List AV} {k : Nat} (hfg : ∀ a, g a = (f a).map AV.v) (hk : ∀ a, (f a).length = k) {pr : Nat → Prop} (hpr : ∀ b, ¬ pr b) {W : World} {a : Option Addr} {n c : Nat} {l : List α} (hl : l.length = n) (hc : n ≤ c) (hr : Rd W k a n (cellsF f l)) :
    R0 pr W (.row k (l.map g)) (.slice a n c) := by
  have hg : (l.map g).flatten = (cellsF f l).map AV.v := by
    clear hl hr
    induction l with
    | nil => rfl
    | cons x l ih => simp only [List.map_cons, List.flatten_cons, cellsF, List.flatMap_cons, List.map_append, hfg] at ih ⊢; rw [ih]
  by_cases h0 : l = []
  · subst h0
    subst hl
    exact .nil _ _ _
  · have hpos : 0 < n := by rw [← hl]; exact List.length_pos_iff.2 h0
    obtain ⟨b, o, rfl, hb, hrow⟩ := hr.2 hpos
    have := R0.row (pr := pr) (w := W) k (l.map g) b o c (fun i => (cellsF f l).getD i undef) (by simpa using h0) (by simp; omega) (fun q hq => by
      obtain ⟨x, _, rfl⟩ := List.mem_map.1 hq
      rw [hfg, List.length_map, hk]) hb (hpr b) (fun i a ha => by
      rw [hg, List.getElem?_map] at ha
      cases hq : (cellsF f l)[i]? with
      | none => rw [hq] at ha; cases ha
      | some u => rw [List.getD_eq_getElem?_getD, hq]; exact hrow i u hq) (fun i a ha => by
      rw [hg, List.getElem?_map] at ha
      cases hq : (cellsF f l)[i]? with
      | none => rw [hq] at ha; cases ha
      | some u => rw [hq] at ha; cases ha; rw [List.getD_eq_getElem?_getD, hq]; exact .v _)
    rw [List.length_map, hl] at this
    exact this
theorem r0_agg {pr : Nat → Prop} {W : World} {l : List AV} {xs : List Value} (hl : xs.length = l.length) (h : ∀ (i : Nat) (a : AV) (x : Value), l[i]? = some a → xs[i]? = some x → R0 pr W a x) : R0 pr W (.agg l) (.agg xs.toArray) := .agg l xs hl h
theorem list2 {α : Type} {l : List α} (h : l.length = 2) : ∃ a b, l = [a, b] := by
  match l, h with
  | [a, b], _ => exact ⟨a, b, rfl⟩
theorem list4 {α : Type} {l : List α} (h : l.length = 4) : ∃ a b c d, l = [a, b, c, d] := by
  match l, h with
  | [a, b, c, d], _ => exact ⟨a, b, c, d, rfl⟩
theorem cInt : Tryd.prog.cellsOf 3 = 1 := by kernel_rfl
theorem cBool : Tryd.prog.cellsOf 4 = 1 := by kernel_rfl
theorem cStr : Tryd.prog.cellsOf 9 = 1 := by kernel_rfl
theorem cPs : Tryd.prog.cellsOf 33 = 1 := by kernel_rfl
theorem cPiece : Tryd.prog.cellsOf 123 = 4 := by kernel_rfl
theorem cTrack : Tryd.prog.cellsOf 35 = 2 := by kernel_rfl
def pC (p : Piece) : List Value := [.int .i64 p.len, .int .i64 p.grad, .int .i64 p.lim, .bool p.leave]
theorem ps_of_trod {H : Type} {enc : TypeId × Value → H} {W : World} {fuel : Nat} {c0 : Value} {y : DataW H × List MemPlace} (h : DataW.trod enc Tryd.prog W 0 (fun _ => true) true fuel 33 [c0] = some y) :
    ∃ ps : List Piece, R0 (fun _ => False) W (.row 4 (ps.map pE)) c0 := by
  obtain ⟨a, n, c, l, e, hl, hc, hr⟩ := rd_of_trod pC (fun _ => rfl) (by omega) Tryd.underlying33 cPiece (fun fuel cs x hlen hx => by
    obtain ⟨xs, k, _, _, _, hxl, hfs⟩ := DataW.trod_struct Tryd.underlying123 hx
    obtain ⟨y0, y1, y2, y3, rfl⟩ := list4 hxl
    obtain ⟨u0, u1, u2, u3, rfl⟩ := list4 hlen
    (
      have g0 := hfs 0 _ rfl
      have g1 := hfs 1 _ rfl
      have g2 := hfs 2 _ rfl
      have g3 := hfs 3 _ rfl
      simp [cInt, cBool] at g0 g1 g2 g3
      obtain ⟨z0, e0, _⟩ := DataW.trod_int Tryd.underlying3 g0
      obtain ⟨z1, e1, _⟩ := DataW.trod_int Tryd.underlying3 g1
      obtain ⟨z2, e2, _⟩ := DataW.trod_int Tryd.underlying3 g2
      obtain ⟨z3, e3, _⟩ := DataW.trod_bool Tryd.underlying4 g3
      simp at e0 e1 e2 e3
      exact ⟨⟨z0, z1, z2, z3⟩, by simp [pC, e0, e1, e2, e3]⟩)) h
  subst e
  exact ⟨l, r0_row (f := pC) (g := pE) (k := 4) (fun _ => rfl) (fun _ => rfl) (fun _ h => h) hl hc hr⟩
set_option maxRecDepth 100000 in
set_option maxHeartbeats 1000000 in
/-- A track, opened. -/
theorem open_track {H : Type} {enc : TypeId × Value → H} {W : World} {base : Nat} {v : Value} {d : DataW H} {p : List MemPlace} (hv : Value.okWide Tryd.prog W .any base 35 v)
    (h : DataW.Trod enc Tryd.prog W 0 (fun _ => true) true 35 v d p) : ∃ (nm : ByteArray) (ps : List Piece), R0 (fun _ => False) W (trA nm ps) v := by
  obtain ⟨cs, rfl, hsz⟩ := okWide_struct Tryd.underlying35 hv
  rw [cTrack] at hsz
  obtain ⟨c0, c1, rfl⟩ : ∃ c0 c1, cs = #[c0, c1] := by
    obtain ⟨a, b, e⟩ := list2 (l := cs.toList) (by simpa using hsz)
    exact ⟨a, b, by rw [← Array.toArray_toList (xs := cs), e]⟩
  obtain ⟨fuel, hf⟩ := h
  obtain ⟨y0, y1, n, hx, _, h0, h1⟩ := trod_struct2 Tryd.underlying35 hf
  simp [Value.cells, cStr, cPs] at h0 h1
  obtain ⟨s, e0, _⟩ := DataW.trod_string Tryd.underlying9 h0
  simp at e0
  subst e0
  obtain ⟨ps, hr⟩ := ps_of_trod h1
  refine ⟨s, ps, r0_agg (xs := [_, _]) rfl fun i a x ha hx => ?_⟩
  match i, ha, hx with
  | 0, ha, hx => cases ha; cases hx; exact .v _
  | 1, ha, hx => cases ha; cases hx; exact hr
end Go.Proofs.YtfmjmngkgmlghaaDoor

/- Rows of chapter 3 for the abstract machine: arrays opened, what the variables of the package hold. No conditions on a program. -/
namespace Go.Proofs.YtfmjmngkgmlghaaDoor
open Go Go.ChangeShapes Go.WideShapes Go.ChangeAt Go.RowKit Go.Joins Go.Deep
set_option linter.unusedSimpArgs false
set_option linter.unusedVariables false
theorem arr_of_trod {α H : Type} [Inhabited α] {P : Program} {enc : TypeId × Value → H} {W : World} {sp : Nat → Bool} {held : Bool} {fuel : Nat} {T e : TypeId} {n k : Nat} {cs : List Value} {y : DataW H × List MemPlace} (f : α → List Value) (df : α → DataW H) (hf : ∀ a, (f a).length = k) (hk0 : 0 < k)
    (ht : P.underlying T = some (.array n e)) (hk : P.cellsOf e = k) (hT : P.cellsOf T = n * k)
    (each : ∀ fuel cs x, cs.length = k → DataW.trod enc P W 0 sp held fuel e cs = some x → ∃ a : α, cs = f a ∧ x.1 = df a)
    (h : DataW.trod enc P W 0 sp held fuel T cs = some y) : ∃ xs : List α, xs.length = n ∧ cs = (xs.map f).flatten ∧ y.1 = .agg (xs.map df) := by
  obtain ⟨zs, m, _, hx, hlen, hxl, hi⟩ := DataW.trod_array ht h
  rw [hT] at hlen
  have ex : ∀ i, ∃ z : α, i < n → (cs.drop (i * k)).take k = f z ∧ (zs[i]?).map (·.1) = some (df z) := fun i => by
    by_cases hil : i < n
    · have h1 := hi i hil
      rw [hk] at h1
      have hzi : i < zs.length := by omega
      rw [List.getElem?_eq_getElem hzi] at h1
      have hle : (i + 1) * k ≤ n * k := Nat.mul_le_mul_right k hil
      rw [Nat.succ_mul] at hle
      obtain ⟨z, h2, h3⟩ := each _ _ _ (by simp; omega) h1
      exact ⟨z, fun _ => ⟨h2, by rw [List.getElem?_eq_getElem hzi]; simp [h3]⟩⟩
    · exact ⟨default, fun h => absurd h hil⟩
  obtain ⟨z, hz⟩ := Classical.axiomOfChoice ex
  refine ⟨(List.range n).map z, by simp, ?_, ?_⟩
  · have hfl : (((List.range n).map z).map f).flatten.length = n * k := by
      rw [flatten_length (all_mapV hf), List.length_map, List.length_map, List.length_range]
    refine List.ext_getElem? fun j => ?_
    by_cases hj : j < n * k
    · have hiq : j / k < n := (Nat.div_lt_iff_lt_mul hk0).2 hj
      have hjk : j % k < k := Nat.mod_lt _ hk0
      have e : j = j / k * k + j % k := by have := Nat.div_add_mod j k; rw [Nat.mul_comm] at this; omega
      have hel : (((List.range n).map z).map f)[j / k]? = some (f (z (j / k))) := by simp [hiq]
      have h1 := flat_get (all_mapV hf) hel hjk
      rw [← e] at h1
      rw [h1, ← (hz (j / k) hiq).1, List.getElem?_take_of_lt hjk, List.getElem?_drop, ← e]
    · rw [List.getElem?_eq_none (by omega), List.getElem?_eq_none (by omega)]
  · rw [hx]
    simp only
    congr 1
    refine List.ext_getElem? fun i => ?_
    by_cases hin : i < n
    · rw [List.getElem?_map, (hz i hin).2]; simp [hin]
    · rw [List.getElem?_eq_none (by simp; omega), List.getElem?_eq_none (by simp; omega)]
theorem callsG_of_ok {P : Program} {gs : List (Nat × List AV)} {f : FuncId} {args : List AV} (h : FnOkG P gs f args (fun q => q = .v (.bool true))) {vs : List Value} {W : World} (hl : vs.length = args.length) (hg : GlobR (fun _ => False) W gs) (hR : ∀ (i : Nat) (a : AV) (x : Value), args[i]? = some a → vs[i]? = some x → R0 (fun _ => False) W a x) :
    Calls P f vs.toArray W fun e W' => e = .returned (.bool true) ∧ Ext W W' :=
  (h (fun _ => False) W vs hl hR hg).mono fun e W' ⟨r, v, h1, h2, h3, h4⟩ => by
    subst h2
    cases h3
    exact ⟨h1, h4⟩
/-- A variable that is laid, as the machine reads it. -/
theorem r0_var {W : World} {nm : String} {g : Nat} {cs : Array Value} (hg : Tryd.prog.globalNamed nm = some g) (hv : W.var? Tryd.prog nm = some cs) (h0 : 0 < cs.size) {xs : List Value} (hx : cs.toList = xs) : R0 (fun _ => False) W (.ref (xs.map AV.v)) (.pointer (some ⟨g, 0, none⟩)) ∧ ExN W g (xs.map AV.v).length := by
  refine ⟨?_, by
    unfold World.var? at hv
    rw [hg] at hv
    simp only [Option.bind_some] at hv
    split at hv
    · rename_i c2 t2 f2 h2
      simp only [Option.some.injEq] at hv
      subst hv hx
      exact ⟨_, _, _, h2, by simp⟩
    · cases hv⟩
  have hc : ∀ j, W.cell? ⟨g, j, none⟩ = cs[j]? := fun j => World.var?_cell hg hv j
  have hb : g < W.heap.size := by
    have h1 := hc 0
    rw [Array.getElem?_eq_getElem h0] at h1
    exact World.block_lt_of_cell? W _ h1
  subst hx
  refine .ref _ g 0 (fun i => cs.getD i undef) hb (fun h => h) (fun i a ha => ?_) fun i a ha => ?_
  · have hi : i < cs.size := by have := (List.getElem?_eq_some_iff.1 ha).1; simpa using this
    rw [Nat.zero_add, hc i, Array.getElem?_eq_getElem hi]; simp [hi]
  · have hi : i < cs.size := by have := (List.getElem?_eq_some_iff.1 ha).1; simpa using this
    rw [List.getElem?_map] at ha
    simp [hi] at ha
    subst ha
    simp [hi]
    exact .v _
end Go.Proofs.YtfmjmngkgmlghaaDoor

