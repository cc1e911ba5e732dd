/- Texts of this claim, one behind the other: lemmas for the statement. -/
import Derived.Test.YtjhcfpdgldpicaaGreatDoorM6
import Derived.Test.YtjhcfpdgldpicaaGreatDoorRows
import Derived.Test.YtjhcfpdgldpicaaGreatDoorChecked
import Derived.WalkKit
import Derived.ProofKit
import Derived.OpenShut
import Derived.Deep.DeepHandedRow
import Derived.Deep.SlicePairs
import Derived.Lib.LaidTab
import Derived.Lib.SmallJoins
import Derived.Carry
import Derived.Test.YtjhcfpdgldpicaaGreatDoorCards
import Derived.Test.YtjhcfpdgldpicaaGreatDoorTie
import Derived.Lib.ItoaNum
import Derived.Lib.ItoaLen
import Derived.Lib.AtoiTie
import Derived.Lib.Strings
import Derived.Test.YtjhcfpdgldpicaaGreatDoorA32
import Derived.Test.YtjhcfpdgldpicaaGreatDoorProg
import Derived.Shelf.LaysM
import Derived.Shelf.LaysC
import Derived.Shelf.Strconv.Itoa3
import Derived.Shelf.Strconv.AtoiAll
import Derived.Shelf.Strings.Search1
import Derived.Shelf.Strings.Prefix
import Derived.Lib.AppendIntMem
set_option linter.unusedSimpArgs false
set_option linter.unusedVariables false
namespace Go.Proofs.YtjhcfpdgldpicaaGreatDoor
open Go Go.ChangeShapes Go.WideShapes Go.ChangeAt Go.RowKit Go.Joins Go.Deep
theorem trodAll_stays {H : Type} {enc : TypeId × Value → H} {P : Program} (hl : laidOutB P = true) {W W' : World} (hx : Ext W W') {sp : Nat → Bool} : ∀ {ts : List TypeId} {vs : List Value} {ds : List (DataW H)} {ps : List MemPlace},
 (∀ t ∈ ts, P.readableRec t = true ∧ t < P.types.size) → DataW.TrodAll enc P W 0 (fun _ => true) true ts vs ds ps → (∀ x ∈ ps, x.block < W.heap.size) → (∀ x ∈ ps, sp x.block = true) → DataW.TrodAll enc P W' 0 sp true ts vs ds ps
 | [], _, _, _, _, h, _, _ => by
  obtain ⟨rfl, rfl, rfl⟩ := trodAll_nil h
  exact trodAll_mk0
 | t :: ts, _, _, _, ht, h, hlt, hsp => by
  obtain ⟨v, vs, d, ds, p, q, rfl, rfl, rfl, h1, h2⟩ := trodAll_cons h
  refine ⟨p, q, WideElems.Trod_stays hl (ht t (by simp)).1 (ht t (by simp)).2 h1 (fun x hx' => hx.same (hlt x (by simp [hx']))) (fun x hx' => hsp x (by simp [hx'])), ?_, rfl⟩
  exact trodAll_stays hl hx (fun t' ht' => ht t' (by simp [ht'])) h2 (fun x hx' => hlt x (by simp [hx'])) (fun x hx' => hsp x (by simp [hx']))
theorem post_of_ext {H : Type} {enc : TypeId × Value → H} {P : Program} {f : Func} {s : ChangeSpec} {apart fresh handsOn again : Bool} {W W' : World} {args : Array Value} {v : Value} {ds : List (DataW H)} {before : List MemPlace}
 (hl : laidOutB P = true) (hts : (f.params.toList.all fun t => P.readableRec t && decide (t < P.types.size)) = true) (hx : Ext W W') (hv : s.vars = [])
 (hW : DataW.Whole enc P f.params.toList s.vars apart W args.toList ds [] before) (hA : DataW.TrodAll enc P W 0 (fun _ => true) true f.params.toList args.toList ds before)
 (hsp : (s.fn H ds).args = ds) (hsv : (s.fn H ds).vars = [])
 (hres : ∀ (b : Nat) (sp : Nat → Bool) (hd : Bool), DataW.TrodAll enc P W' b sp hd f.resultTypes.toList (v.resultList f.resultTypes.size) (s.fn H ds).results [])
 (hok : ∀ (j : Nat) (t : TypeId) (r : Value), f.resultTypes[j]? = some t → (v.resultList f.resultTypes.size)[j]? = some r → Value.okWide P W' .any 0 t r) :
 s.post enc P f apart fresh handsOn again W args v W' := by
 have hts' : ∀ t ∈ f.params.toList, P.readableRec t = true ∧ t < P.types.size := fun t ht => by
  have := List.all_eq_true.1 hts t ht
  simpa using this
 have hlt : ∀ x ∈ before, x.block < W.heap.size := fun x hx' => by simpa using hW.lt x hx'
 have hargs : ∀ sp : Nat → Bool, (∀ p ∈ before, sp p.block = true) → DataW.TrodAll enc P W' 0 sp true f.params.toList args.toList (s.fn H (ds ++ [])).args before := fun sp h => by
  rw [List.append_nil, hsp]; exact trodAll_stays hl hx hts' hA hlt h
 have hvars : ∀ sp : Nat → Bool, DataW.TrodVars enc P W' sp s.vars (s.fn H (ds ++ [])).vars [] := fun sp => by
  rw [List.append_nil, hsv, hv]; rfl
 have hres' : ∀ (b : Nat) (sp : Nat → Bool) (hd : Bool), DataW.TrodAll enc P W' b sp hd f.resultTypes.toList (v.resultList f.resultTypes.size) (s.fn H (ds ++ [])).results [] := fun b sp hd => by
  rw [List.append_nil]; exact hres b sp hd
 have hold : ∀ p ∈ before, (fun b => decide (b < W.heap.size)) p.block = true := fun p hp => by simpa using hlt p hp
 refine ⟨ds, [], before, [], before, [], hW, hres' _ _ _, hargs _ hold, hvars _, hx.frame _, fun _ => ?_⟩
 obtain ⟨_, _, _, _, _, hz, hn⟩ := id hW
 refine ⟨hok, _, _, ([] ++ before) ++ [], ⟨[] ++ before, [], trodAll_append (hargs _ (fun _ _ => rfl)) (hres' _ _ _), hvars _, rfl, ?_, ?_⟩, ?_⟩
 ·intro b off hp
  simp only [List.nil_append, List.append_nil] at hp
  rw [Below.frozen hx (p := ⟨b, off, none⟩) (hlt _ hp)]
  exact hz b off hp
 ·intro ha
  have := hn ha
  simpa using this
 ·intro p hp _
  simpa using hp
theorem spot_none {W : World} {a : Addr} {u : Value} (h : W.cell? a = some u) : a = ⟨a.block, a.off, none⟩ := by
 obtain ⟨b, o, s⟩ := a
 cases s with
 | none => rfl
 | some s => exfalso; unfold World.cell? at h; simp only at h; split at h <;> simp at h
theorem rd_of_trod {α H : Type} [Inhabited α] {enc : TypeId × Value → H} {W : World} {fuel : Nat} {T e : TypeId} {k : Nat} {c0 : Value} {y : DataW H × List MemPlace} (f : α → List Value) (hf : ∀ a, (f a).length = k) (hk0 : 0 < k)
 (ht : Tryz.prog.underlying T = some (.slice e)) (hk : Tryz.prog.cellsOf e = k)
 (each : ∀ fuel cs x, cs.length = k → DataW.trod enc Tryz.prog W 0 (fun _ => true) true fuel e cs = some x → ∃ a : α, cs = f a)
 (h : DataW.trod enc Tryz.prog W 0 (fun _ => true) true fuel T [c0] = some y) :
 ∃ (a : Option Addr) (n c : Nat) (l : List α), c0 = .slice a n c ∧ l.length = n ∧ n ≤ c ∧ Rd W k a n (cellsF f l) := by
 rcases open_slice ht h with ⟨hcs, _⟩ | ⟨a, len, cap, m, n, D, Pl, hcs, hb, hl, hm, hmm, rfl, hx⟩
 ·exact ⟨none, 0, 0, [], by simpa using hcs, rfl, Nat.le_refl _, Rd.nil _ _ _⟩
 ·simp only [if_true] at hmm
  subst hmm
  have ex : ∀ i, ∃ z : α, i < len → ∃ cs', W.cells? 0 (a.add (i * k)) k = some cs' ∧ cs' = f z := fun i => by
   by_cases hil : i < len
   ·obtain ⟨cs', h1, h2⟩ := hx i (by omega)
    rw [hk] at h1
    obtain ⟨_, hlen, _⟩ := World.cells?_some h1
    obtain ⟨z, hz⟩ := each _ _ _ hlen h2
    exact ⟨z, fun _ => ⟨cs', h1, hz⟩⟩
   ·exact ⟨default, fun h => absurd h hil⟩
  obtain ⟨z, hz⟩ := Classical.axiomOfChoice ex
  have hlen : ((List.range len).map z).length = len := by simp
  refine ⟨some a, len, m, (List.range len).map z, by simpa using hcs, hlen, hl, by rw [cellsF_length hf, hlen], fun h0 => ?_⟩
  have cell : ∀ i j, i < len → j < k → W.cell? ((a.add (i * k)).add j) = (f (z i))[j]? := fun i j hi hj => by
   obtain ⟨cs', h1, h2⟩ := hz i hi
   obtain ⟨_, _, h3⟩ := World.cells?_some h1
   rw [h3 j hj, h2]
  have hc0 := cell 0 0 (by omega) hk0
  rw [List.getElem?_eq_getElem (by rw [hf]; exact hk0)] at hc0
  have hsp : a = ⟨a.block, a.off, none⟩ := by
   have := spot_none hc0
   simpa [Addr.add] using this
  have hbl := World.block_lt_of_cell? W _ hc0
  refine ⟨a.block, a.off, by rw [← hsp], by simpa [Addr.add] using hbl, fun j u hu => ?_⟩
  have hj : j < len * k := by
   have := (List.getElem?_eq_some_iff.1 hu).1
   rw [cellsF_length hf, hlen] at this; exact this
  have hi : j / k < len := (Nat.div_lt_iff_lt_mul hk0).2 hj
  have hjk : j % k < k := Nat.mod_lt _ hk0
  have e : j = j / k * k + j % k := by have := Nat.div_add_mod j k; rw [Nat.mul_comm] at this; omega
  have hkl : j / k < ((List.range len).map z).length := by rw [hlen]; exact hi
  rw [e, cellsF_get hf hkl hjk] at hu
  have hc := cell (j / k) (j % k) hi hjk
  rw [show ((List.range len).map z)[j / k] = z (j / k) by simp] at hu
  rw [hu, add_add, hsp] at hc
  rw [e, ← Addr.add_lit a.block a.off (j / k * k + j % k)]
  exact hc
theorem r0_row {α : Type} {f : α → List Value} {g : α → List AV} {k : Nat} (hfg : ∀ a, g a = (f a).map AV.v) (hk : ∀ a, (f a).length = k) {pr : Nat → Prop} (hpr : ∀ b, ¬ pr b) {W : World} {a : Option Addr} {n c : Nat} {l : List α} (hl : l.length = n) (hc : n ≤ c) (hr : Rd W k a n (cellsF f l)) :
 R0 pr W (.row k (l.map g)) (.slice a n c) := by
 have hg : (l.map g).flatten = (cellsF f l).map AV.v := by
  clear hl hr
  induction l with
  | nil => rfl
  | cons x l ih => simp only [List.map_cons, List.flatten_cons, cellsF, List.flatMap_cons, List.map_append, hfg] at ih ⊢; rw [ih]
 by_cases h0 : l = []
 ·subst h0
  subst hl
  exact .nil _ _ _
 ·have hpos : 0 < n := by rw [← hl]; exact List.length_pos_iff.2 h0
  obtain ⟨b, o, rfl, hb, hrow⟩ := hr.2 hpos
  have := R0.row (pr := pr) (w := W) k (l.map g) b o c (fun i => (cellsF f l).getD i undef) (by simpa using h0) (by simp; omega) (fun q hq => by
   obtain ⟨x, _, rfl⟩ := List.mem_map.1 hq
   rw [hfg, List.length_map, hk]) hb (hpr b) (fun i a ha => by
   rw [hg, List.getElem?_map] at ha
   cases hq : (cellsF f l)[i]? with
   | none => rw [hq] at ha; cases ha
   | some u => rw [List.getD_eq_getElem?_getD, hq]; exact hrow i u hq) (fun i a ha => by
   rw [hg, List.getElem?_map] at ha
   cases hq : (cellsF f l)[i]? with
   | none => rw [hq] at ha; cases ha
   | some u => rw [hq] at ha; cases ha; rw [List.getD_eq_getElem?_getD, hq]; exact .v _)
  rw [List.length_map, hl] at this
  exact this
theorem r0_agg {pr : Nat → Prop} {W : World} {l : List AV} {xs : List Value} (hl : xs.length = l.length) (h : ∀ (i : Nat) (a : AV) (x : Value), l[i]? = some a → xs[i]? = some x → R0 pr W a x) : R0 pr W (.agg l) (.agg xs.toArray) := .agg l xs hl h
theorem list2 {α : Type} {l : List α} (h : l.length = 2) : ∃ a b, l = [a, b] := by
 match l, h with
 | [a, b], _ => exact ⟨a, b, rfl⟩
theorem list4 {α : Type} {l : List α} (h : l.length = 4) : ∃ a b c d, l = [a, b, c, d] := by
 match l, h with
 | [a, b, c, d], _ => exact ⟨a, b, c, d, rfl⟩
theorem cInt : Tryz.prog.cellsOf 3 = 1 := by kernel_rfl
theorem cBool : Tryz.prog.cellsOf 4 = 1 := by kernel_rfl
theorem cStr : Tryz.prog.cellsOf 9 = 1 := by kernel_rfl
theorem cPs : Tryz.prog.cellsOf 22 = 1 := by kernel_rfl
theorem cPiece : Tryz.prog.cellsOf 111 = 4 := by kernel_rfl
theorem cTrack : Tryz.prog.cellsOf 24 = 2 := by kernel_rfl
def pC (p : Piece) : List Value := [.int .i64 p.len, .int .i64 p.grad, .int .i64 p.lim, .bool p.leave]
theorem ps_of_trod {H : Type} {enc : TypeId × Value → H} {W : World} {fuel : Nat} {c0 : Value} {y : DataW H × List MemPlace} (h : DataW.trod enc Tryz.prog W 0 (fun _ => true) true fuel 22 [c0] = some y) :
 ∃ ps : List Piece, R0 (fun _ => False) W (.row 4 (ps.map pE)) c0 := by
 obtain ⟨a, n, c, l, e, hl, hc, hr⟩ := rd_of_trod pC (fun _ => rfl) (by omega) Tryz.underlying22 cPiece (fun fuel cs x hlen hx => by
  obtain ⟨xs, k, _, _, _, hxl, hfs⟩ := DataW.trod_struct Tryz.underlying111 hx
  obtain ⟨y0, y1, y2, y3, rfl⟩ := list4 hxl
  obtain ⟨u0, u1, u2, u3, rfl⟩ := list4 hlen
  (
   have g0 := hfs 0 _ rfl
   have g1 := hfs 1 _ rfl
   have g2 := hfs 2 _ rfl
   have g3 := hfs 3 _ rfl
   simp [cInt, cBool] at g0 g1 g2 g3
   obtain ⟨z0, e0, _⟩ := DataW.trod_int Tryz.underlying3 g0
   obtain ⟨z1, e1, _⟩ := DataW.trod_int Tryz.underlying3 g1
   obtain ⟨z2, e2, _⟩ := DataW.trod_int Tryz.underlying3 g2
   obtain ⟨z3, e3, _⟩ := DataW.trod_bool Tryz.underlying4 g3
   simp at e0 e1 e2 e3
   exact ⟨⟨z0, z1, z2, z3⟩, by simp [pC, e0, e1, e2, e3]⟩)) h
 subst e
 exact ⟨l, r0_row (f := pC) (g := pE) (k := 4) (fun _ => rfl) (fun _ => rfl) (fun _ h => h) hl hc hr⟩
set_option maxRecDepth 100000 in
set_option maxHeartbeats 1000000 in
theorem open_track {H : Type} {enc : TypeId × Value → H} {W : World} {base : Nat} {v : Value} {d : DataW H} {p : List MemPlace} (hv : Value.okWide Tryz.prog W .any base 24 v)
 (h : DataW.Trod enc Tryz.prog W 0 (fun _ => true) true 24 v d p) : ∃ (nm : ByteArray) (ps : List Piece), R0 (fun _ => False) W (trA nm ps) v := by
 obtain ⟨cs, rfl, hsz⟩ := okWide_struct Tryz.underlying24 hv
 rw [cTrack] at hsz
 obtain ⟨c0, c1, rfl⟩ : ∃ c0 c1, cs = #[c0, c1] := by
  obtain ⟨a, b, e⟩ := list2 (l := cs.toList) (by simpa using hsz)
  exact ⟨a, b, by rw [← Array.toArray_toList (xs := cs), e]⟩
 obtain ⟨fuel, hf⟩ := h
 obtain ⟨y0, y1, n, hx, _, h0, h1⟩ := trod_struct2 Tryz.underlying24 hf
 simp [Value.cells, cStr, cPs] at h0 h1
 obtain ⟨s, e0, _⟩ := DataW.trod_string Tryz.underlying9 h0
 simp at e0
 subst e0
 obtain ⟨ps, hr⟩ := ps_of_trod h1
 refine ⟨s, ps, r0_agg (xs := [_, _]) rfl fun i a x ha hx => ?_⟩
 match i, ha, hx with
 | 0, ha, hx => cases ha; cases hx; exact .v _
 | 1, ha, hx => cases ha; cases hx; exact hr
theorem arr_of_trod {α H : Type} [Inhabited α] {P : Program} {enc : TypeId × Value → H} {W : World} {sp : Nat → Bool} {held : Bool} {fuel : Nat} {T e : TypeId} {n k : Nat} {cs : List Value} {y : DataW H × List MemPlace} (f : α → List Value) (df : α → DataW H) (hf : ∀ a, (f a).length = k) (hk0 : 0 < k)
 (ht : P.underlying T = some (.array n e)) (hk : P.cellsOf e = k) (hT : P.cellsOf T = n * k)
 (each : ∀ fuel cs x, cs.length = k → DataW.trod enc P W 0 sp held fuel e cs = some x → ∃ a : α, cs = f a ∧ x.1 = df a)
 (h : DataW.trod enc P W 0 sp held fuel T cs = some y) : ∃ xs : List α, xs.length = n ∧ cs = (xs.map f).flatten ∧ y.1 = .agg (xs.map df) := by
 obtain ⟨zs, m, _, hx, hlen, hxl, hi⟩ := DataW.trod_array ht h
 rw [hT] at hlen
 have ex : ∀ i, ∃ z : α, i < n → (cs.drop (i * k)).take k = f z ∧ (zs[i]?).map (·.1) = some (df z) := fun i => by
  by_cases hil : i < n
  ·have h1 := hi i hil
   rw [hk] at h1
   have hzi : i < zs.length := by omega
   rw [List.getElem?_eq_getElem hzi] at h1
   have hle : (i + 1) * k ≤ n * k := Nat.mul_le_mul_right k hil
   rw [Nat.succ_mul] at hle
   obtain ⟨z, h2, h3⟩ := each _ _ _ (by simp; omega) h1
   exact ⟨z, fun _ => ⟨h2, by rw [List.getElem?_eq_getElem hzi]; simp [h3]⟩⟩
  ·exact ⟨default, fun h => absurd h hil⟩
 obtain ⟨z, hz⟩ := Classical.axiomOfChoice ex
 refine ⟨(List.range n).map z, by simp, ?_, ?_⟩
 ·have hfl : (((List.range n).map z).map f).flatten.length = n * k := by
   rw [flatten_length (all_mapV hf), List.length_map, List.length_map, List.length_range]
  refine List.ext_getElem? fun j => ?_
  by_cases hj : j < n * k
  ·have hiq : j / k < n := (Nat.div_lt_iff_lt_mul hk0).2 hj
   have hjk : j % k < k := Nat.mod_lt _ hk0
   have e : j = j / k * k + j % k := by have := Nat.div_add_mod j k; rw [Nat.mul_comm] at this; omega
   have hel : (((List.range n).map z).map f)[j / k]? = some (f (z (j / k))) := by simp [hiq]
   have h1 := flat_get (all_mapV hf) hel hjk
   rw [← e] at h1
   rw [h1, ← (hz (j / k) hiq).1, List.getElem?_take_of_lt hjk, List.getElem?_drop, ← e]
  ·rw [List.getElem?_eq_none (by omega), List.getElem?_eq_none (by omega)]
 ·rw [hx]
  simp only
  congr 1
  refine List.ext_getElem? fun i => ?_
  by_cases hin : i < n
  ·rw [List.getElem?_map, (hz i hin).2]; simp [hin]
  ·rw [List.getElem?_eq_none (by simp; omega), List.getElem?_eq_none (by simp; omega)]
theorem callsG_of_ok {P : Program} {gs : List (Nat × List AV)} {f : FuncId} {args : List AV} (h : FnOkG P gs f args (fun q => q = .v (.bool true))) {vs : List Value} {W : World} (hl : vs.length = args.length) (hg : GlobR (fun _ => False) W gs) (hR : ∀ (i : Nat) (a : AV) (x : Value), args[i]? = some a → vs[i]? = some x → R0 (fun _ => False) W a x) :
 Calls P f vs.toArray W fun e W' => e = .returned (.bool true) ∧ Ext W W' :=
 (h (fun _ => False) W vs hl hR hg).mono fun e W' ⟨r, v, h1, h2, h3, h4⟩ => by
  subst h2
  cases h3
  exact ⟨h1, h4⟩
theorem r0_var {W : World} {nm : String} {g : Nat} {cs : Array Value} (hg : Tryz.prog.globalNamed nm = some g) (hv : W.var? Tryz.prog nm = some cs) (h0 : 0 < cs.size) {xs : List Value} (hx : cs.toList = xs) : R0 (fun _ => False) W (.ref (xs.map AV.v)) (.pointer (some ⟨g, 0, none⟩)) ∧ ExN W g (xs.map AV.v).length := by
 refine ⟨?_, by
  unfold World.var? at hv
  rw [hg] at hv
  simp only [Option.bind_some] at hv
  split at hv
  ·rename_i c2 t2 f2 h2
   simp only [Option.some.injEq] at hv
   subst hv hx
   exact ⟨_, _, _, h2, by simp⟩
  ·cases hv⟩
 have hc : ∀ j, W.cell? ⟨g, j, none⟩ = cs[j]? := fun j => World.var?_cell hg hv j
 have hb : g < W.heap.size := by
  have h1 := hc 0
  rw [Array.getElem?_eq_getElem h0] at h1
  exact World.block_lt_of_cell? W _ h1
 subst hx
 refine .ref _ g 0 (fun i => cs.getD i undef) hb (fun h => h) (fun i a ha => ?_) fun i a ha => ?_
 ·have hi : i < cs.size := by have := (List.getElem?_eq_some_iff.1 ha).1; simpa using this
  rw [Nat.zero_add, hc i, Array.getElem?_eq_getElem hi]; simp [hi]
 ·have hi : i < cs.size := by have := (List.getElem?_eq_some_iff.1 ha).1; simpa using this
  rw [List.getElem?_map] at ha
  simp [hi] at ha
  subst ha
  simp [hi]
  exact .v _
end Go.Proofs.YtjhcfpdgldpicaaGreatDoor
namespace Go.Proofs.YtjhcfpdgldpicaaGreatDoor
open Go Go.Lib
theorem decFrom_snoc : ∀ (l : List UInt8) (acc : Nat) (b : UInt8), decFrom acc (l ++ [b]) = (decFrom acc l).bind fun n => (digitVal b).map fun d => n * 10 + d
 | [], acc, b => by simp only [List.nil_append, decFrom]; cases digitVal b <;> rfl
 | a :: t, acc, b => by
  simp only [List.cons_append, decFrom]
  cases digitVal a with
  | none => rfl
  | some d => exact decFrom_snoc t _ b
theorem digitVal_of {d : Nat} (h : d < 10) : digitVal (UInt8.ofNat (48 + d)) = some d := by
 have e : (UInt8.ofNat (48 + d)).toNat = 48 + d := by rw [UInt8.toNat_ofNat']; omega
 unfold digitVal
 rw [e, if_pos (by omega)]; congr 1; omega
theorem dec_small {u : Nat} (h : u < 10) : decDigits u = [UInt8.ofNat (48 + u)] := by rw [decDigits, dif_pos h]
theorem dec_big {u : Nat} (h : ¬ u < 10) : decDigits u = decDigits (u / 10) ++ [UInt8.ofNat (48 + u % 10)] := by rw [decDigits, dif_neg h]
theorem decFrom_dec (u : Nat) : decFrom 0 (decDigits u) = some u := by
 induction u using Nat.strongRecOn with
 | _ u ih =>
  by_cases h : u < 10
  ·rw [dec_small h]; simp only [decFrom, digitVal_of h]; congr 1; omega
  ·rw [dec_big h, decFrom_snoc, ih (u / 10) (by omega), digitVal_of (by omega)]
   simp only [Option.bind_some, Option.map_some]; congr 1; omega
theorem dec_ne (u : Nat) : decDigits u ≠ [] := by
 by_cases h : u < 10
 ·rw [dec_small h]; simp
 ·rw [dec_big h]; simp
theorem dec_head (u : Nat) (h : 1 ≤ u) : ∀ b : UInt8, (decDigits u)[0]? = some b → b.toNat ≠ 48 := by
 induction u using Nat.strongRecOn with
 | _ u ih =>
  intro b hb
  by_cases h1 : u < 10
  ·rw [dec_small h1] at hb
   simp only [List.getElem?_cons_zero, Option.some.injEq] at hb
   rw [← hb, UInt8.toNat_ofNat']; omega
  ·rw [dec_big h1, List.getElem?_append_left (List.length_pos_iff.2 (dec_ne _))] at hb
   exact ih (u / 10) (by omega) (by omega) b hb
theorem dec_of : ∀ (k : Nat) (r : List UInt8) (n : Nat), r.length = k → decFrom 0 r = some n → r ≠ [] → (r.length = 1 ∨ ∀ b : UInt8, r[0]? = some b → b.toNat ≠ 48) → decDigits n = r
 | 0, r, n, hk, _, hr, _ => absurd (List.length_eq_zero_iff.1 hk) hr
 | k + 1, r, n, hk, hn, hr, hc => by
  have hsp : r = r.dropLast ++ [r.getLast hr] := (List.dropLast_concat_getLast hr).symm
  have hm : r.dropLast.length = k := by rw [List.length_dropLast]; omega
  generalize hb : r.getLast hr = b at hsp
  generalize hmm : r.dropLast = m at hsp hm
  clear hb hmm
  subst hsp
  rw [decFrom_snoc] at hn
  cases hm0 : decFrom 0 m with
  | none => rw [hm0] at hn; cases hn
  | some q =>
   rw [hm0] at hn
   cases hd : digitVal b with
   | none => rw [hd] at hn; cases hn
   | some d =>
    rw [hd] at hn
    simp only [Option.bind_some, Option.map_some, Option.some.injEq] at hn
    obtain ⟨b1, b2, b3⟩ := digitVal_eq hd
    have hbe : UInt8.ofNat (48 + d) = b := by
     apply UInt8.toNat_inj.1
     rw [UInt8.toNat_ofNat']; omega
    by_cases h0 : m = []
    ·subst h0
     have hq : q = 0 := by simpa [decFrom] using hm0.symm
     subst hq
     rw [← hn, dec_small (by omega), show 48 + (0 * 10 + d) = 48 + d by omega, hbe]; rfl
    ·have hl : 1 ≤ m.length := List.length_pos_iff.2 h0
     have hc' : ∀ c : UInt8, m[0]? = some c → c.toNat ≠ 48 := fun c hcc => by
      rcases hc with hc | hc
      ·rw [List.length_append] at hc; simp at hc; exact absurd hc h0
      ·exact hc c (by rw [List.getElem?_append_left (by omega)]; exact hcc)
     have ih := dec_of k m q hm hm0 h0 (.inr hc')
     have hq1 : 1 ≤ q := by
      rcases Nat.eq_zero_or_pos q with h1 | h1
      ·subst h1
       rw [dec_small (by decide)] at ih
       exact absurd rfl (hc' 48 (by rw [← ih]; rfl))
      ·exact h1
     rw [← hn, dec_big (by omega), show (q * 10 + d) / 10 = q by omega, show (q * 10 + d) % 10 = d by omega, ih, hbe]
def numN (l : List UInt8) : Int := match atoiAll l with
 | .ok v => v
 | .range => atoiSat l
 | _ => 0
def numK (l : List UInt8) (D : Nat) : Bool := match atoiAll l with
 | .ok v => decide (itoa v = l) && decide ((trimPrefix l [45]).length ≤ D)
 | _ => false
def numA (l : List UInt8) : Nat := if l[0]? = some 45 then 1 else 0
theorem numA_le {l : List UInt8} : numA l ≤ l.length := by
 unfold numA
 split
 ·rename_i h; exact (List.getElem?_eq_some_iff.1 h).1
 ·omega
theorem trim_len (l : List UInt8) : (trimPrefix l [45]).length = l.length - numA l := by
 unfold trimPrefix hasPrefix numA
 cases l with
 | nil => rfl
 | cons a t =>
  by_cases h : a = 45
  ·subst h; simp
  ·simp only [List.getElem?_cons_zero, Option.some.injEq, if_neg h]
   rw [if_neg]
   ·omega
   ·simp; exact fun e => h e.symm
theorem num_yes {l : List UInt8} {D n : Nat} (hD : D ≤ 17) (h1 : l.drop (numA l) ≠ []) (h2 : l.length - numA l ≤ D) (h3 : ¬ (l[numA l]? = some 48 ∧ 1 < l.length)) (hn : decFrom 0 (l.drop (numA l)) = some n) :
 numK l D = true ∧ numN l = if numA l = 1 then -(n : Int) else n := by
 have hla := numA_le (l := l)
 have hna : numA l ≤ 1 := by unfold numA; split <;> omega
 have hg : ∀ b : UInt8, (l.drop (numA l))[0]? = some b → l[numA l]? = some b := fun b hb => by rw [List.getElem?_drop] at hb; simpa using hb
 have hlen : (l.drop (numA l)).length = l.length - numA l := List.length_drop
 have hcan : (l.drop (numA l)).length = 1 ∨ ∀ b : UInt8, (l.drop (numA l))[0]? = some b → b.toNat ≠ 48 := by
  by_cases hl1 : 1 < l.length
  ·refine .inr fun b hb e => h3 ⟨?_, hl1⟩
   rw [hg b hb]; congr 1; exact UInt8.toNat_inj.1 e
  ·have := List.length_pos_iff.2 h1
   left; omega
 have hdd := dec_of _ _ n rfl hn h1 hcan
 have hds : decNat (l.drop (numA l)) = some n := by unfold decNat; rw [if_neg (by simpa using h1)]; exact hn
 have hnn : ∀ b : UInt8, (l.drop (numA l))[0]? = some b → b ≠ 45 ∧ b ≠ 43 := fun b hb => by
  obtain ⟨d, hd⟩ := digit_of_decFrom _ _ _ hn 0 b hb
  obtain ⟨q1, q2, _⟩ := digitVal_eq hd
  constructor
  ·rintro rfl; exact absurd q1 (by decide)
  ·rintro rfl; exact absurd q1 (by decide)
 by_cases ha : l[0]? = some 45
 ·have e1 : numA l = 1 := by unfold numA; rw [if_pos ha]
  rw [e1] at h1 h2 h3 hn hdd hds hlen hg hcan ⊢
  obtain ⟨r, rfl⟩ : ∃ r, l = 45 :: r := by
   cases l with
   | nil => cases ha
   | cons a t => simp at ha; exact ⟨t, by rw [ha]⟩
  simp only [List.drop_succ_cons, List.drop_zero] at *
  have hn1 : 1 ≤ n := by
   rcases Nat.eq_zero_or_pos n with hz | hz
   ·subst hz
    rw [dec_small (by decide)] at hdd
    exact absurd ⟨by rw [← hdd]; rfl, by rw [← hdd]; decide⟩ h3
   ·exact hz
  have ht : atoiAll (45 :: r) = .ok (-(n : Int)) := by
   rw [atoiAll_short _ (by simp at h2 ⊢; omega)]
   simp only [atoi]
   rw [if_pos (by decide), hds]; rfl
  have hi : itoa (-(n : Int)) = 45 :: r := by
   unfold itoa; rw [if_pos (by omega), show (-(n : Int)).natAbs = n by omega, hdd]
  have hk := trim_len (45 :: r)
  rw [e1] at hk
  unfold numK numN
  rw [ht]
  simp only [hi, hk]
  exact ⟨by simp at h2 ⊢; omega, rfl⟩
 ·have e1 : numA l = 0 := by unfold numA; rw [if_neg ha]
  rw [e1] at h1 h2 h3 hn hdd hds hlen hg hcan hnn ⊢
  simp only [List.drop_zero] at *
  obtain ⟨a, r, rfl⟩ : ∃ a r, l = a :: r := by
   cases l with
   | nil => exact absurd rfl h1
   | cons a t => exact ⟨a, t, rfl⟩
  have hn2 := hnn a rfl
  have ht : atoiAll (a :: r) = .ok (n : Int) := by
   rw [atoiAll_short _ (by omega)]
   simp only [atoi]
   rw [if_neg (by simpa using hn2.1), if_neg (by simpa using hn2.2), hds]; rfl
  have hi : itoa (n : Int) = a :: r := by
   unfold itoa; rw [if_neg (by omega), show ((n : Int)).toNat = n by omega, hdd]
  have hk := trim_len (a :: r)
  rw [e1] at hk
  unfold numK numN
  rw [ht]
  simp only [hi, hk]
  exact ⟨by simp at h2 ⊢; omega, rfl⟩
theorem itoa_at (v : Int) : (itoa v).drop (numA (itoa v)) = decDigits v.natAbs ∧ ((itoa v)[numA (itoa v)]? = some 48 → (itoa v).length = 1) ∧ (numA (itoa v) = 1 ↔ v < 0) := by
 have hc : ∀ (u : Nat) (b : UInt8), (decDigits u)[0]? = some b → 48 ≤ b.toNat := fun u b hb => by
  obtain ⟨d, hd⟩ := digit_of_decFrom _ _ _ (decFrom_dec u) 0 b hb
  exact (digitVal_eq hd).1
 by_cases h : v < 0
 ·have e : itoa v = 45 :: decDigits v.natAbs := by unfold itoa; rw [if_pos h]
  have ea : numA (itoa v) = 1 := by rw [e]; rfl
  rw [ea, e]
  refine ⟨rfl, fun hq => ?_, by simp [h]⟩
  have := dec_head v.natAbs (by omega) 48 (by simpa using hq)
  exact absurd rfl this
 ·have e : itoa v = decDigits v.natAbs := by unfold itoa; rw [if_neg h]; congr 1; omega
  have ea : numA (itoa v) = 0 := by
   unfold numA
   rw [if_neg, ]
   rw [e]; intro hq
   have := hc _ _ hq
   exact absurd this (by decide)
  rw [ea, e]
  refine ⟨rfl, fun hq => ?_, by simp [h]⟩
  by_cases h0 : v.natAbs < 10
  ·rw [dec_small h0]; rfl
  ·exact absurd rfl (dec_head v.natAbs (by omega) 48 hq)
theorem num_no {l : List UInt8} {D : Nat} (h : numK l D = true) : l.drop (numA l) ≠ [] ∧ l.length - numA l ≤ D ∧ ¬ (l[numA l]? = some 48 ∧ 1 < l.length) ∧ (∀ (k : Nat) (b : UInt8), numA l ≤ k → l[k]? = some b → 48 ≤ b.toNat ∧ b.toNat ≤ 57) ∧ itoa (numN l) = l := by
 unfold numK at h
 unfold numN
 rcases hq : atoiAll l with v | _ | _
 rotate_left
 ·rw [hq] at h; cases h
 ·rw [hq] at h; cases h
 ·
  rw [hq] at h
  simp only [Bool.and_eq_true, decide_eq_true_eq] at h
  obtain ⟨h1, h2⟩ := h
  obtain ⟨i1, i2, i3⟩ := itoa_at v
  rw [trim_len] at h2
  rw [h1] at i1 i2
  refine ⟨by rw [i1]; exact dec_ne _, h2, fun hh => by have := i2 hh.1; omega, fun k b hk hb => ?_, h1⟩
  have hb' : (l.drop (numA l))[k - numA l]? = some b := by rw [List.getElem?_drop, show numA l + (k - numA l) = k by omega]; exact hb
  rw [i1] at hb'
  obtain ⟨d, hd⟩ := digit_of_decFrom _ _ _ (decFrom_dec v.natAbs) _ b hb'
  obtain ⟨q1, q2, _⟩ := digitVal_eq hd
  exact ⟨q1, q2⟩
theorem num_back {v : Int} {D : Nat} (hD : D ≤ 17) (h : (decDigits v.natAbs).length ≤ D) : numK (itoa v) D = true ∧ numN (itoa v) = v := by
 obtain ⟨i1, i2, i3⟩ := itoa_at v
 have hl : (itoa v).length - numA (itoa v) = (decDigits v.natAbs).length := by rw [← i1, List.length_drop]
 have := num_yes (l := itoa v) (D := D) (n := v.natAbs) hD (by rw [i1]; exact dec_ne _) (by omega) (fun hh => by have := i2 hh.1; omega) (by rw [i1]; exact decFrom_dec _)
 refine ⟨this.1, this.2.trans ?_⟩
 split
 ·have := i3.1 ‹_›; omega
 ·have : ¬ v < 0 := fun hv => ‹¬ _› (i3.2 hv)
  omega
theorem dec_len_le : ∀ (D u : Nat), 1 ≤ D → u < 10 ^ D → (decDigits u).length ≤ D
 | 0, u, h, _ => absurd h (by decide)
 | D + 1, u, _, h => by
  by_cases h0 : u < 10
  ·rw [dec_small h0]; simp
  ·rw [dec_big h0, List.length_append]
   have hD : 1 ≤ D := by
    rcases Nat.eq_zero_or_pos D with hz | hz
    ·subst hz; simp at h; omega
    ·exact hz
   have := dec_len_le D (u / 10) hD (by rw [Nat.pow_succ] at h; omega)
   simp; omega
end Go.Proofs.YtjhcfpdgldpicaaGreatDoor
namespace Go.Proofs.YtjhcfpdgldpicaaGreatDoor
open Go Go.RowKit Go.Proofs Go.Shelf Go.Lib
def layM171_ren : Go.Shelf.Ren := ⟨fun | 171 => 51 | 243 => 114 | 246 => 154 | 283 => 167 | 284 => 168 | 285 => 169 | 286 => 170 | 129 => 190 | 317 => 189 | 318 => 191 | 319 => 192 | 320 => 193 | 337 => 205 | 338 => 206 | n => n, fun | 3 => 3 | 9 => 9 | 2 => 2 | 4 => 4 | 171 => 241 | 0 => 0 | 53 => 231 | 37 => 119 | 5 => 5 | 173 => 244 | 212 => 252 | 51 => 253 | 20 => 20 | 213 => 254 | 46 => 247 | 232 => 273 | 233 => 274 | n => n, fun | 17 => 3 | 18 => 6 | 19 => 7 | n => n⟩
theorem layM171 : Go.Proofs.LaysM.n171 Tryz.prog layM171_ren := {
 mixed := by kernel_rfl
 f129 := Tryz.func190.trans (congrArg some (by kernel_rfl))
 f171 := Tryz.func51.trans (congrArg some (by kernel_rfl))
 f243 := Tryz.func114.trans (congrArg some (by kernel_rfl))
 f246 := Tryz.func154.trans (congrArg some (by kernel_rfl))
 f283 := Tryz.func167.trans (congrArg some (by kernel_rfl))
 f284 := Tryz.func168.trans (congrArg some (by kernel_rfl))
 f285 := Tryz.func169.trans (congrArg some (by kernel_rfl))
 f286 := Tryz.func170.trans (congrArg some (by kernel_rfl))
 f317 := Tryz.func189.trans (congrArg some (by kernel_rfl))
 f318 := Tryz.func191.trans (congrArg some (by kernel_rfl))
 f319 := Tryz.func192.trans (congrArg some (by kernel_rfl))
 f320 := Tryz.func193.trans (congrArg some (by kernel_rfl))
 f337 := Tryz.func205.trans (congrArg some (by kernel_rfl))
 f338 := Tryz.func206.trans (congrArg some (by kernel_rfl))
 t0 := Tryz.underlying0
 a0 := Tryz.isAgg0
 z0 := Tryz.sizeOf0
 v0 := Tryz.zeroValue0
 t2 := Tryz.underlying2
 a2 := Tryz.isAgg2
 z2 := Tryz.sizeOf2
 v2 := Tryz.zeroValue2
 t3 := Tryz.underlying3
 a3 := Tryz.isAgg3
 z3 := Tryz.sizeOf3
 v3 := Tryz.zeroValue3
 t4 := Tryz.underlying4
 a4 := Tryz.isAgg4
 z4 := Tryz.sizeOf4
 v4 := Tryz.zeroValue4
 t5 := Tryz.underlying5
 a5 := Tryz.isAgg5
 z5 := Tryz.sizeOf5
 v5 := Tryz.zeroValue5
 t9 := Tryz.underlying9
 a9 := Tryz.isAgg9
 z9 := Tryz.sizeOf9
 v9 := Tryz.zeroValue9
 t20 := Tryz.underlying20
 a20 := Tryz.isAgg20
 z20 := Tryz.sizeOf20
 v20 := Tryz.zeroValue20
 t37 := Tryz.underlying119
 a37 := Tryz.isAgg119
 z37 := Tryz.sizeOf119
 v37 := Tryz.zeroValue119
 t46 := Tryz.underlying247
 a46 := Tryz.isAgg247
 z46 := Tryz.sizeOf247
 v46 := Tryz.zeroValue247
 t51 := Tryz.underlying253
 a51 := Tryz.isAgg253
 z51 := Tryz.sizeOf253
 v51 := Tryz.zeroValue253
 t53 := Tryz.underlying231
 a53 := Tryz.isAgg231
 z53 := Tryz.sizeOf231
 v53 := Tryz.zeroValue231
 t171 := Tryz.underlying241
 a171 := Tryz.isAgg241
 z171 := Tryz.sizeOf241
 v171 := Tryz.zeroValue241
 t173 := Tryz.underlying244
 a173 := Tryz.isAgg244
 z173 := Tryz.sizeOf244
 v173 := Tryz.zeroValue244
 t212 := Tryz.underlying252
 a212 := Tryz.isAgg252
 z212 := Tryz.sizeOf252
 v212 := Tryz.zeroValue252
 t213 := Tryz.underlying254
 a213 := Tryz.isAgg254
 z213 := Tryz.sizeOf254
 t232 := Tryz.underlying273
 a232 := Tryz.isAgg273
 z232 := Tryz.sizeOf273
 v232 := Tryz.zeroValue273
 t233 := Tryz.underlying274
 a233 := Tryz.isAgg274
 z233 := Tryz.sizeOf274
 v233 := Tryz.zeroValue274
 g17 := by kernel_rfl
 g18 := by kernel_rfl
 g19 := by kernel_rfl
 i0 := by kernel_rfl
 i2 := by kernel_rfl
 i3 := by kernel_rfl
 i4 := by kernel_rfl
 i5 := by kernel_rfl
 i9 := by kernel_rfl
 i20 := by kernel_rfl
 i37 := by kernel_rfl
 i46 := by kernel_rfl
 i51 := by kernel_rfl
 i53 := by kernel_rfl
 i171 := by kernel_rfl
 i173 := by kernel_rfl
 i212 := by kernel_rfl
 i232 := by kernel_rfl
 i233 := by kernel_rfl
 m17 := by kernel_rfl
 m18 := by kernel_rfl
 m19 := by kernel_rfl }
def layC172_ren : Go.Shelf.Ren := ⟨fun | 172 => 162 | 244 => 174 | 245 => 175 | 247 => 194 | 279 => 195 | 280 => 196 | 281 => 197 | 282 => 198 | 287 => 207 | 316 => 208 | 171 => 51 | 205 => 209 | 321 => 212 | 322 => 213 | 243 => 114 | 246 => 154 | 283 => 167 | 284 => 168 | 285 => 169 | 286 => 170 | 129 => 190 | 317 => 189 | 318 => 191 | 319 => 192 | 320 => 193 | 337 => 205 | 338 => 206 | n => n, fun | 9 => 9 | 3 => 3 | 75 => 123 | 76 => 124 | 4 => 4 | 5 => 5 | 167 => 256 | 37 => 119 | 0 => 0 | 85 => 257 | 2 => 2 | 168 => 259 | 53 => 231 | 175 => 266 | 46 => 247 | 210 => 269 | 127 => 202 | 145 => 278 | 143 => 276 | 21 => 21 | 171 => 241 | 173 => 244 | 212 => 252 | 51 => 253 | 20 => 20 | 213 => 254 | 232 => 273 | 233 => 274 | 80 => 100 | n => n, fun | 15 => 4 | 16 => 5 | 17 => 3 | 18 => 6 | 19 => 7 | n => n⟩
theorem layC172 : Go.Proofs.LaysC.n172 Tryz.prog layC172_ren := {
 mixed := by kernel_rfl
 f129 := Tryz.func190.trans (congrArg some (by kernel_rfl))
 f171 := Tryz.func51.trans (congrArg some (by kernel_rfl))
 f172 := Tryz.func162.trans (congrArg some (by kernel_rfl))
 f205 := Tryz.func209.trans (congrArg some (by kernel_rfl))
 f243 := Tryz.func114.trans (congrArg some (by kernel_rfl))
 f244 := Tryz.func174.trans (congrArg some (by kernel_rfl))
 f245 := Tryz.func175.trans (congrArg some (by kernel_rfl))
 f246 := Tryz.func154.trans (congrArg some (by kernel_rfl))
 f247 := Tryz.func194.trans (congrArg some (by kernel_rfl))
 f279 := Tryz.func195.trans (congrArg some (by kernel_rfl))
 f280 := Tryz.func196.trans (congrArg some (by kernel_rfl))
 f281 := Tryz.func197.trans (congrArg some (by kernel_rfl))
 f282 := Tryz.func198.trans (congrArg some (by kernel_rfl))
 f283 := Tryz.func167.trans (congrArg some (by kernel_rfl))
 f284 := Tryz.func168.trans (congrArg some (by kernel_rfl))
 f285 := Tryz.func169.trans (congrArg some (by kernel_rfl))
 f286 := Tryz.func170.trans (congrArg some (by kernel_rfl))
 f287 := Tryz.func207.trans (congrArg some (by kernel_rfl))
 f316 := Tryz.func208.trans (congrArg some (by kernel_rfl))
 f317 := Tryz.func189.trans (congrArg some (by kernel_rfl))
 f318 := Tryz.func191.trans (congrArg some (by kernel_rfl))
 f319 := Tryz.func192.trans (congrArg some (by kernel_rfl))
 f320 := Tryz.func193.trans (congrArg some (by kernel_rfl))
 f321 := Tryz.func212.trans (congrArg some (by kernel_rfl))
 f322 := Tryz.func213.trans (congrArg some (by kernel_rfl))
 f337 := Tryz.func205.trans (congrArg some (by kernel_rfl))
 f338 := Tryz.func206.trans (congrArg some (by kernel_rfl))
 t0 := Tryz.underlying0
 a0 := Tryz.isAgg0
 z0 := Tryz.sizeOf0
 v0 := Tryz.zeroValue0
 t2 := Tryz.underlying2
 a2 := Tryz.isAgg2
 z2 := Tryz.sizeOf2
 v2 := Tryz.zeroValue2
 t3 := Tryz.underlying3
 a3 := Tryz.isAgg3
 z3 := Tryz.sizeOf3
 v3 := Tryz.zeroValue3
 t4 := Tryz.underlying4
 a4 := Tryz.isAgg4
 z4 := Tryz.sizeOf4
 v4 := Tryz.zeroValue4
 t5 := Tryz.underlying5
 a5 := Tryz.isAgg5
 z5 := Tryz.sizeOf5
 v5 := Tryz.zeroValue5
 t9 := Tryz.underlying9
 a9 := Tryz.isAgg9
 z9 := Tryz.sizeOf9
 v9 := Tryz.zeroValue9
 t20 := Tryz.underlying20
 a20 := Tryz.isAgg20
 z20 := Tryz.sizeOf20
 v20 := Tryz.zeroValue20
 t21 := Tryz.underlying21
 a21 := Tryz.isAgg21
 z21 := Tryz.sizeOf21
 v21 := Tryz.zeroValue21
 t37 := Tryz.underlying119
 a37 := Tryz.isAgg119
 z37 := Tryz.sizeOf119
 v37 := Tryz.zeroValue119
 t46 := Tryz.underlying247
 a46 := Tryz.isAgg247
 z46 := Tryz.sizeOf247
 v46 := Tryz.zeroValue247
 t51 := Tryz.underlying253
 a51 := Tryz.isAgg253
 z51 := Tryz.sizeOf253
 v51 := Tryz.zeroValue253
 t53 := Tryz.underlying231
 a53 := Tryz.isAgg231
 z53 := Tryz.sizeOf231
 v53 := Tryz.zeroValue231
 t75 := Tryz.underlying123
 a75 := Tryz.isAgg123
 z75 := Tryz.sizeOf123
 v75 := Tryz.zeroValue123
 t76 := Tryz.underlying124
 a76 := Tryz.isAgg124
 z76 := Tryz.sizeOf124
 v76 := Tryz.zeroValue124
 t85 := Tryz.underlying257
 a85 := Tryz.isAgg257
 z85 := Tryz.sizeOf257
 v85 := Tryz.zeroValue257
 t127 := Tryz.underlying202
 a127 := Tryz.isAgg202
 z127 := Tryz.sizeOf202
 v127 := Tryz.zeroValue202
 t143 := Tryz.underlying276
 a143 := Tryz.isAgg276
 z143 := Tryz.sizeOf276
 v143 := Tryz.zeroValue276
 t145 := Tryz.underlying278
 a145 := Tryz.isAgg278
 z145 := Tryz.sizeOf278
 v145 := Tryz.zeroValue278
 t167 := Tryz.underlying256
 a167 := Tryz.isAgg256
 z167 := Tryz.sizeOf256
 v167 := Tryz.zeroValue256
 t168 := Tryz.underlying259
 a168 := Tryz.isAgg259
 z168 := Tryz.sizeOf259
 v168 := Tryz.zeroValue259
 t171 := Tryz.underlying241
 a171 := Tryz.isAgg241
 z171 := Tryz.sizeOf241
 v171 := Tryz.zeroValue241
 t173 := Tryz.underlying244
 a173 := Tryz.isAgg244
 z173 := Tryz.sizeOf244
 v173 := Tryz.zeroValue244
 t175 := Tryz.underlying266
 a175 := Tryz.isAgg266
 z175 := Tryz.sizeOf266
 v175 := Tryz.zeroValue266
 t210 := Tryz.underlying269
 a210 := Tryz.isAgg269
 z210 := Tryz.sizeOf269
 v210 := Tryz.zeroValue269
 t212 := Tryz.underlying252
 a212 := Tryz.isAgg252
 z212 := Tryz.sizeOf252
 v212 := Tryz.zeroValue252
 t213 := Tryz.underlying254
 a213 := Tryz.isAgg254
 z213 := Tryz.sizeOf254
 t232 := Tryz.underlying273
 a232 := Tryz.isAgg273
 z232 := Tryz.sizeOf273
 v232 := Tryz.zeroValue273
 t233 := Tryz.underlying274
 a233 := Tryz.isAgg274
 z233 := Tryz.sizeOf274
 v233 := Tryz.zeroValue274
 g15 := by kernel_rfl
 g16 := by kernel_rfl
 g17 := by kernel_rfl
 g18 := by kernel_rfl
 g19 := by kernel_rfl
 t80 := Tryz.underlying100
 a80 := Tryz.isAgg100
 z80 := Tryz.sizeOf100
 v80 := Tryz.zeroValue100
 i0 := by kernel_rfl
 i2 := by kernel_rfl
 i3 := by kernel_rfl
 i4 := by kernel_rfl
 i5 := by kernel_rfl
 i9 := by kernel_rfl
 i20 := by kernel_rfl
 i21 := by kernel_rfl
 i37 := by kernel_rfl
 i46 := by kernel_rfl
 i51 := by kernel_rfl
 i53 := by kernel_rfl
 i75 := by kernel_rfl
 i76 := by kernel_rfl
 i80 := by kernel_rfl
 i85 := by kernel_rfl
 i127 := by kernel_rfl
 i143 := by kernel_rfl
 i145 := by kernel_rfl
 i167 := by kernel_rfl
 i168 := by kernel_rfl
 i171 := by kernel_rfl
 i173 := by kernel_rfl
 i175 := by kernel_rfl
 i210 := by kernel_rfl
 i212 := by kernel_rfl
 i232 := by kernel_rfl
 i233 := by kernel_rfl
 m15 := by kernel_rfl
 m16 := by kernel_rfl
 m17 := by kernel_rfl
 m18 := by kernel_rfl
 m19 := by kernel_rfl
 c0 := by kernel_rfl
 c2 := by kernel_rfl
 c3 := by kernel_rfl
 c4 := by kernel_rfl
 c5 := by kernel_rfl
 c9 := by kernel_rfl
 c20 := by kernel_rfl
 c21 := by kernel_rfl
 c37 := by kernel_rfl
 c46 := by kernel_rfl
 c51 := by kernel_rfl
 c53 := by kernel_rfl
 c75 := by kernel_rfl
 c76 := by kernel_rfl
 c80 := by kernel_rfl
 c85 := by kernel_rfl
 c127 := by kernel_rfl
 c143 := by kernel_rfl
 c145 := by kernel_rfl
 c167 := by kernel_rfl
 c168 := by kernel_rfl
 c171 := by kernel_rfl
 c173 := by kernel_rfl
 c175 := by kernel_rfl
 c210 := by kernel_rfl
 c212 := by kernel_rfl
 c213 := by kernel_rfl
 c232 := by kernel_rfl
 c233 := by kernel_rfl }
def lay217_ren : Go.Shelf.Ren := ⟨fun | 217 => 148 | 266 => 166 | n => n, fun | 9 => 9 | 5 => 5 | 3 => 3 | n => n, fun | n => n⟩
theorem lay217 : Go.Proofs.Lays.n217 Tryz.prog lay217_ren := {
 mixed := by kernel_rfl
 f217 := Tryz.func148.trans (congrArg some (by kernel_rfl))
 f266 := Tryz.func166.trans (congrArg some (by kernel_rfl))
 t3 := Tryz.underlying3
 a3 := Tryz.isAgg3
 z3 := Tryz.sizeOf3
 v3 := Tryz.zeroValue3
 t5 := Tryz.underlying5
 a5 := Tryz.isAgg5
 z5 := Tryz.sizeOf5
 v5 := Tryz.zeroValue5
 t9 := Tryz.underlying9
 a9 := Tryz.isAgg9
 z9 := Tryz.sizeOf9
 v9 := Tryz.zeroValue9 }
def lay101_ren : Go.Shelf.Ren := ⟨fun | 101 => 163 | 208 => 176 | 206 => 199 | n => n, fun | 9 => 9 | 4 => 4 | 3 => 3 | n => n, fun | n => n⟩
theorem lay101 : Go.Proofs.Lays.n101 Tryz.prog lay101_ren := {
 mixed := by kernel_rfl
 f101 := Tryz.func163.trans (congrArg some (by kernel_rfl))
 f206 := Tryz.func199.trans (congrArg some (by kernel_rfl))
 f208 := Tryz.func176.trans (congrArg some (by kernel_rfl))
 t3 := Tryz.underlying3
 a3 := Tryz.isAgg3
 z3 := Tryz.sizeOf3
 v3 := Tryz.zeroValue3
 t4 := Tryz.underlying4
 a4 := Tryz.isAgg4
 z4 := Tryz.sizeOf4
 v4 := Tryz.zeroValue4
 t9 := Tryz.underlying9
 a9 := Tryz.isAgg9
 z9 := Tryz.sizeOf9
 v9 := Tryz.zeroValue9 }
theorem exN_cells {pr : Nat → Prop} {w : World} {b : Nat} {xs : List Value} (h0 : R0 pr w (.ref (xs.map AV.v)) (.pointer (some ⟨b, 0, none⟩))) (h : ExN w b (xs.map AV.v).length) : ∃ t f, w.heap[b]? = some (.cells xs.toArray t f) := by
 obtain ⟨cs, t, f, h1, h2⟩ := h
 refine ⟨t, f, ?_⟩
 rw [h1]
 congr 2
 cases h0 with
 | ref _ _ _ g q1 q2 q3 q4 =>
  refine Array.ext_getElem? fun i => ?_
  by_cases hi : i < xs.length
  ·have c := q3 i (.v xs[i]) (by simp [hi])
   have r := q4 i (.v xs[i]) (by simp [hi])
   generalize g i = v at c r
   cases r
   rw [Nat.zero_add, cell_of_row w b i cs t f h1] at c
   rw [c]; simp [hi]
  ·rw [List.length_map] at h2
   rw [Array.getElem?_eq_none (by omega), Array.getElem?_eq_none (by simpa using hi)]
def gX (es er : Value) : List (Nat × List AV) := [(3, (pow10Tab.map (Value.int .u64)).map AV.v), (5, [.v er]), (4, [.v es])]
def isE (v : Value) : Prop := v = .nilIface ∨ ∃ te pe, v = .iface te pe
theorem tab_of {pr : Nat → Prop} {w : World} {es er : Value} (h : GlobR pr w (gX es er)) : TabIs Tryz.prog w "internal/strconv.uint64pow10" .u64 pow10Tab := by
 obtain ⟨h0, h1⟩ := h _ (List.mem_cons_self ..)
 obtain ⟨t, f, h2⟩ := exN_cells h0 h1
 unfold TabIs World.var?
 rw [show Tryz.prog.globalNamed "internal/strconv.uint64pow10" = some 3 by kernel_rfl]
 simp only [Option.bind_some]
 rw [h2]
theorem var_of {pr : Nat → Prop} {w : World} {g : Nat} {v : Value} (h : R0 pr w (.ref [.v v]) (.pointer (some ⟨g, 0, none⟩))) : w.cell? ⟨g, 0, none⟩ = some v := by
 cases h with
 | ref _ _ _ f q1 q2 q3 q4 =>
  have c := q3 0 (.v v) rfl
  have r := q4 0 (.v v) rfl
  generalize f 0 = y at c r
  cases r; exact c
theorem vs_one {pr : Nat → Prop} {w : World} {a : Value} {vs : List Value} (h1 : vs.length = [AV.v a].length) (h2 : ∀ (i : Nat) (b : AV) (x : Value), [AV.v a][i]? = some b → vs[i]? = some x → R0 pr w b x) : vs = [a] := by
 match vs, h1 with
 | [x], _ =>
  have := h2 0 _ x rfl rfl
  cases this; rfl
theorem vs_two {pr : Nat → Prop} {w : World} {a b : Value} {vs : List Value} (h1 : vs.length = [AV.v a, .v b].length) (h2 : ∀ (i : Nat) (c : AV) (x : Value), [AV.v a, .v b][i]? = some c → vs[i]? = some x → R0 pr w c x) : vs = [a, b] := by
 match vs, h1 with
 | [x, y], _ =>
  have r1 := h2 0 _ x rfl rfl
  have r2 := h2 1 _ y rfl rfl
  cases r1; cases r2; rfl
theorem r0_two {pr : Nat → Prop} {w : World} (a b : Value) : R0 pr w (.tuple [.v a, .v b]) (.tuple #[a, b]) :=
 .tuple [.v a, .v b] [a, b] rfl fun i c x hc hx => by
  match i, hc, hx with
  | 0, hc, hx => cases hc; cases hx; exact .v _
  | 1, hc, hx => cases hc; cases hx; exact .v _
theorem itoa_ok (es er : Value) (n : Int) (h : In64 n) : FnOkG Tryz.prog (gX es er) 51 [.v (.int .i64 n)] (fun q => q = .v (.string ⟨(itoa n).toArray⟩)) := by
 intro pr w vs h1 h2 hg
 rw [vs_one h1 h2]
 unfold In64 at h
 refine (Any.strconv_Itoa layM171 n (by omega) (by omega) w (tab_of hg)).mono ?_
 rintro en w' ⟨rfl, k, os, rfl⟩
 exact ⟨_, _, rfl, rfl, .v _, below_grow _ w (Nat.le_refl _) k os⟩
theorem trimPrefix_ok (s p : ByteArray) : FnOk Tryz.prog 163 [.v (.string s), .v (.string p)] (fun q => q = .v (.string ⟨(trimPrefix s.data.toList p.data.toList).toArray⟩)) := by
 intro pr w vs h1 h2
 rw [vs_two h1 h2]
 refine (Any.strings_TrimPrefix lay101 s p w).mono ?_
 rintro en w' ⟨rfl, rfl⟩
 exact ⟨_, _, rfl, rfl, .v _, Ext.refl _⟩
theorem indexByte_ok (s : ByteArray) (c : Int) : FnOk Tryz.prog 148 [.v (.string s), .v (.int .u8 c)] (fun q => q = .v (.int .i64 (indexByte s.data.toList c.toNat.toUInt8))) := by
 intro pr w vs h1 h2
 rw [vs_two h1 h2]
 refine (Any.stringslite_IndexByte lay217 s c w).mono ?_
 rintro en w' ⟨rfl, rfl⟩
 exact ⟨_, _, rfl, rfl, .v _, Ext.refl _⟩
theorem atoi_good (s : ByteArray) (hs : s.size ≤ 1000000000) (v : Int) (h : atoiAll s.data.toList = .ok v) : FnOk Tryz.prog 162 [.v (.string s)] (fun q => q = .tuple [.v (.int .i64 v), .v .nilIface]) := by
 intro pr w vs h1 h2
 rw [vs_one h1 h2]
 refine (Any.strconv_Atoi_ok layC172 s (by omega) v h w).mono ?_
 rintro en w' ⟨rfl, hw⟩
 refine ⟨_, _, rfl, rfl, r0_two _ _, ?_⟩
 rcases hw with rfl | ⟨t, rfl⟩
 ·exact Ext.refl _
 ·exact Go.Joins.below_bytesWorld _ w _ t (Nat.le_refl _)
def errT : TypeId := layC172_ren.t 168
theorem atoi_bad (es er : Value) (hes : isE es) (her : isE er) (s : ByteArray) (hs : s.size ≤ 1000000000) (h : ∀ v, atoiAll s.data.toList ≠ .ok v) :
 FnOkG Tryz.prog (gX es er) 162 [.v (.string s)] (fun q => ∃ N : Nat, q = .tuple [.v (.int .i64 (numN s.data.toList)), .v (.iface errT (.pointer (some ⟨N, 0, none⟩)))]) := by
 intro pr w vs h1 h2 hg
 rw [vs_one h1 h2]
 have hv1 := var_of (hg (4, [.v es]) (by simp [gX])).1
 have hv2 := var_of (hg (5, [.v er]) (by simp [gX])).1
 unfold numN
 rcases hq : atoiAll s.data.toList with v | _ | _
 ·exact absurd hq (h v)
 ·refine (Any.strconv_Atoi_syntax layC172 s (by omega) hq es w hv1 hes).mono ?_
  rintro en w' ⟨N, rfl, hN, -, hb⟩
  exact ⟨_, _, rfl, ⟨N, rfl⟩, r0_two _ _, hb⟩
 ·refine (Any.strconv_Atoi_range layC172 s (by omega) hq er w hv2 her).mono ?_
  rintro en w' ⟨N, rfl, hN, -, hb⟩
  exact ⟨_, _, rfl, ⟨N, rfl⟩, r0_two _ _, hb⟩
end Go.Proofs.YtjhcfpdgldpicaaGreatDoor
namespace Go.Proofs.YtjhcfpdgldpicaaGreatDoor
open Go Go.ChangeShapes Go.WideShapes Go.ChangeAt Go.RowKit Go.Joins Go.Deep
end Go.Proofs.YtjhcfpdgldpicaaGreatDoor
