/- Texts of this claim, one behind the other: lemmas for the statement. -/
import Derived.Test.YtknclifdncmgpaaK2
import Derived.Test.YtknclifdncmgpaaOwn
import Derived.Test.YtknclifdncmgpaaRows
import Derived.Test.YtknclifdncmgpaaChecked
import Derived.WalkKit
import Derived.ProofKit
import Derived.OpenShut
import Derived.Deep.DeepHandedRow
import Derived.Deep.SlicePairs
import Derived.Lib.LaidTab
import Derived.Lib.SmallJoins
import Derived.Carry
/- Contracts of chapter 5: tracks and systems. No conditions on a program. -/
namespace Go.Proofs.Ytknclifdncmgpaa
open Go Go.RowKit Go.Proofs
set_option linter.unusedSimpArgs false
set_option linter.unusedVariables false

end Go.Proofs.Ytknclifdncmgpaa

/- Cells of lists, element by element; parts of boxes. No conditions on a program. -/
namespace Go.Proofs.Ytknclifdncmgpaa
open Go Go.RowKit

/-- A part of a box reads as a slice. -/
theorem Bx.part {w : World} {B : Nat} {t : TypeId} {cs : Array Value} (h : Bx w B t cs) (k n o : Nat) (xs : List Value) (hx : ∀ j u, xs[j]? = some u → cs[o + j]? = some u) (hn : xs.length = n * k) : Rd w k (some ⟨B, o, none⟩) n xs :=
  ⟨hn, fun _ => ⟨B, o, rfl, h.lt, fun j u hu => (h.cell (o + j)).trans (hx j u hu)⟩⟩

end Go.Proofs.Ytknclifdncmgpaa

/- Rows of chapter 5: arguments opened for the abstract machine, what reads behind the call as before it. No conditions on a program. -/
namespace Go.Proofs.Ytknclifdncmgpaa
open Go Go.ChangeShapes Go.WideShapes Go.ChangeAt Go.RowKit Go.Joins Go.Deep
set_option linter.unusedSimpArgs false
set_option linter.unusedVariables false
theorem trodAll_stays {H : Type} {enc : TypeId × Value → H} {P : Program} (hl : laidOutB P = true) {W W' : World} (hx : Ext W W') {sp : Nat → Bool} : ∀ {ts : List TypeId} {vs : List Value} {ds : List (DataW H)} {ps : List MemPlace},
    (∀ t ∈ ts, P.readableRec t = true ∧ t < P.types.size) → DataW.TrodAll enc P W 0 (fun _ => true) true ts vs ds ps → (∀ x ∈ ps, x.block < W.heap.size) → (∀ x ∈ ps, sp x.block = true) → DataW.TrodAll enc P W' 0 sp true ts vs ds ps
  | [], _, _, _, _, h, _, _ => by
    obtain ⟨rfl, rfl, rfl⟩ := trodAll_nil h
    exact trodAll_mk0
  | t :: ts, _, _, _, ht, h, hlt, hsp => by
    obtain ⟨v, vs, d, ds, p, q, rfl, rfl, rfl, h1, h2⟩ := trodAll_cons h
    refine ⟨p, q, WideElems.Trod_stays hl (ht t (by simp)).1 (ht t (by simp)).2 h1 (fun x hx' => hx.same (hlt x (by simp [hx']))) (fun x hx' => hsp x (by simp [hx'])), ?_, rfl⟩
    exact trodAll_stays hl hx (fun t' ht' => ht t' (by simp [ht'])) h2 (fun x hx' => hlt x (by simp [hx'])) (fun x hx' => hsp x (by simp [hx']))

/-- Memory that is only added to, no variables, the arguments told as they were: the specification's post. -/
theorem post_of_ext {H : Type} {enc : TypeId × Value → H} {P : Program} {f : Func} {s : ChangeSpec} {apart fresh handsOn again : Bool} {W W' : World} {args : Array Value} {v : Value} {ds : List (DataW H)} {before : List MemPlace}
    (hl : laidOutB P = true) (hts : (f.params.toList.all fun t => P.readableRec t && decide (t < P.types.size)) = true) (hx : Ext W W') (hv : s.vars = [])
    (hW : DataW.Whole enc P f.params.toList s.vars apart W args.toList ds [] before) (hA : DataW.TrodAll enc P W 0 (fun _ => true) true f.params.toList args.toList ds before)
    (hsp : (s.fn H ds).args = ds) (hsv : (s.fn H ds).vars = [])
    (hres : ∀ (b : Nat) (sp : Nat → Bool) (hd : Bool), DataW.TrodAll enc P W' b sp hd f.resultTypes.toList (v.resultList f.resultTypes.size) (s.fn H ds).results [])
    (hok : ∀ (j : Nat) (t : TypeId) (r : Value), f.resultTypes[j]? = some t → (v.resultList f.resultTypes.size)[j]? = some r → Value.okWide P W' .any 0 t r) :
    s.post enc P f apart fresh handsOn again W args v W' := by
  have hts' : ∀ t ∈ f.params.toList, P.readableRec t = true ∧ t < P.types.size := fun t ht => by
    have := List.all_eq_true.1 hts t ht
    simpa using this
  have hlt : ∀ x ∈ before, x.block < W.heap.size := fun x hx' => by simpa using hW.lt x hx'
  have hargs : ∀ sp : Nat → Bool, (∀ p ∈ before, sp p.block = true) → DataW.TrodAll enc P W' 0 sp true f.params.toList args.toList (s.fn H (ds ++ [])).args before := fun sp h => by
    rw [List.append_nil, hsp]; exact trodAll_stays hl hx hts' hA hlt h
  have hvars : ∀ sp : Nat → Bool, DataW.TrodVars enc P W' sp s.vars (s.fn H (ds ++ [])).vars [] := fun sp => by
    rw [List.append_nil, hsv, hv]; rfl
  have hres' : ∀ (b : Nat) (sp : Nat → Bool) (hd : Bool), DataW.TrodAll enc P W' b sp hd f.resultTypes.toList (v.resultList f.resultTypes.size) (s.fn H (ds ++ [])).results [] := fun b sp hd => by
    rw [List.append_nil]; exact hres b sp hd
  have hold : ∀ p ∈ before, (fun b => decide (b < W.heap.size)) p.block = true := fun p hp => by simpa using hlt p hp
  refine ⟨ds, [], before, [], before, [], hW, hres' _ _ _, hargs _ hold, hvars _, hx.frame _, fun _ => ?_⟩
  obtain ⟨_, _, _, _, _, hz, hn⟩ := id hW
  refine ⟨hok, _, _, ([] ++ before) ++ [], ⟨[] ++ before, [], trodAll_append (hargs _ (fun _ _ => rfl)) (hres' _ _ _), hvars _, rfl, ?_, ?_⟩, ?_⟩
  · intro b off hp
    simp only [List.nil_append, List.append_nil] at hp
    rw [Below.frozen hx (p := ⟨b, off, none⟩) (hlt _ hp)]
    exact hz b off hp
  · intro ha
    have := hn ha
    simpa using this
  · intro p hp _
    simpa using hp

theorem spot_none {W : World} {a : Addr} {u : Value} (h : W.cell? a = some u) : a = ⟨a.block, a.off, none⟩ := by
  obtain ⟨b, o, s⟩ := a
  cases s with
  | none => rfl
  | some s => exfalso; unfold World.cell? at h; simp only at h; split at h <;> simp at h

theorem r0_agg {pr : Nat → Prop} {W : World} {l : List AV} {xs : List Value} (hl : xs.length = l.length) (h : ∀ (i : Nat) (a : AV) (x : Value), l[i]? = some a → xs[i]? = some x → R0 pr W a x) : R0 pr W (.agg l) (.agg xs.toArray) := .agg l xs hl h
theorem calls_of_ok {P : Program} {f : FuncId} {args : List AV} (h : FnOk P f args (fun q => q = .v (.bool true))) {vs : List Value} {W : World} (hl : vs.length = args.length) (hR : ∀ (i : Nat) (a : AV) (x : Value), args[i]? = some a → vs[i]? = some x → R0 (fun _ => False) W a x) :
    Calls P f vs.toArray W fun e W' => e = .returned (.bool true) ∧ Ext W W' :=
  (h (fun _ => False) W vs hl hR).mono fun e W' ⟨r, v, h1, h2, h3, h4⟩ => by
    subst h2
    cases h3
    exact ⟨h1, h4⟩
theorem list2 {α : Type} {l : List α} (h : l.length = 2) : ∃ a b, l = [a, b] := by
  match l, h with
  | [a, b], _ => exact ⟨a, b, rfl⟩
theorem list3 {α : Type} {l : List α} (h : l.length = 3) : ∃ a b c, l = [a, b, c] := by
  match l, h with
  | [a, b, c], _ => exact ⟨a, b, c, rfl⟩
theorem list4 {α : Type} {l : List α} (h : l.length = 4) : ∃ a b c d, l = [a, b, c, d] := by
  match l, h with
  | [a, b, c, d], _ => exact ⟨a, b, c, d, rfl⟩
theorem cInt : Try.prog.cellsOf 3 = 1 := by kernel_rfl
theorem cStr : Try.prog.cellsOf 9 = 1 := by kernel_rfl
end Go.Proofs.Ytknclifdncmgpaa

/- Rows of chapter 5: more arguments opened for the abstract machine. No conditions on a program. -/
namespace Go.Proofs.Ytknclifdncmgpaa
open Go Go.ChangeShapes Go.WideShapes Go.ChangeAt Go.RowKit Go.Joins Go.Deep
set_option linter.unusedSimpArgs false
set_option linter.unusedVariables false
end Go.Proofs.Ytknclifdncmgpaa

