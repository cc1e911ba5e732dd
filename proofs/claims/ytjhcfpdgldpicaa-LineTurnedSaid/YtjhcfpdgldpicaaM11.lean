/- Texts of this claim, one behind the other: lemmas for the statement. -/
import Derived.Test.YtjhcfpdgldpicaaM10
import Derived.Test.YtjhcfpdgldpicaaA31
import Derived.Test.YtjhcfpdgldpicaaM8
import Derived.Test.YtjhcfpdgldpicaaM9
import Derived.Test.YtjhcfpdgldpicaaA28
set_option linter.unusedSimpArgs false
set_option linter.unusedVariables false
namespace Go.Proofs.Ytjhcfpdgldpicaa
open Go Go.RowKit Go.Proofs
theorem FnOk.retold {P : Program} {f : FuncId} {us bs : List AV} {ψ : AV → Prop} (h : FnOk P f bs ψ) (hl : us.length = bs.length) (hle : ∀ (i : Nat) (a b : AV), us[i]? = some a → bs[i]? = some b → ∀ (pr : Nat → Prop) (w : World) (x : Value), R0 pr w a x → R0 pr w b x) : FnOk P f us ψ := by
 intro pr w vs h1 h2
 refine h pr w vs (by rw [h1, hl]) fun i b x hb hx => ?_
 have hi : i < us.length := by rw [hl]; exact (List.getElem?_eq_some_iff.1 hb).1
 exact hle i _ b (List.getElem?_eq_getElem hi) hb pr w x (h2 i _ x (List.getElem?_eq_getElem hi) hx)
theorem r0l_same {a b : AV} (h : a = b) : ∀ (pr : Nat → Prop) (w : World) (x : Value), R0 pr w a x → R0 pr w b x := fun _ _ _ hx => h ▸ hx
theorem r0l_nil {k : Nat} : ∀ (pr : Nat → Prop) (w : World) (x : Value), R0 pr w (.v (.slice none 0 0)) x → R0 pr w (.row k []) x := fun _ _ _ hx => by
 cases hx; exact .nil _ _ _
theorem r0l_agg {l m : List AV} (hl : l.length = m.length) (h : ∀ (i : Nat) (a b : AV), l[i]? = some a → m[i]? = some b → ∀ (pr : Nat → Prop) (w : World) (x : Value), R0 pr w a x → R0 pr w b x) : ∀ (pr : Nat → Prop) (w : World) (x : Value), R0 pr w (.agg l) x → R0 pr w (.agg m) x := fun pr w x hx => by
 cases hx with
 | agg _ xs h1 h2 =>
  refine .agg _ _ (by rw [h1, hl]) fun i b y hb hy => ?_
  have hi : i < l.length := by rw [hl]; exact (List.getElem?_eq_some_iff.1 hb).1
  exact h i _ b (List.getElem?_eq_getElem hi) hb pr w y (h2 i _ y (List.getElem?_eq_getElem hi) hy)
def nonN : AV := .agg [.v (.string ByteArray.empty), .v (.slice none 0 0), .v (.slice none 0 0), .v (.slice none 0 0)]
theorem nonN_le : ∀ (pr : Nat → Prop) (w : World) (x : Value), R0 pr w nonN x → R0 pr w (lnA nonL) x :=
 r0l_agg rfl fun i a b ha hb => by
  match i, ha, hb with
  | 0, ha, hb => simp at ha hb; subst ha hb; exact r0l_same rfl
  | 1, ha, hb => simp at ha hb; subst ha hb; exact r0l_nil
  | 2, ha, hb => simp at ha hb; subst ha hb; exact r0l_nil
  | 3, ha, hb => simp at ha hb; subst ha hb; exact r0l_nil
  | (n + 4), ha, hb => simp at ha
theorem nonL_sho : Sho nonL := ⟨by decide, by decide, by decide, by decide, fun s hs => by cases hs⟩
theorem same_none : FnOk Try.prog 10 [lnA nonL, nonN] (fun q => q = tbA true) :=
 (same_refl nonL nonL_sho).retold rfl fun i a b ha hb => by
  match i, ha, hb with
  | 0, ha, hb => simp at ha hb; subst ha hb; exact r0l_same rfl
  | 1, ha, hb => simp at ha hb; subst ha hb; exact nonN_le
  | (n + 2), ha, hb => simp at ha
theorem Rgt.swi {l : Lin} (h : Rgt l) {i : Nat} (hi : i < l.ss.length) : 1 ≤ (l.ss.getD i default).fst ∧ 1 ≤ (l.ss.getD i default).acr.length ∧ (l.ss.getD i default).fst + (l.ss.getD i default).acr.length ≤ l.bs.length ∧ ∀ n ∈ (l.ss.getD i default).acr, -20000 ≤ n ∧ n ≤ 20000 := by
 have h1 := h.sa i hi
 unfold swiE at h1
 generalize l.ss.getD i default = t at h1
 split at h1
 ·cases h1
 split at h1
 ·cases h1
 split at h1
 ·cases h1
 split at h1
 ·cases h1
 split at h1
 ·cases h1
 rename_i _ _ g3 g4 g5
 have e4 : withinB t.fst 1 (l.bs.length - t.acr.length) = true := by simpa using g4
 have e5 := withinB_iff.1 e4
 refine ⟨e5.1, by omega, by omega, fun n hn => ?_⟩
 have e6 : smaB n 20000 = true := by
  apply Classical.byContradiction
  intro hc
  exact g5 (List.any_eq_true.2 ⟨n, hn, by simpa using hc⟩)
 exact withinB_iff.1 e6
def Jnt.at (j : Jnt) (n : Int) : Jnt := ⟨n, j.up, j.lo, j.hi⟩
theorem getD_mem {xs : List Int} {k : Nat} (hk : k < xs.length) : xs.getD k default ∈ xs := by
 rw [List.getD_eq_getElem?_getD, List.getElem?_eq_getElem hk]; exact List.getElem_mem hk
end Go.Proofs.Ytjhcfpdgldpicaa
