/- Abstract machine: a box of one's own, with a row of one's own in one field, given up: it is read alone from here on. -/
import Derived.Test.YtonjcljnpcmenaaA20
namespace Go.Proofs.Ytonjcljnpcmenaa
open Go Go.RowKit Go.Proofs
set_option linter.unusedSimpArgs false
set_option linter.unusedVariables false
section
variable {P : Program} {N : Nat} {Q : AQ} {e : Nat → AV} {mem : List Ob}
theorem row_given {pb : Nat → Prop} {w0 : Bs} {w : World} {θ : List Value} (hsim : SimM pb w0 w θ mem) {j eT k : Nat} {els : List (List AV)} {x : Value} (hm : mem[j]? = some (.row eT k els)) (hθ : θ[j]? = some x) : R0 (Prot pb θ (mem.set j .gone)) w (.row k els) x := by
  obtain ⟨xs, h1, h2, h3, h4⟩ := hsim.ob j _ x hm hθ
  rcases id h1.2 with ⟨hx, h0⟩ | ⟨g, cap, cur, hx, hg, hh, hn, hr2⟩
  · have : els = [] := List.eq_nil_of_length_eq_zero h0
    subst this; subst hx
    exact (.nil _ _ _)
  · subst hx
    by_cases hne : els = []
    · subst hne; exact (.nil _ _ _)
    · have hfl : els.flatten.length = els.length * k := flatten_length h3
      have hxl := h1.1
      refine (.row k els g 0 cap (fun i => xs.getD i undef) hne hn h3 (Array.getElem?_eq_some_iff.1 hh).1 (Prot.dropped hsim hm (by simp) hθ rfl) (fun i a ha => ?_) fun i a ha => ?_)
      · have hi : i < xs.length := by rw [hxl, ← hfl]; exact (List.getElem?_eq_some_iff.1 ha).1
        have := own_cells h1 (b := g) rfl i (xs.getD i undef) (by simp [hi, List.getD_eq_getElem?_getD])
        rwa [Nat.zero_add]
      · have hi : i < xs.length := by rw [hxl, ← hfl]; exact (List.getElem?_eq_some_iff.1 ha).1
        have := h4 i a (xs.getD i undef) ha (by simp [hi, List.getD_eq_getElem?_getD])
        exact this.mono (Nat.le_refl _) (fun _ _ _ => rfl) (Step.drop hsim j).np
theorem aw_freezeB {M : Mode} {c : Code} {s j k o eT kk : Nat} {T : TypeId} {cells : List AV} {els : List (List AV)} (hs : evA e (.tmp s) = .ptr j 0) (hm : mem[j]? = some (.box T cells)) (hk : mem[k]? = some (.row eT kk els)) (hjk : k ≠ j) (ho : cells[o]? = some (.own k)) (hro : roO.roL (cells.set o (.row kk els)) = true)
    (h : ∀ m1 e1, m1 = (mem.set k .gone).set j .gone → e1 = upA e (some s) (.ref (cells.set o (.row kk els))) → AW M P N c Q e1 m1) : AW M P N c Q e mem := by
  refine aw_turn (fun pb w0 θ w hsim => ?_) (h _ _ rfl rfl)
  have D1 := Step.drop hsim k
  have D2 := Step.drop D1.sim j
  have hm2 : (mem.set k .gone)[j]? = some (.box T cells) := by rw [List.getElem?_set_ne hjk]; exact hm
  refine ⟨θ, ⟨D2.sim, fun a x hr => D2.keep _ _ (D1.keep _ _ hr), Nat.le_refl _, fun _ _ _ => rfl, fun b hb hp => D2.np b hb (D1.np b hb hp)⟩, fun t x hr => ?_⟩
  by_cases ht : t = s
  · subst ht
    rw [show e t = .ptr j 0 from hs] at hr
    simp only [upA, if_true]
    obtain ⟨b, y, hθ, hbase, rfl⟩ := hr.getPtr
    obtain ⟨b', xs, h1, rfl, h2, h3, h4⟩ := hsim.ob j _ y hm hθ
    cases hbase
    refine .ro (.ref _ b' 0 (fun i => xs.getD i undef) (Array.getElem?_eq_some_iff.1 h2).1 (Prot.dropped D1.sim hm2 (by simp) hθ rfl) (fun i a ha => ?_) fun i a ha => ?_)
    · have hi : i < xs.length := by rw [h3]; have := (List.getElem?_eq_some_iff.1 ha).1; simpa using this
      rw [Nat.zero_add, cell_of_row w b' i xs.toArray T (0, 0) h2]
      simp [hi, List.getD_eq_getElem?_getD]
    · have hi : i < xs.length := by rw [h3]; have := (List.getElem?_eq_some_iff.1 ha).1; simpa using this
      by_cases hio : o = i
      · subst hio
        rw [List.getElem?_set_self (by rw [← h3]; exact hi)] at ha
        cases ha
        have hx := (h4 o _ (xs.getD o undef) ho (by simp [hi, List.getD_eq_getElem?_getD])).getOwn
        exact (row_given hsim hk hx).mono (Nat.le_refl _) (fun _ _ _ => rfl) D2.np
      · have ha' := ha
        rw [List.getElem?_set_ne hio] at ha
        have := h4 i a (xs.getD i undef) ha (by simp [hi, List.getD_eq_getElem?_getD])
        exact (D2.keep _ _ (D1.keep _ _ this)).ro0 (roL_get hro ha')
  · simp only [upA, if_neg ht]
    exact D2.keep _ _ (D1.keep _ _ hr)
end
end Go.Proofs.Ytonjcljnpcmenaa
