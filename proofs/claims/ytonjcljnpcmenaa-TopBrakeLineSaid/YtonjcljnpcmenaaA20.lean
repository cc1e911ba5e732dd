/- Abstract machine: a row of one's own given up: it is read alone from here on. -/
import Derived.Test.YtonjcljnpcmenaaA16
namespace Go.Proofs.Ytonjcljnpcmenaa
open Go Go.RowKit Go.Proofs
set_option linter.unusedSimpArgs false
set_option linter.unusedVariables false
section
variable {P : Program} {N : Nat} {Q : AQ} {e : Nat → AV} {mem : List Ob}
theorem aw_freezeR {M : Mode} {c : Code} {s j : Nat} {eT k : Nat} {els : List (List AV)} (hs : evA e (.tmp s) = .own j) (hm : mem[j]? = some (.row eT k els)) (h : ∀ m1 e1, m1 = mem.set j .gone → e1 = upA e (some s) (.row k els) → AW M P N c Q e1 m1) : AW M P N c Q e mem := by
  refine aw_turn (fun pb w0 θ w hsim => ⟨θ, Step.drop hsim j, fun t x hr => ?_⟩) (h _ _ rfl rfl)
  by_cases ht : t = s
  · subst ht
    rw [show e t = .own j from hs] at hr
    simp only [upA, if_true]
    have hθ := hr.getOwn
    obtain ⟨xs, h1, h2, h3, h4⟩ := hsim.ob j _ x hm hθ
    rcases id h1.2 with ⟨hx, h0⟩ | ⟨g, cap, cur, hx, hg, hh, hn, hr2⟩
    · have : els = [] := List.eq_nil_of_length_eq_zero h0
      subst this; subst hx
      exact .ro (.nil _ _ _)
    · subst hx
      by_cases hne : els = []
      · subst hne; exact .ro (.nil _ _ _)
      · have hfl : els.flatten.length = els.length * k := flatten_length h3
        have hxl := h1.1
        refine .ro (.row k els g 0 cap (fun i => xs.getD i undef) hne hn h3 (Array.getElem?_eq_some_iff.1 hh).1 (Prot.dropped hsim hm (by simp) hθ rfl) (fun i a ha => ?_) fun i a ha => ?_)
        · have hi : i < xs.length := by rw [hxl, ← hfl]; exact (List.getElem?_eq_some_iff.1 ha).1
          have := own_cells h1 (b := g) rfl i (xs.getD i undef) (by simp [hi, List.getD_eq_getElem?_getD])
          rwa [Nat.zero_add]
        · have hi : i < xs.length := by rw [hxl, ← hfl]; exact (List.getElem?_eq_some_iff.1 ha).1
          have := h4 i a (xs.getD i undef) ha (by simp [hi, List.getD_eq_getElem?_getD])
          exact this.mono (Nat.le_refl _) (fun _ _ _ => rfl) (Step.drop hsim j).np
  · simp only [upA, if_neg ht]
    exact (Step.drop hsim j).keep _ _ hr
end
end Go.Proofs.Ytonjcljnpcmenaa
