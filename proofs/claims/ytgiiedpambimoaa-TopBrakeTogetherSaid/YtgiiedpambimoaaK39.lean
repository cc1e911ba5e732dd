/- The law of chapter 5 on the place where a train stands. No conditions on a program. -/
import Derived.Test.YtgiiedpambimoaaK38
import Derived.Test.YtgiiedpambimoaaK20
import Derived.Test.YtgiiedpambimoaaK30
import Derived.Test.YtgiiedpambimoaaK12
namespace Go.Proofs.Ytgiiedpambimoaa
open Go Go.RowKit Go.Proofs
set_option linter.unusedSimpArgs false
set_option linter.unusedVariables false

/-! ### Two tracks as one -/
theorem chk_fine {nm : ByteArray} {ps : List Piece} (h : err0 nm ps = 0) (hok : Ok ps) : (chk nm ps).2 = 0 := by
  unfold chk
  rw [if_neg (by simpa using h), List.findIdx?_eq_none_iff.2 fun p hp => by simp [hok p hp]]
theorem chk_zero {nm : ByteArray} {ps : List Piece} (h : (chk nm ps).2 = 0) : err0 nm ps = 0 := by
  unfold chk at h
  by_cases h0 : err0 nm ps ≠ 0
  · rw [if_pos h0] at h; exact absurd h h0
  · simpa using h0
theorem chk_join {na : ByteArray} {ps : List Piece} {nb : ByteArray} {qs : List Piece} (h : jnE na ps nb qs = 0) : (chk na (ps ++ qs)).2 = 0 ∧ (chk na ps).2 = 0 ∧ (chk nb qs).2 = 0 ∧ (ps.length + qs.length ≤ 12) := by
  obtain ⟨h1, h2⟩ := firstE_cons h
  obtain ⟨h3, h4⟩ := firstE_cons h2
  have h5 := unlessE_zero (firstE_cons h4).1 (by decide)
  simp only [decide_eq_true_eq] at h5
  have a := chk_right h1
  have b := chk_right h3
  refine ⟨chk_fine ?_ fun p hp => ?_, h1, h3, by omega⟩
  · have e0 := chk_zero h1
    obtain ⟨c1, _⟩ := firstE_cons e0
    unfold err0
    rw [c1, show unlessE (decide ((0 : Int) < (ps ++ qs).length)) 10 = 0 by rw [decide_eq_true (by rw [List.length_append]; have := a.2.1; omega)]; rfl, show unlessE (decide (((ps ++ qs).length : Int) ≤ 12)) 8 = 0 by rw [decide_eq_true (by rw [List.length_append]; omega)]; rfl]
    rfl
  · rcases List.mem_append.1 hp with hp | hp
    · exact a.1 p hp
    · exact b.1 p hp
theorem getD_app {ps qs : List Piece} {i : Nat} (h : i < ps.length) : (ps ++ qs).getD i default = ps.getD i default := by
  rw [List.getD_eq_getElem?_getD, List.getElem?_append_left h, ← List.getD_eq_getElem?_getD]
end Go.Proofs.Ytgiiedpambimoaa
