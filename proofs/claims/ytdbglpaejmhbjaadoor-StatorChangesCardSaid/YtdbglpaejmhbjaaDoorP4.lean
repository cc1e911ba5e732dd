/- Plain facts on changes in small steps. -/
import Derived.Test.YtdbglpaejmhbjaaDoorP1
import Derived.Test.YtdbglpaejmhbjaaDoorC1
namespace Go.Proofs.YtdbglpaejmhbjaaDoor
open Go Go.RowKit Go.Proofs
set_option linter.unusedSimpArgs false
set_option linter.unusedVariables false

theorem floorW_eq (n s : Int) (hs : 1 ≤ s) (h1 : -1000000000000000000 ≤ n) (h2 : n ≤ 1000000000000000000) : floorW n s = n / s := by
  have e := Int.mul_tdiv_add_tmod n s
  have e2 := Int.mul_ediv_add_emod n s
  have b1 := Int.emod_nonneg n (show s ≠ 0 by omega)
  have b2 := Int.emod_lt_of_pos n (show 0 < s by omega)
  have hq : -1000000000000000000 ≤ n / s ∧ n / s ≤ 1000000000000000000 := by
    constructor
    · rcases Int.le_total 0 (n / s) with h | h
      · omega
      · have : s * (n / s) ≤ 1 * (n / s) := Int.mul_le_mul_of_nonpos_right hs h
        have := Int.lt_mul_ediv_self_add (x := n) (show 0 < s by omega)
        rcases Int.lt_or_le (n / s) n with h3 | h3
        · have h4 : s * (n / s) + s ≤ s * n := by
            have : s * (n / s + 1) ≤ s * n := Int.mul_le_mul_of_nonneg_left (by omega) (by omega)
            rw [Int.mul_add] at this; omega
          rcases Int.le_total 0 n with h5 | h5
          · have := Int.ediv_nonneg h5 (show 0 ≤ s by omega); omega
          · have : s * n ≤ 1 * n := Int.mul_le_mul_of_nonpos_right hs h5
            omega
        · omega
    · rcases Int.le_total 0 (n / s) with h | h
      · have : 1 * (n / s) ≤ s * (n / s) := Int.mul_le_mul_of_nonneg_right hs h
        omega
      · omega
  unfold floorW
  rw [Int.tdiv_eq_ediv, Int.tmod_eq_emod]
  by_cases hn : 0 ≤ n ∨ s ∣ n
  · rw [if_pos hn, if_pos hn, if_neg (by omega)]
    exact (wrap64_small (by omega) (by omega)).trans (by omega)
  · rw [if_neg hn, if_neg hn, Int.sign_eq_one_of_pos (by omega), if_pos (by omega), wrap64_small (n := n / s + 1) (by omega) (by omega), wrap64_small (by omega) (by omega)]
    omega
theorem div_lo (n s : Int) (hs : 0 < s) : s * (n / s) ≤ n := Int.mul_ediv_self_le (Int.ne_of_gt hs)
theorem div_hi (n s : Int) (hs : 0 < s) : n < s * (n / s) + s := Int.lt_mul_ediv_self_add hs
theorem step_bound (s d x : Int) (hs : 0 < s) : (x + d) / s - x / s ≤ -((-(max d (-d))) / s) ∧ -((x + d) / s - x / s) ≤ -((-(max d (-d))) / s) := by
  have h1 := div_lo (x + d) s hs
  have h2 := div_hi (x + d) s hs
  have h3 := div_lo x s hs
  have h4 := div_hi x s hs
  have h5 := div_lo (-(max d (-d))) s hs
  generalize (x + d) / s = P at *
  generalize x / s = Q at *
  generalize (-(max d (-d))) / s = C at *
  constructor
  · have : s * (P - Q) < s * (-C + 1) := by rw [Int.mul_sub, Int.mul_add, Int.mul_neg]; omega
    have := Int.lt_of_mul_lt_mul_left this (Int.le_of_lt hs)
    omega
  · have : s * (-(P - Q)) < s * (-C + 1) := by rw [Int.mul_neg, Int.mul_sub, Int.mul_add, Int.mul_neg]; omega
    have := Int.lt_of_mul_lt_mul_left this (Int.le_of_lt hs)
    omega
theorem div_bd (n s M : Int) (hs : 1 ≤ s) (h1 : -M ≤ n) (h2 : n ≤ M) : -M ≤ n / s ∧ n / s ≤ M := by
  have h3 := div_lo n s (by omega)
  have h4 := div_hi n s (by omega)
  constructor
  · rcases Int.lt_or_le (n / s) (-M) with h | h
    · have : s * (n / s + 1) ≤ s * (-M) := Int.mul_le_mul_of_nonneg_left (by omega) (by omega)
      rw [Int.mul_add] at this
      have : s * (-M) ≤ 1 * (-M) := Int.mul_le_mul_of_nonpos_right hs (by omega)
      omega
    · exact h
  · rcases Int.lt_or_le M (n / s) with h | h
    · have : 1 * (n / s) ≤ s * (n / s) := Int.mul_le_mul_of_nonneg_right hs (by omega)
      omega
    · exact h
/-- One part of a change. -/
theorem part_eq (a b s k : Int) (ha : -100000 ≤ a ∧ a ≤ 100000) (hb : -100000 ≤ b ∧ b ≤ 100000) (hs : 1 ≤ s) (hk : 0 ≤ k ∧ k ≤ 1000) : wrap64 (a + floorW (wrap64 (k * wrap64 (b - a))) s) = a + k * (b - a) / s := by
  have hm : -(1000 * 200000) ≤ k * (b - a) ∧ k * (b - a) ≤ 1000 * 200000 := by
    have h : (k * (b - a)).natAbs ≤ 1000 * 200000 := by
      rw [Int.natAbs_mul]; exact Nat.mul_le_mul (by omega) (by omega)
    omega
  have hd := div_bd (k * (b - a)) s (1000 * 200000) hs hm.1 hm.2
  rw [wrap64_small (n := b - a) (by omega) (by omega), wrap64_small (n := k * (b - a)) (by omega) (by omega), floorW_eq _ s hs (by omega) (by omega), wrap64_small (by omega) (by omega)]
theorem handAt_eq (f t : T2) (s k : Int) (hf : Sm 100000 f) (ht : Sm 100000 t) (hs : 1 ≤ s) (hk : 0 ≤ k ∧ k ≤ 1000) : handAt f t s k = (f.1 + k * (t.1 - f.1) / s, f.2 + k * (t.2 - f.2) / s) := by
  unfold Sm at hf ht
  unfold handAt addW
  simp only
  rw [part_eq f.1 t.1 s k (by omega) (by omega) hs hk, part_eq f.2 t.2 s k (by omega) (by omega) hs hk]
theorem hand_zero (f t : T2) (s : Int) (hf : Sm 100000 f) (ht : Sm 100000 t) (hs : 1 ≤ s) : handAt f t s 0 = f := by
  rw [handAt_eq f t s 0 hf ht hs (by omega)]; simp
theorem hand_last (f t : T2) (s : Int) (hf : Sm 100000 f) (ht : Sm 100000 t) (hs : 1 ≤ s) (h : s ≤ 1000) : handAt f t s s = t := by
  rw [handAt_eq f t s s hf ht hs (by omega), Int.mul_ediv_cancel_left _ (by omega), Int.mul_ediv_cancel_left _ (by omega)]
  ext <;> simp only <;> omega
/-- One part of a step. -/
theorem part_step (a b s k : Int) (ha : -100000 ≤ a ∧ a ≤ 100000) (hb : -100000 ≤ b ∧ b ≤ 100000) (hs : 1 ≤ s) (hk : 0 ≤ k ∧ k ≤ 999) :
    sizeW (wrap64 (a + (k + 1) * (b - a) / s - (a + k * (b - a) / s))) ≤ ceilW (sizeW (wrap64 (b - a))) s := by
  have hm : ∀ j : Int, 0 ≤ j → j ≤ 1000 → -(1000 * 200000) ≤ j * (b - a) ∧ j * (b - a) ≤ 1000 * 200000 := fun j h1 h2 => by
    have h : (j * (b - a)).natAbs ≤ 1000 * 200000 := by
      rw [Int.natAbs_mul]; exact Nat.mul_le_mul (by omega) (by omega)
    omega
  have m1 := hm k (by omega) (by omega)
  have m2 := hm (k + 1) (by omega) (by omega)
  have d1 := div_bd (k * (b - a)) s _ hs m1.1 m1.2
  have d2 := div_bd ((k + 1) * (b - a)) s _ hs m2.1 m2.2
  have hb := step_bound s (b - a) (k * (b - a)) (by omega)
  rw [show k * (b - a) + (b - a) = (k + 1) * (b - a) by rw [Int.add_mul, Int.one_mul]] at hb
  have d3 := div_bd (-(max (b - a) (-(b - a)))) s 200000 hs (by omega) (by omega)
  have e1 : sizeW (wrap64 (b - a)) = max (b - a) (-(b - a)) := by
    unfold sizeW
    rw [wrap64_small (n := b - a) (by omega) (by omega), wrap64_small (n := -(b - a)) (by omega) (by omega)]
  have e2 : ceilW (max (b - a) (-(b - a))) s = -((-(max (b - a) (-(b - a)))) / s) := by
    unfold ceilW
    rw [wrap64_small (n := -max (b - a) (-(b - a))) (by omega) (by omega), floorW_eq _ s hs (by omega) (by omega), wrap64_small (by omega) (by omega)]
  rw [e1, e2]
  unfold sizeW
  generalize (k + 1) * (b - a) / s = P at *
  generalize k * (b - a) / s = Q at *
  generalize -max (b - a) (-(b - a)) / s = C at *
  rw [wrap64_small (n := a + P - (a + Q)) (by omega) (by omega), wrap64_small (n := -(a + P - (a + Q))) (by omega) (by omega)]
  omega
theorem hand_step (f t : T2) (s k : Int) (hf : Sm 100000 f) (ht : Sm 100000 t) (hs : 1 ≤ s) (hk : 0 ≤ k ∧ k ≤ 999) :
    sizeW (wrap64 ((handAt f t s (k + 1)).1 - (handAt f t s k).1)) ≤ ceilW (sizeW (wrap64 (t.1 - f.1))) s ∧ sizeW (wrap64 ((handAt f t s (k + 1)).2 - (handAt f t s k).2)) ≤ ceilW (sizeW (wrap64 (t.2 - f.2))) s := by
  rw [handAt_eq f t s k hf ht hs (by omega), handAt_eq f t s (k + 1) hf ht hs (by omega)]
  unfold Sm at hf ht
  exact ⟨part_step f.1 t.1 s k (by omega) (by omega) hs hk, part_step f.2 t.2 s k (by omega) (by omega) hs hk⟩
end Go.Proofs.YtdbglpaejmhbjaaDoor
