/- Contracts of chapter 5: where a train stands, as the document has it. No conditions on a program. -/
import Derived.Test.YtgiiedpambimoaaK12
namespace Go.Proofs.Ytgiiedpambimoaa
open Go Go.RowKit Go.Proofs
set_option linter.unusedSimpArgs false
set_option linter.unusedVariables false

theorem tdiv_floor {n k : Int} (hk : 1 ≤ k) : (n.tmod k < 0 → n.tdiv k - 1 = n / k) ∧ (¬ n.tmod k < 0 → n.tdiv k = n / k) := by
  have h1 := Int.mul_tdiv_add_tmod n k
  have h2 : n.tmod k < k := Int.tmod_lt_of_pos n (by omega)
  have h3 : -k < n.tmod k := Int.lt_tmod_of_pos n (by omega)
  constructor
  · intro h
    have := (Int.ediv_emod_unique (a := n) (b := k) (r := n.tmod k + k) (q := n.tdiv k - 1) (by omega)).2 ⟨by rw [Int.mul_sub]; omega, by omega, by omega⟩
    exact this.1.symm
  · intro h
    have := (Int.ediv_emod_unique (a := n) (b := k) (r := n.tmod k) (q := n.tdiv k) (by omega)).2 ⟨by omega, by omega, h2⟩
    exact this.1.symm
theorem tdiv_le {n k : Int} (hk : 1 ≤ k) (hn : -1000000000000000 ≤ n ∧ n ≤ 1000000000000000) : -1000000000000000 ≤ n.tdiv k ∧ n.tdiv k ≤ 1000000000000000 := by
  rcases Int.le_total 0 n with h | h
  · have := tdiv_bound h hk; omega
  · have := tdiv_bound (x := -n) (y := k) (by omega) hk
    rw [Int.neg_tdiv] at this; omega
theorem ediv_le {n k : Int} (hk : 1 ≤ k) (hn : -1000000000000000 ≤ n ∧ n ≤ 1000000000000000) : -1000000000000001 ≤ n / k ∧ n / k ≤ 1000000000000000 := by
  have hb := tdiv_le hk hn
  have hf := tdiv_floor (n := n) hk
  by_cases h : n.tmod k < 0
  · have := hf.1 h; omega
  · have := hf.2 h; omega
theorem ceil_eq {n k : Int} (hn : 0 ≤ n) (hk : 1 ≤ k) : (n + k - 1).tdiv k = -(-n / k) := by
  rw [Int.tdiv_eq_ediv_of_nonneg (by omega)]
  have h1 := Int.mul_ediv_add_emod (-n) k
  have h2 := Int.emod_nonneg (-n) (show k ≠ 0 by omega)
  have h3 := Int.emod_lt_of_pos (-n) (show 0 < k by omega)
  have := (Int.ediv_emod_unique (a := n + k - 1) (b := k) (r := k - 1 - (-n) % k) (q := -(-n / k)) (by omega)).2 ⟨by rw [Int.mul_neg]; omega, by omega, by omega⟩
  exact this.1
end Go.Proofs.Ytgiiedpambimoaa
