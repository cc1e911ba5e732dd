/- Six sixths are a turn: plain facts. -/
import Derived.Test.YtdbglpaejmhbjaaDoorW21
namespace Go.Proofs.YtdbglpaejmhbjaaDoor
open Go Go.RowKit Go.Proofs
set_option linter.unusedSimpArgs false
set_option linter.unusedVariables false

/-- The square of the size, without wraps. -/
def normP (v : T2) : Int := v.1 * v.1 - v.1 * v.2 + v.2 * v.2
theorem normP_step (v : T2) : normP (stepP v) = normP v := by
  obtain ⟨a, b⟩ := v
  simp only [normP, stepP]
  grind
theorem normP_turn (v : T2) : ∀ k, normP (turnP k v) = normP v
  | 0 => rfl
  | k + 1 => by rw [turnP, normP_step, normP_turn v k]
theorem mul_le_of {a b M : Int} (h1 : -M ≤ a) (h2 : a ≤ M) (h3 : -M ≤ b) (h4 : b ≤ M) : -(M * M) ≤ a * b ∧ a * b ≤ M * M := by
  have h : (a * b).natAbs ≤ (M * M).natAbs := by
    rw [Int.natAbs_mul, Int.natAbs_mul]
    exact Nat.mul_le_mul (by omega) (by omega)
  have h0 : 0 ≤ M * M := Int.mul_nonneg (by omega) (by omega)
  omega
/-- No wraps at small numbers. -/
theorem wrap64_small {n : Int} (h1 : -9000000000000000000 ≤ n) (h2 : n ≤ 9000000000000000000) : wrap64 n = n := by unfold wrap64; omega
theorem normW_eq (v : T2) (M : Int) (h : Sm M v) (hM : M ≤ 1000000000) : normW v = normP v := by
  obtain ⟨a, b⟩ := v
  unfold Sm at h
  simp only at h
  have h1 := mul_le_of (a := a) (b := a) (M := M) (by omega) (by omega) (by omega) (by omega)
  have h2 := mul_le_of (a := a) (b := b) (M := M) (by omega) (by omega) (by omega) (by omega)
  have h3 := mul_le_of (a := b) (b := b) (M := M) (by omega) (by omega) (by omega) (by omega)
  have h4 : M * M ≤ 1000000000000000000 := by
    have := mul_le_of (a := M) (b := M) (M := 1000000000) (by omega) (by omega) (by omega) (by omega)
    omega
  simp only [normW, normP]
  generalize a * a = x at *
  generalize a * b = y at *
  generalize b * b = z at *
  generalize M * M = m at *
  rw [wrap64_small (n := x) (by omega) (by omega), wrap64_small (n := y) (by omega) (by omega), wrap64_small (n := z) (by omega) (by omega), wrap64_small (n := x - y) (by omega) (by omega), wrap64_small (by omega) (by omega)]
theorem inB_iff (x : T2) : inB x = true ↔ 0 ≤ x.2 ∧ x.2 < x.1 := by simp [inB]
/-- The next sixth lies in the next sector. -/
theorem secN_step (v : T2) (h : v ≠ (0, 0)) : (secN 6 (stepP v) : Int) = ((secN 6 v : Int) + 1) % 6 := by
  obtain ⟨a, b⟩ := v
  have h' : a ≠ 0 ∨ b ≠ 0 := by
    by_cases ha : a = 0
    · right; rintro rfl; exact h (by rw [ha])
    · exact .inl ha
  simp only [secN, stepP, inB_iff, back]
  repeat' split
  all_goals omega
end Go.Proofs.YtdbglpaejmhbjaaDoor
