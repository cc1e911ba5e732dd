/- Plain facts on products of vectors, without a program. -/
import Derived.Test.YtdbglpaejmhbjaaDoorW22
import Derived.Test.YtdbglpaejmhbjaaDoorF1
namespace Go.Proofs.YtdbglpaejmhbjaaDoor
open Go Go.RowKit Go.Proofs
set_option linter.unusedSimpArgs false
set_option linter.unusedVariables false

def prodP (c f : T2) : T2 := (c.1 * (f.1 - f.2) - c.2 * (-f.2), c.1 * (-f.2) + c.2 * (f.1 - f.2) - c.2 * (-f.2))
theorem norm_prod (c f : T2) : normP (prodP c f) = normP c * normP f := by
  obtain ⟨a, b⟩ := c; obtain ⟨x, y⟩ := f
  simp only [normP, prodP]; grind
theorem norm_four (x : T2) : 4 * normP x = (2 * x.1 - x.2) * (2 * x.1 - x.2) + 3 * (x.2 * x.2) := by
  obtain ⟨a, b⟩ := x
  simp only [normP]; grind
theorem prod_swap (c f : T2) : (prodP f c).2 = -(prodP c f).2 := by
  simp only [prodP]; grind
theorem prod_step (c f : T2) : prodP (stepP c) (stepP f) = prodP c f := by
  simp only [prodP, stepP]
  ext
  · simp only; grind
  · simp only; grind
theorem prod_turn (c f : T2) : ∀ k, prodP (turnP k c) (turnP k f) = prodP c f
  | 0 => rfl
  | k + 1 => by rw [turnP, turnP, prod_step, prod_turn c f k]
theorem sq_nonneg (a : Int) : 0 ≤ a * a := by
  rcases Int.le_total 0 a with h | h
  · exact Int.mul_nonneg h h
  · exact Int.mul_nonneg_of_nonpos_of_nonpos h h
theorem sq_le {a b : Int} (h1 : -b ≤ a) (h2 : a ≤ b) : a * a ≤ b * b := by
  have h : (a * a).natAbs ≤ (b * b).natAbs := by
    rw [Int.natAbs_mul, Int.natAbs_mul]
    exact Nat.mul_le_mul (by omega) (by omega)
  have := sq_nonneg a
  have := sq_nonneg b
  omega
theorem both_all (x : T2) : 3 * (x.2 * x.2) ≤ 4 * normP x := by
  have := norm_four x; have := sq_nonneg (2 * x.1 - x.2); omega
theorem both_close {x : T2} (h1 : -x.2 ≤ 2 * x.1 - x.2) (h2 : 2 * x.1 - x.2 ≤ x.2) : normP x ≤ x.2 * x.2 := by
  have := norm_four x; have := sq_le h1 h2; omega
theorem both_safe {x : T2} (h1 : -(3 * x.2) ≤ 2 * x.1 - x.2) (h2 : 2 * x.1 - x.2 ≤ 3 * x.2) : normP x ≤ 3 * (x.2 * x.2) := by
  have := norm_four x; have := sq_le h1 h2
  have e : 3 * x.2 * (3 * x.2) = 9 * (x.2 * x.2) := by grind
  omega
theorem sq_lt {a b : Int} (hb : 0 ≤ b) (h : b < a ∨ a < -b) : b * b < a * a := by
  have h : (b * b).natAbs < (a * a).natAbs := by
    rw [Int.natAbs_mul, Int.natAbs_mul]
    exact Nat.mul_lt_mul'' (by omega) (by omega)
  have := sq_nonneg a
  have := sq_nonneg b
  omega
theorem both_notclose {x : T2} (h0 : 0 < x.2) (h : x.2 < 2 * x.1 - x.2 ∨ 2 * x.1 - x.2 < -x.2) : x.2 * x.2 < normP x := by
  have := norm_four x; have := sq_lt (Int.le_of_lt h0) h; omega
theorem both_slip {x : T2} (h0 : 0 < x.2) (h : 3 * x.2 < 2 * x.1 - x.2 ∨ 2 * x.1 - x.2 < -(3 * x.2)) : 3 * (x.2 * x.2) < normP x := by
  have := norm_four x; have := sq_lt (a := 2 * x.1 - x.2) (b := 3 * x.2) (by omega) h
  have e : 3 * x.2 * (3 * x.2) = 9 * (x.2 * x.2) := by grind
  omega
theorem prod_bd (c f : T2) (M : Int) (h1 : Sm M c) (h2 : Sm M f) : -(3 * (M * M)) ≤ (prodP c f).1 ∧ (prodP c f).1 ≤ 3 * (M * M) ∧ -(4 * (M * M)) ≤ (prodP c f).2 ∧ (prodP c f).2 ≤ 4 * (M * M) := by
  unfold Sm at *
  have e1 := mul_le_of (a := c.1) (b := f.1) (M := M) (by omega) (by omega) (by omega) (by omega)
  have e2 := mul_le_of (a := c.1) (b := f.2) (M := M) (by omega) (by omega) (by omega) (by omega)
  have e3 := mul_le_of (a := c.2) (b := f.1) (M := M) (by omega) (by omega) (by omega) (by omega)
  have e4 := mul_le_of (a := c.2) (b := f.2) (M := M) (by omega) (by omega) (by omega) (by omega)
  simp only [prodP, Int.mul_sub, Int.mul_neg]
  omega
theorem productW_eq (c f : T2) (M : Int) (h1 : Sm M c) (h2 : Sm M f) (hM : M ≤ 1000000000) : productW c f = prodP c f := by
  have h4 : M * M ≤ 1000000000000000000 := by
    have h0 : 0 ≤ M := by unfold Sm at h1; omega
    have := mul_le_of (a := M) (b := M) (M := 1000000000) (by omega) (by omega) (by omega) (by omega)
    omega
  unfold Sm at *
  have e1 := mul_le_of (a := c.1) (b := f.1) (M := M) (by omega) (by omega) (by omega) (by omega)
  have e2 := mul_le_of (a := c.1) (b := f.2) (M := M) (by omega) (by omega) (by omega) (by omega)
  have e3 := mul_le_of (a := c.2) (b := f.1) (M := M) (by omega) (by omega) (by omega) (by omega)
  have e4 := mul_le_of (a := c.2) (b := f.2) (M := M) (by omega) (by omega) (by omega) (by omega)
  have w1 : wrap64 (f.1 - f.2) = f.1 - f.2 := wrap64_small (by omega) (by omega)
  have w2 : wrap64 (-f.2) = -f.2 := wrap64_small (by omega) (by omega)
  simp only [productW, timesW, conjW, prodP, w1, w2]
  have d1 : c.1 * (f.1 - f.2) = c.1 * f.1 - c.1 * f.2 := Int.mul_sub _ _ _
  have d2 : c.2 * (f.1 - f.2) = c.2 * f.1 - c.2 * f.2 := Int.mul_sub _ _ _
  have d3 : c.1 * (-f.2) = -(c.1 * f.2) := Int.mul_neg _ _
  have d4 : c.2 * (-f.2) = -(c.2 * f.2) := Int.mul_neg _ _
  rw [d1, d2, d3, d4]
  generalize c.1 * f.1 = x1 at *
  generalize c.1 * f.2 = x2 at *
  generalize c.2 * f.1 = x3 at *
  generalize c.2 * f.2 = x4 at *
  generalize M * M = m at *
  rw [wrap64_small (n := x1 - x2) (by omega) (by omega), wrap64_small (n := -x4) (by omega) (by omega), wrap64_small (n := -x2) (by omega) (by omega), wrap64_small (n := x3 - x4) (by omega) (by omega),
    wrap64_small (n := -x2 + (x3 - x4)) (by omega) (by omega), wrap64_small (by omega) (by omega), wrap64_small (by omega) (by omega)]
theorem awayW_eq (x : T2) (M : Int) (h1 : Sm M x) (hM : M ≤ 1000000000000000) : awayW x = max (2 * x.1 - x.2) (-(2 * x.1 - x.2)) := by
  unfold Sm at h1
  unfold awayW sizeW
  rw [wrap64_small (n := 2 * x.1) (by omega) (by omega), wrap64_small (n := 2 * x.1 - x.2) (by omega) (by omega), wrap64_small (n := -(2 * x.1 - x.2)) (by omega) (by omega)]
theorem mar_eq (x : T2) (M : Int) (h1 : Sm M x) (hM : M ≤ 1000000000000000) : marS x = marR x := by
  unfold marS marR
  rw [awayW_eq x M h1 hM]
  unfold Sm at h1
  rw [wrap64_small (n := 3 * x.2) (by omega) (by omega)]
  repeat' split
  all_goals omega
theorem prod_sm {c f : T2} (h1 : rightB c = true) (h2 : rightB f = true) : Sm 40000000000 (productW c f) := by
  have s1 := right_sm h1
  have s2 := right_sm h2
  rw [productW_eq c f 100000 s1 s2 (by omega)]
  have := prod_bd c f 100000 s1 s2
  unfold Sm
  omega
end Go.Proofs.YtdbglpaejmhbjaaDoor
