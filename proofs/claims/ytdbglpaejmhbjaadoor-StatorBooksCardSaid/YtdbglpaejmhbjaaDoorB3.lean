/- Plain facts on books and powers. -/
import Derived.Test.YtdbglpaejmhbjaaDoorB2
import Derived.Test.YtdbglpaejmhbjaaDoorP1
namespace Go.Proofs.YtdbglpaejmhbjaaDoor
open Go Go.RowKit Go.Proofs
set_option linter.unusedSimpArgs false
set_option linter.unusedVariables false

theorem wrap_in {n : Int} (h1 : -9223372036854775808 ≤ n) (h2 : n ≤ 9223372036854775807) : wrap64 n = n := by unfold wrap64; omega
theorem p3_bd {x : T3} (h : p3E x = 0) : (-100000 ≤ x.1 ∧ x.1 ≤ 100000) ∧ (-100000 ≤ x.2.1 ∧ x.2.1 ≤ 100000) ∧ (-100000 ≤ x.2.2 ∧ x.2.2 ≤ 100000) := by
  have e : wrap64 (-100000) = -100000 := by decide +kernel
  have hh : (p3L x).all (smallB · 100000) = true := by
    unfold p3E unlessE at h
    split at h <;> simp_all
  simp only [p3L, List.all_cons, List.all_nil, Bool.and_true, smallB, withinB, Bool.and_eq_true, decide_eq_true_eq, e] at hh
  exact ⟨hh.1, hh.2.1, hh.2.2⟩
theorem mul_bd {a b : Int} (M : Int) (h1 : -M ≤ a) (h2 : a ≤ M) (h3 : -M ≤ b) (h4 : b ≤ M) : -(M * M) ≤ a * b ∧ a * b ≤ M * M := by
  have h : (a * b).natAbs ≤ (M * M).natAbs := by
    rw [Int.natAbs_mul, Int.natAbs_mul]
    exact Nat.mul_le_mul (by omega) (by omega)
  have h0 : 0 ≤ M := by omega
  have := Int.mul_nonneg h0 h0
  omega
theorem book_power (v c : T3) (hv : p3E v = 0) (hc : p3E c = 0) (h0 : wrap64 (wrap64 (c.1 + c.2.1) + c.2.2) = 0) :
    wrap64 (3 * powerW v c) = wrap64 (wrap64 (2 * (timesW (ofW v) (conjW (ofW c))).1) - (timesW (ofW v) (conjW (ofW c))).2) := by
  obtain ⟨v1, v2, v3⟩ := p3_bd hv
  obtain ⟨c1, c2, c3⟩ := p3_bd hc
  obtain ⟨a, b, d⟩ := v
  obtain ⟨x, y, z⟩ := c
  simp only at *
  rw [wrap_in (n := x + y) (by omega) (by omega), wrap_in (by omega) (by omega)] at h0
  have ho1 : ofW (a, b, d) = (a - d, b - d) := by simp only [ofW]; rw [wrap_in (by omega) (by omega), wrap_in (by omega) (by omega)]
  have ho2 : ofW (x, y, z) = (x - z, y - z) := by simp only [ofW]; rw [wrap_in (by omega) (by omega), wrap_in (by omega) (by omega)]
  have hp : timesW (ofW (a, b, d)) (conjW (ofW (x, y, z))) = prodP (a - d, b - d) (x - z, y - z) := by
    rw [ho1, ho2]; exact productW_eq _ _ 200000 (by unfold Sm; simp only; omega) (by unfold Sm; simp only; omega) (by omega)
  have hb := prod_bd (a - d, b - d) (x - z, y - z) 200000 (by unfold Sm; simp only; omega) (by unfold Sm; simp only; omega)
  rw [hp]
  have m1 := mul_bd (a := a) (b := x) 100000 (by omega) (by omega) (by omega) (by omega)
  have m2 := mul_bd (a := b) (b := y) 100000 (by omega) (by omega) (by omega) (by omega)
  have m3 := mul_bd (a := d) (b := z) 100000 (by omega) (by omega) (by omega) (by omega)
  have hw : powerW (a, b, d) (x, y, z) = a * x + b * y + d * z := by
    simp only [powerW]
    rw [wrap_in (n := a * x) (by omega) (by omega), wrap_in (n := b * y) (by omega) (by omega), wrap_in (n := d * z) (by omega) (by omega), wrap_in (n := a * x + b * y) (by omega) (by omega), wrap_in (by omega) (by omega)]
  rw [hw]
  have hz : z = -x - y := by omega
  have key : 3 * (a * x + b * y + d * z) = 2 * (prodP (a - d, b - d) (x - z, y - z)).1 - (prodP (a - d, b - d) (x - z, y - z)).2 := by
    subst hz; simp only [prodP]; grind
  generalize prodP (a - d, b - d) (x - z, y - z) = q at *
  rw [wrap_in (n := 2 * q.1) (by omega) (by omega), ← key]
theorem rBook_in : ∀ (l : List St) (f g : Int), f = wrap64 f → (rBook l f g).1 = wrap64 (rBook l f g).1
  | [], f, g, h => h
  | s :: l, f, g, _ => rBook_in l _ _ (wrap_wrap _).symm
theorem book_fed (f g : Int) (h : f = wrap64 f) : wrap64 (g + wrap64 (f - g)) = f := by
  rw [h]; unfold wrap64; omega
/-- What the law asks of the book. -/
theorem book_cases (n : Nat) (l : List St) : (rBookE n l ≠ 0 ∧ bookE n l = rBookE n l ∧ bookV n l = (0, 0, 0)) ∨
    (rBookE n l = 0 ∧ bookE n l = 0 ∧ bookV n l = rBookV l ∧ wrap64 ((rBookV l).2.1 + (rBookV l).2.2) = (rBookV l).1) := by
  by_cases h : rBookE n l = 0
  · right
    have h60 : ¬ 60 < n := by intro h6; rw [rBookE, if_pos h6] at h; omega
    have hall : l.all okSt = true := by
      rw [rBookE, if_neg h60] at h
      unfold unlessE at h
      split at h <;> simp_all
    have hE : bookE n l = 0 := by rw [bookE_eq, h]
    refine ⟨h, hE, ?_, ?_⟩
    · unfold bookV; rw [hE, rBook_eq l 0 0 hall]; rfl
    · exact book_fed _ _ (rBook_in l 0 0 (by decide +kernel))
  · left
    have hE : bookE n l = rBookE n l := bookE_eq n l
    refine ⟨h, hE, ?_⟩
    unfold bookV; rw [hE]; simp [ok3, h]
theorem p3E_or (x : T3) : p3E x = 0 ∨ p3E x = 2 := by
  unfold p3E unlessE; split <;> simp
end Go.Proofs.YtdbglpaejmhbjaaDoor
