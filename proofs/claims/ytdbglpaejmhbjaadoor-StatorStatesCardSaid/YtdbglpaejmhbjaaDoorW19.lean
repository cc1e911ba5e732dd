/- Walks: sectors. -/
import Derived.Test.YtdbglpaejmhbjaaDoorW18
namespace Go.Proofs.YtdbglpaejmhbjaaDoor
open Go Go.RowKit Go.Proofs
set_option linter.unusedSimpArgs false
set_option linter.unusedVariables false

/-- Within the first sector. -/
def inB (x : T2) : Bool := decide (0 ≤ x.2) && decide (x.2 < x.1)
/-- A sixth back. -/
def back (x : T2) : T2 := (x.2, x.2 - x.1)
/-- How many sixths back until the first sector, at most so many. -/
def secN : Nat → T2 → Nat
  | 0, _ => 0
  | k + 1, x => if inB x then 0 else secN k (back x) + 1
def rot : Nat → T2 → T2
  | 0, x => x
  | k + 1, x => rot k (back x)
theorem rot_succ : ∀ (k : Nat) (x : T2), rot (k + 1) x = back (rot k x)
  | 0, _ => rfl
  | k + 1, x => rot_succ k (back x)
theorem inB_mk (x : T2) (h1 : 0 ≤ x.2) (h2 : x.2 < x.1) : inB x = true := by simp [inB, h1, h2]
theorem inB_one (a b : Int) (h : a ≠ 0 ∨ b ≠ 0) : ∃ k, k < 6 ∧ inB (rot k (a, b)) = true := by
  by_cases h0 : 0 ≤ b ∧ b < a
  · exact ⟨0, by omega, inB_mk _ (by simp only [rot, back]; omega) (by simp only [rot, back]; omega)⟩
  by_cases h1 : 0 ≤ b - a ∧ b - a < b
  · exact ⟨1, by omega, inB_mk _ (by simp only [rot, back]; omega) (by simp only [rot, back]; omega)⟩
  by_cases h2 : 0 ≤ - a ∧ - a < b - a
  · exact ⟨2, by omega, inB_mk _ (by simp only [rot, back]; omega) (by simp only [rot, back]; omega)⟩
  by_cases h3 : 0 ≤ - b ∧ - b < - a
  · exact ⟨3, by omega, inB_mk _ (by simp only [rot, back]; omega) (by simp only [rot, back]; omega)⟩
  by_cases h4 : 0 ≤ a - b ∧ a - b < - b
  · exact ⟨4, by omega, inB_mk _ (by simp only [rot, back]; omega) (by simp only [rot, back]; omega)⟩
  exact ⟨5, by omega, inB_mk _ (by simp only [rot, back]; omega) (by simp only [rot, back]; omega)⟩
theorem secN_le : ∀ (n k : Nat) (x : T2), k < n → inB (rot k x) = true → secN n x ≤ k ∧ inB (rot (secN n x) x) = true
  | n + 1, 0, x, _, h => by
    have h' : inB x = true := h
    simp [secN, h', rot]
  | n + 1, k + 1, x, hk, h => by
    by_cases hx : inB x = true
    · simp [secN, hx, rot]
    · have := secN_le n k (back x) (by omega) h
      simp only [secN, if_neg hx, rot]
      exact ⟨by omega, this.2⟩
theorem secN_in (v : T2) (h : v ≠ (0, 0)) : secN 6 v ≤ 5 ∧ inB (rot (secN 6 v) v) = true := by
  obtain ⟨a, b⟩ := v
  obtain ⟨k, hk, hi⟩ := inB_one a b (by
    by_cases ha : a = 0
    · right; rintro rfl; exact h (by rw [ha])
    · exact .inl ha)
  have := secN_le 6 k (a, b) hk hi
  exact ⟨by omega, this.2⟩
/-- A sixth on, without wraps. -/
def stepP (v : T2) : T2 := (v.1 - v.2, v.1)
def turnP : Nat → T2 → T2
  | 0, v => v
  | k + 1, v => stepP (turnP k v)
/-- Both parts are at most M in size. -/
def Sm (M : Int) (v : T2) : Prop := -M ≤ v.1 ∧ v.1 ≤ M ∧ -M ≤ v.2 ∧ v.2 ≤ M
theorem Sm.mono {M N : Int} {v : T2} (h : Sm M v) (hN : M ≤ N) : Sm N v := by unfold Sm at *; omega
theorem turnP_sm (v : T2) (M : Int) (h : Sm M v) : ∀ k, Sm (2 ^ k * M) (turnP k v)
  | 0 => by simpa [turnP] using h
  | k + 1 => by
    have ih := turnP_sm v M h k
    rw [Int.pow_succ, Int.mul_comm (2 ^ k) 2, Int.mul_assoc]
    generalize 2 ^ k * M = N at ih
    unfold Sm at *
    simp only [turnP, stepP]
    omega
theorem turnW_eq (v : T2) (M : Int) (h : Sm M v) (hM : M ≤ 1000000000) : ∀ k, k ≤ 6 → turnW k v = turnP k v
  | 0, _ => rfl
  | k + 1, hk => by
    have ih := turnW_eq v M h hM k (by omega)
    have hs := turnP_sm v M h k
    have h0 : 0 ≤ M := by unfold Sm at h; omega
    have h2 : (2 : Int) ^ k * M ≤ 32 * 1000000000 := by
      have : (2 : Int) ^ k ≤ 32 := by
        have h5 : k ≤ 5 := by omega
        obtain rfl | rfl | rfl | rfl | rfl | rfl : k = 0 ∨ k = 1 ∨ k = 2 ∨ k = 3 ∨ k = 4 ∨ k = 5 := by omega
        all_goals decide
      exact Int.mul_le_mul this hM h0 (by omega)
    generalize (2 : Int) ^ k * M = N at hs h2
    simp only [turnW, turnP, ih, turnStep, stepP]
    unfold Sm at hs
    have e : wrap64 ((turnP k v).1 - (turnP k v).2) = (turnP k v).1 - (turnP k v).2 := by unfold wrap64; omega
    rw [e]
theorem turn_back (v : T2) (M : Int) (h : Sm M v) (hM : M ≤ 1000000000) (k : Nat) (hk : k < 6) : turnW (sixN (-k)) v = rot k v := by
  rw [turnW_eq v M h hM _ (by have := sixN_lt (-k); omega)]
  obtain ⟨a, b⟩ := v
  obtain rfl | rfl | rfl | rfl | rfl | rfl : k = 0 ∨ k = 1 ∨ k = 2 ∨ k = 3 ∨ k = 4 ∨ k = 5 := by omega
  · rfl
  · rw [show sixN (-((1 : Nat) : Int)) = 5 by decide]; simp only [turnP, stepP, rot, back]; ext <;> simp only <;> omega
  · rw [show sixN (-((2 : Nat) : Int)) = 4 by decide]; simp only [turnP, stepP, rot, back]; ext <;> simp only <;> omega
  · rw [show sixN (-((3 : Nat) : Int)) = 3 by decide]; simp only [turnP, stepP, rot, back]; ext <;> simp only <;> omega
  · rw [show sixN (-((4 : Nat) : Int)) = 2 by decide]; simp only [turnP, stepP, rot, back]; ext <;> simp only <;> omega
  · rw [show sixN (-((5 : Nat) : Int)) = 1 by decide]; simp only [turnP, stepP, rot, back]; ext <;> simp only <;> omega
end Go.Proofs.YtdbglpaejmhbjaaDoor
