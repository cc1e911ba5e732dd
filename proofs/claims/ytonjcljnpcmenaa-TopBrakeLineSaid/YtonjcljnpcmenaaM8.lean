/- Texts of this claim, one behind the other: lemmas for the statement. -/
import Derived.Test.YtonjcljnpcmenaaM7
/- Plain: numbers as digits to the base 10^9. No program in sight. -/
namespace Go.Proofs.Ytonjcljnpcmenaa
open Go Go.RowKit Go.Proofs
set_option linter.unusedSimpArgs false
set_option linter.unusedVariables false

def valD : List Int → Int
  | [] => 0
  | d :: ds => d + 1000000000 * valD ds
def GD (ds : List Int) : Prop := ∀ d ∈ ds, 0 ≤ d ∧ d < 1000000000
def digN (n : Nat) : List Int := if h : n = 0 then [] else ((n % 1000000000 : Nat) : Int) :: digN (n / 1000000000)
termination_by n
decreasing_by omega
theorem digN_0 : digN 0 = [] := by rw [digN]; simp
theorem digN_s {n : Nat} (h : n ≠ 0) : digN n = ((n % 1000000000 : Nat) : Int) :: digN (n / 1000000000) := by rw [digN]; simp [h]
theorem digN_val : ∀ n : Nat, valD (digN n) = n := by
  intro n
  induction n using Nat.strongRecOn with
  | ind n ih =>
    by_cases h : n = 0
    · subst h; rw [digN_0]; rfl
    · rw [digN_s h, valD, ih _ (by omega)]; omega
theorem digN_gd : ∀ n : Nat, GD (digN n) := by
  intro n
  induction n using Nat.strongRecOn with
  | ind n ih =>
    by_cases h : n = 0
    · subst h; rw [digN_0]; intro d hd; cases hd
    · rw [digN_s h]
      intro d hd
      rcases List.mem_cons.1 hd with rfl | hd
      · omega
      · exact ih _ (by omega) d hd
theorem GD.tail {d : Int} {ds : List Int} (h : GD (d :: ds)) : GD ds := fun x hx => h x (List.mem_cons_of_mem _ hx)
theorem valD_nn : ∀ {ds : List Int}, GD ds → 0 ≤ valD ds
  | [], _ => by decide
  | d :: ds, h => by have := valD_nn h.tail; have := h d (List.mem_cons_self ..); rw [valD]; omega
theorem valD_app : ∀ (a b : List Int), valD (a ++ b) = valD a + 1000000000 ^ a.length * valD b
  | [], b => by simp [valD]
  | d :: a, b => by
    rw [List.cons_append, valD, valD, valD_app a b, List.length_cons, Int.pow_succ, Int.mul_add, ← Int.mul_assoc, Int.mul_comm (1000000000 ^ a.length) 1000000000]
    omega
theorem valD_zero : ∀ {ds : List Int}, (∀ d ∈ ds, d = 0) → valD ds = 0
  | [], _ => rfl
  | d :: ds, h => by rw [valD, h d (List.mem_cons_self ..), valD_zero fun x hx => h x (List.mem_cons_of_mem _ hx)]; rfl
theorem GD.at {ds : List Int} (h : GD ds) (i : Nat) : 0 ≤ ds.getD i default ∧ ds.getD i default < 1000000000 := by
  rw [List.getD_eq_getElem?_getD]
  by_cases hi : i < ds.length
  · rw [List.getElem?_eq_getElem hi]; exact h _ (List.getElem_mem hi)
  · rw [List.getElem?_eq_none (by omega)]; exact ⟨by decide, by decide⟩
theorem GD.take {ds : List Int} (h : GD ds) (n : Nat) : GD (ds.take n) := fun d hd => h d (List.mem_of_mem_take hd)
theorem GD.set {ds : List Int} (h : GD ds) (n : Nat) {v : Int} (hv : 0 ≤ v ∧ v < 1000000000) : GD (ds.set n v) := fun d hd => by
  rcases List.mem_or_eq_of_mem_set hd with hd | rfl
  · exact h d hd
  · exact hv
theorem GD.app {a b : List Int} (h : GD a) (k : GD b) : GD (a ++ b) := fun d hd => (List.mem_append.1 hd).elim (h d) (k d)
theorem GD.one {v : Int} (hv : 0 ≤ v ∧ v < 1000000000) : GD [v] := fun d hd => by rw [List.mem_singleton.1 hd]; exact hv
theorem GD.nil : GD [] := fun d hd => by cases hd
theorem GD.rep (n : Nat) : GD (List.replicate n 0) := fun d hd => by rw [(List.mem_replicate.1 hd).2]; exact ⟨by decide, by decide⟩
theorem valD_set : ∀ {ds : List Int} {k : Nat} (v : Int), k < ds.length → valD (ds.set k v) = valD ds + (v - ds.getD k default) * 1000000000 ^ k
  | d :: ds, 0, v, _ => by simp [valD]; omega
  | d :: ds, k + 1, v, h => by
    have := valD_set (ds := ds) (k := k) v (by simpa using h)
    rw [List.set_cons_succ, valD, valD, this, List.getD_cons_succ, Int.pow_succ, ← Int.mul_assoc, Int.mul_add, Int.mul_comm _ 1000000000]
    omega
theorem valD_take {ds : List Int} {k : Nat} (h : k < ds.length) : valD (ds.take (k + 1)) = valD (ds.take k) + ds.getD k default * 1000000000 ^ k := by
  rw [List.take_add_one, List.getElem?_eq_getElem h, Option.toList_some, valD_app, List.length_take, Nat.min_eq_left (by omega), valD, valD, Int.mul_zero, Int.add_zero, List.getD_eq_getElem?_getD, List.getElem?_eq_getElem h, Int.mul_comm]; rfl
theorem valD_rep (n : Nat) : valD (List.replicate n 0) = 0 := valD_zero fun d hd => (List.mem_replicate.1 hd).2
theorem valD_lt : ∀ {ds : List Int}, GD ds → valD ds < 1000000000 ^ ds.length
  | [], _ => by decide
  | d :: ds, h => by
    have h1 := valD_lt h.tail
    have h2 := h d (List.mem_cons_self ..)
    rw [valD, List.length_cons, Int.pow_succ]
    omega
/-- How long a number is. -/
theorem digN_len {n : Nat} : ∀ {k : Nat}, n < 1000000000 ^ k → (digN n).length ≤ k := by
  induction n using Nat.strongRecOn with
  | ind n ih =>
    intro k h
    by_cases h0 : n = 0
    · subst h0; rw [digN_0]; simp
    · match k, h with
      | 0, h => simp at h; omega
      | k + 1, h =>
        rw [digN_s h0, List.length_cons]
        have := ih (n / 1000000000) (by omega) (k := k) (by rw [Nat.pow_succ] at h; omega)
        omega
/-- A product, digit by digit: what is so far, at digit k of the second one for digit i of the first one, with a carry. -/
structure WM (a b xs : List Int) (i k : Nat) (c : Int) : Prop where
  len : xs.length = a.length + b.length + 1
  gd : GD xs
  z : ∀ q : Nat, i + b.length ≤ q → xs.getD q default = 0
  cb : 0 ≤ c ∧ c < 1000000000
  v : valD xs + c * 1000000000 ^ (i + k) = valD (a.take i) * valD b + a.getD i default * valD (b.take k) * 1000000000 ^ i
theorem getD_set_ne {ds : List Int} {i j : Nat} (h : i ≠ j) (v : Int) : (ds.set i v).getD j default = ds.getD j default := by
  rw [List.getD_eq_getElem?_getD, List.getElem?_set_ne h, ← List.getD_eq_getElem?_getD]
theorem WM.first {a b : List Int} : WM a b (List.replicate (a.length + b.length + 1) 0) 0 0 0 := by
  refine ⟨by simp, GD.rep _, fun q _ => ?_, ⟨by decide, by decide⟩, ?_⟩
  · rw [List.getD_eq_getElem?_getD, List.getElem?_replicate]; split <;> rfl
  · rw [valD_rep]; simp [valD]
theorem WM.bd {a b xs : List Int} {i k : Nat} {c : Int} (h : WM a b xs i k c) (ha : GD a) (hb : GD b) : 0 ≤ a.getD i default * b.getD k default ∧ 0 ≤ xs.getD (i + k) default + a.getD i default * b.getD k default + c ∧ xs.getD (i + k) default + a.getD i default * b.getD k default + c ≤ 999999999999999999 := by
  have h1 := ha.at i
  have h2 := hb.at k
  have h3 := h.gd.at (i + k)
  have h4 := h.cb
  have m1 := Int.mul_nonneg h1.1 h2.1
  have m2 := Int.mul_le_mul (show a.getD i default ≤ 999999999 by omega) (show b.getD k default ≤ 999999999 by omega) h2.1 (by omega)
  omega
theorem WM.step {a b xs : List Int} {i k : Nat} {c s : Int} (h : WM a b xs i k c) (ha : GD a) (hb : GD b) (hi : i < a.length) (hk : k < b.length) (hs : s = xs.getD (i + k) default + a.getD i default * b.getD k default + c) : WM a b (xs.set (i + k) (s % 1000000000)) i (k + 1) (s / 1000000000) := by
  have hbd := h.bd ha hb
  rw [← hs] at hbd
  refine ⟨by rw [List.length_set]; exact h.len, h.gd.set _ (by omega), fun q hq => ?_, by omega, ?_⟩
  · rw [getD_set_ne (by omega)]; exact h.z q hq
  · rw [valD_set _ (by rw [h.len]; omega), valD_take hk, Int.mul_add, Int.add_mul, ← Int.add_assoc, ← h.v, ← Nat.add_assoc, Int.pow_succ]
    have e1 : a.getD i default * (b.getD k default * 1000000000 ^ k) * 1000000000 ^ i = a.getD i default * b.getD k default * 1000000000 ^ (i + k) := by
      rw [Int.pow_add, Int.mul_assoc, Int.mul_assoc, Int.mul_assoc, Int.mul_comm (1000000000 ^ i)]
    rw [e1]
    generalize (1000000000 : Int) ^ (i + k) = P
    have e2 : s / 1000000000 * (P * 1000000000) = (s - s % 1000000000) * P := by
      rw [Int.mul_comm P, ← Int.mul_assoc, show s / 1000000000 * 1000000000 = s - s % 1000000000 by omega]
    rw [e2, hs, Int.sub_mul, Int.sub_mul, Int.add_mul, Int.add_mul]
    omega
theorem WM.next {a b xs : List Int} {i : Nat} {c : Int} (h : WM a b xs i b.length c) (hi : i < a.length) : WM a b (xs.set (i + b.length) (xs.getD (i + b.length) default + c)) (i + 1) 0 0 := by
  have hz := h.z (i + b.length) (Nat.le_refl _)
  refine ⟨by rw [List.length_set]; exact h.len, h.gd.set _ (by rw [hz, Int.zero_add]; exact h.cb), fun q hq => ?_, ⟨by decide, by decide⟩, ?_⟩
  · rw [getD_set_ne (by omega)]; exact h.z q (by omega)
  · have hv := h.v
    rw [List.take_length] at hv
    rw [valD_set _ (by rw [h.len]; omega), hz, valD_take hi, Int.add_mul, show (0 : Int) + c - 0 = c by omega, hv]
    simp only [List.take_zero, valD, Int.mul_zero, Int.zero_mul, Int.add_zero]
    rw [Int.mul_assoc, Int.mul_assoc, Int.mul_comm (1000000000 ^ i)]
theorem WM.done {a b xs : List Int} (h : WM a b xs a.length 0 0) : valD xs = valD a * valD b := by
  have hv := h.v
  simp only [List.take_zero, valD, Int.mul_zero, Int.zero_mul, Int.add_zero, List.take_length] at hv
  exact hv
end Go.Proofs.Ytonjcljnpcmenaa

/- Contracts: wide numbers, made and multiplied. No conditions on a program. -/
namespace Go.Proofs.Ytonjcljnpcmenaa
open Go Go.RowKit Go.Proofs
set_option linter.unusedSimpArgs false
set_option linter.unusedVariables false
end Go.Proofs.Ytonjcljnpcmenaa

