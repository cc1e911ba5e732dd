/- Plain facts on sections and overlaps. -/
import Derived.Test.YtdbglpaejmhbjaaDoorP1
import Derived.Test.YtdbglpaejmhbjaaDoorO2
namespace Go.Proofs.YtdbglpaejmhbjaaDoor
open Go Go.RowKit Go.Proofs
set_option linter.unusedSimpArgs false
set_option linter.unusedVariables false

def overP (p q : Int) : Int → List Int → List Int
  | _, [] => []
  | f, l :: ls => max 0 (min (f + l) (p + q) - max f p) :: overP p q (f + l) ls
def sumP : List Int → Int
  | [] => 0
  | x :: l => x + sumP l
/-- All between 0 and a million. -/
def Lens (ls : List Int) : Prop := ∀ x ∈ ls, 0 ≤ x ∧ x ≤ 1000000
theorem Lens.tail {x : Int} {ls : List Int} (h : Lens (x :: ls)) : Lens ls := fun y hy => h y (by simp [hy])
theorem Lens.head {x : Int} {ls : List Int} (h : Lens (x :: ls)) : 0 ≤ x ∧ x ≤ 1000000 := h x (by simp)
theorem sumP_bd : ∀ {ls : List Int}, Lens ls → 0 ≤ sumP ls ∧ sumP ls ≤ 1000000 * ls.length
  | [], _ => by simp [sumP]
  | x :: l, h => by
    have h1 := h.head; have h2 := sumP_bd h.tail
    simp only [sumP, List.length_cons]; omega
theorem over_sum (p q : Int) (hq : 0 ≤ q) : ∀ (ls : List Int) (f : Int), Lens ls → sumP (overP p q f ls) = max 0 (min (f + sumP ls) (p + q) - max f p)
  | [], f, _ => by simp only [overP, sumP]; omega
  | l :: ls, f, h => by
    have h1 := h.head
    have h2 := sumP_bd h.tail
    simp only [overP, sumP, over_sum p q hq ls (f + l) h.tail]
    omega
theorem over_lens (p q : Int) : ∀ (ls : List Int) (f : Int), Lens ls → Lens (overP p q f ls)
  | [], _, _ => fun x hx => by simp [overP] at hx
  | l :: ls, f, h => fun x hx => by
    have h1 := h.head
    simp only [overP, List.mem_cons] at hx
    rcases hx with rfl | hx
    · omega
    · exact over_lens p q ls (f + l) h.tail x hx
theorem over_length (p q : Int) : ∀ (ls : List Int) (f : Int), (overP p q f ls).length = ls.length
  | [], _ => rfl
  | l :: ls, f => by simp [overP, over_length p q ls]
theorem sumW_eq : ∀ (ls : List Int) (s : Int), Lens ls → -1000000000000 ≤ s → s + 1000000 * ls.length ≤ 1000000000000 → sumW s ls = s + sumP ls
  | [], s, _, _, _ => by simp [sumW, sumP]
  | x :: l, s, h, h0, h1 => by
    have hx := h.head
    simp only [List.length_cons] at h1
    simp only [sumW, sumP]
    rw [wrap64_small (by omega) (by omega), sumW_eq l (s + x) h.tail (by omega) (by omega)]
    omega
theorem overL_eq (p q : Int) (hp : -1000000000000 ≤ p ∧ p ≤ 1000000000000) (hq : -1000000000000 ≤ q ∧ q ≤ 1000000000000) : ∀ (ls : List Int) (f : Int), Lens ls → 0 ≤ f → f + 1000000 * ls.length ≤ 1000000000000 → overL p q f ls = overP p q f ls
  | [], _, _, _, _ => rfl
  | x :: l, f, h, h0, h1 => by
    have hx := h.head
    simp only [List.length_cons] at h1
    simp only [overL, overP]
    rw [wrap64_small (n := f + x) (by omega) (by omega), wrap64_small (n := p + q) (by omega) (by omega), wrap64_small (n := min (f + x) (p + q) - max f p) (by omega) (by omega), overL_eq p q hp hq l (f + x) h.tail (by omega) (by omega)]
theorem track_ok {n : Nat} {ls : List Int} (hl : ls.length = n) (h : (trackC n ls).2 = 0) : Lens ls ∧ n ≤ 12 ∧ 0 < n := by
  unfold trackC at h
  by_cases hE : trackE n = 0
  · rw [if_pos hE] at h
    have h12 : n ≤ 12 ∧ 0 < n := by
      unfold trackE at hE
      by_cases h0 : 0 < n <;> by_cases h1 : n ≤ 12 <;> simp_all [firstE, unlessE]
    refine ⟨?_, h12.1, h12.2⟩
    have hi := idx_any badL ls 0
    have hneg : idx badL ls 0 < 0 := by
      simp only [unlessE] at h
      by_cases hd : idx badL ls 0 < 0
      · exact hd
      · simp [hd] at h
    have ha : ls.any badL = false := by rw [← hi]; simp; omega
    intro x hx
    have := List.any_eq_false.1 ha x hx
    simp only [badL, withinB, Bool.not_eq_true, Bool.not_eq_false', Bool.and_eq_true, decide_eq_true_eq] at this
    omega
  · rw [if_neg hE] at h
    exact absurd h hE
theorem openE_eq {n : Nat} {ls : List Int} {p q : Int} (h : (trackC n ls).2 = 0) : openE n ls p q = trainE ls p q := by
  unfold openE trainE
  rw [if_pos h]
  cases hw : (withinB q 1 1000000 && decide (0 ≤ p)) with
  | false => simp [firstE, unlessE]
  | true =>
    by_cases hp : wrap64 (sumW 0 ls - q) < p
    · have : ¬ p ≤ wrap64 (sumW 0 ls - q) := by omega
      simp [firstE, unlessE, hp, this]
    · have : p ≤ wrap64 (sumW 0 ls - q) := by omega
      simp [firstE, unlessE, hp, this]
theorem train_ok {n : Nat} {ls : List Int} {p q : Int} (hl : ls.length = n) (h : (trackC n ls).2 = 0) (h2 : trainE ls p q = 0) : 0 ≤ p ∧ 1 ≤ q ∧ q ≤ 1000000 ∧ p + q ≤ sumP ls := by
  obtain ⟨h3, h4, _⟩ := track_ok hl h
  have hb := sumP_bd h3
  have hs := sumW_eq ls 0 h3 (by omega) (by omega)
  unfold trainE at h2
  cases hw : (withinB q 1 1000000 && decide (0 ≤ p)) with
  | false => rw [hw] at h2; simp at h2
  | true =>
    rw [hw, if_pos rfl] at h2
    simp only [withinB, Bool.and_eq_true, decide_eq_true_eq] at hw
    rw [hs, wrap64_small (by omega) (by omega)] at h2
    by_cases hp : 0 + sumP ls - q < p
    · rw [if_pos hp] at h2; omega
    · omega
theorem over_all {n : Nat} {ls : List Int} {p q : Int} (hl : ls.length = n) (h : (trackC n ls).2 = 0) (h2 : trainE ls p q = 0) : sumW 0 (overL p q 0 ls) = q := by
  obtain ⟨h3, h4, _⟩ := track_ok hl h
  obtain ⟨h5, h6, h7, h8⟩ := train_ok hl h h2
  have hb := sumP_bd h3
  rw [overL_eq p q (by omega) (by omega) ls 0 h3 (by omega) (by omega), sumW_eq _ 0 (over_lens p q ls 0 h3) (by omega) (by rw [over_length]; omega), over_sum p q (by omega) ls 0 h3]
  omega
end Go.Proofs.YtdbglpaejmhbjaaDoor
