/- Plain facts on pulses: the rest stays near. -/
import Derived.Test.YtdbglpaejmhbjaaDoorN2
import Derived.Test.YtdbglpaejmhbjaaDoorW14
namespace Go.Proofs.YtdbglpaejmhbjaaDoor
open Go Go.RowKit Go.Proofs
set_option linter.unusedSimpArgs false
set_option linter.unusedVariables false

theorem right_of_sm_ {v : T2} (h : Sm 100000 v) : rightB v = true := by
  unfold Sm at h
  simp only [rightB, smallB, withinB, Bool.and_eq_true, decide_eq_true_eq]
  have e : wrap64 (-100000) = -100000 := by decide +kernel
  rw [e]
  omega
def subP (v o : T2) : T2 := (v.1 - o.1, v.2 - o.2)
def byP (s : Int) (o : T2) : T2 := (s * o.1, s * o.2)
def lin (v t : T2) : Int := (2 * v.1 - v.2) * t.1 + (2 * v.2 - v.1) * t.2
theorem norm_sub (v t : T2) (s : Int) : normP (subP v (byP s t)) = normP v - s * lin v t + s * (s * normP t) := by
  obtain ⟨a, b⟩ := v; obtain ⟨c, d⟩ := t
  simp only [normP, subP, byP, lin]; grind
theorem lin_of_norm {v t u : T2} {s : Int} (hs : 0 < s) (h : normP (subP v (byP s t)) ≤ normP (subP v (byP s u))) : lin v u - lin v t ≤ s * (normP u - normP t) := by
  rw [norm_sub, norm_sub] at h
  have h2 : s * (lin v u - lin v t) ≤ s * (s * (normP u - normP t)) := by
    rw [Int.mul_sub, Int.mul_sub, Int.mul_sub]; omega
  exact Int.le_of_mul_le_mul_left h2 hs
/-- Within so much of 0, in the three directions. -/
def Nr (m : Int) (v : T2) : Prop := -m ≤ 2 * v.1 - v.2 ∧ 2 * v.1 - v.2 ≤ m ∧ -m ≤ 2 * v.2 - v.1 ∧ 2 * v.2 - v.1 ≤ m ∧ -m ≤ v.1 + v.2 ∧ v.1 + v.2 ≤ m
def stsL : List T2 := [(0,0), (-1,-1), (0,1), (-1,0), (1,0), (0,-1), (1,1), (0,0)]
theorem near_rest {v t : T2} {s : Int} (hs : 0 < s) (hv : Nr (2 * s) v) (ht : t ∈ stsL) (h : ∀ u ∈ stsL, normP (subP v (byP s t)) ≤ normP (subP v (byP s u))) : Nr s (subP v (byP s t)) := by
  have l := fun u hu => lin_of_norm hs (h u hu)
  obtain ⟨a, b⟩ := v
  simp only [stsL, List.mem_cons, List.not_mem_nil, or_false] at ht
  have l0 := l (0,0) (by decide)
  have l1 := l (-1,-1) (by decide)
  have l2 := l (0,1) (by decide)
  have l3 := l (-1,0) (by decide)
  have l4 := l (1,0) (by decide)
  have l5 := l (0,-1) (by decide)
  have l6 := l (1,1) (by decide)
  clear l h
  simp only [Nr] at hv
  rcases ht with rfl | rfl | rfl | rfl | rfl | rfl | rfl | rfl <;> simp only [lin, normP, Nr, subP, byP] at * <;> omega
/-- What the search comes to: the first guess, or one of the list. -/
theorem nearL_form (s : Int) (v : T2) : ∀ (l : List (Int × T2)) (b : Int) (z : T2), (nearL s v l b z = (b, z)) ∨ ∃ k x, (k, x) ∈ l ∧ nearL s v l b z = (k, subW v (byW x s))
  | [], b, z => .inl rfl
  | (k, x) :: r, b, z => by
    simp only [nearL]
    split
    · rcases nearL_form s v r k (subW v (byW x s)) with h | ⟨k', x', h1, h2⟩
      · exact .inr ⟨k, x, by simp, h⟩
      · exact .inr ⟨k', x', by simp [h1], h2⟩
    · rcases nearL_form s v r b z with h | ⟨k', x', h1, h2⟩
      · exact .inl h
      · exact .inr ⟨k', x', by simp [h1], h2⟩
theorem nearL_min (s : Int) (v : T2) : ∀ (l : List (Int × T2)) (b : Int) (z : T2), normW (nearL s v l b z).2 ≤ normW z ∧ ∀ k x, (k, x) ∈ l → normW (nearL s v l b z).2 ≤ normW (subW v (byW x s))
  | [], b, z => ⟨Int.le_refl _, fun _ _ h => by simp at h⟩
  | (k, x) :: r, b, z => by
    simp only [nearL]
    split
    · rename_i hlt
      obtain ⟨h1, h2⟩ := nearL_min s v r k (subW v (byW x s))
      refine ⟨by omega, fun k' x' hm => ?_⟩
      simp only [List.mem_cons, Prod.mk.injEq] at hm
      rcases hm with ⟨rfl, rfl⟩ | hm
      · exact h1
      · exact h2 k' x' hm
    · rename_i hlt
      obtain ⟨h1, h2⟩ := nearL_min s v r b z
      refine ⟨h1, fun k' x' hm => ?_⟩
      simp only [List.mem_cons, Prod.mk.injEq] at hm
      rcases hm with ⟨rfl, rfl⟩ | hm
      · omega
      · exact h2 k' x' hm
theorem stT_mem {k : Int} {x : T2} (h : (k, x) ∈ stT) : x = stV k ∧ withinB k 0 7 = true ∧ x ∈ stsL := by
  simp only [stT, List.mem_cons, List.not_mem_nil, or_false, Prod.mk.injEq] at h
  rcases h with ⟨rfl, rfl⟩ | ⟨rfl, rfl⟩ | ⟨rfl, rfl⟩ | ⟨rfl, rfl⟩ | ⟨rfl, rfl⟩ | ⟨rfl, rfl⟩ | ⟨rfl, rfl⟩ | ⟨rfl, rfl⟩ <;> decide
theorem sts_stT {u : T2} (h : u ∈ stsL) : ∃ k, (k, u) ∈ stT := by
  simp only [stsL, List.mem_cons, List.not_mem_nil, or_false] at h
  rcases h with rfl | rfl | rfl | rfl | rfl | rfl | rfl | rfl
  · exact ⟨0, by decide⟩
  · exact ⟨1, by decide⟩
  · exact ⟨2, by decide⟩
  · exact ⟨3, by decide⟩
  · exact ⟨4, by decide⟩
  · exact ⟨5, by decide⟩
  · exact ⟨6, by decide⟩
  · exact ⟨7, by decide⟩
/-- A vector that is a sum: its parts are as Go leaves them. -/
theorem nearW_form (s : Int) (l c : T2) : withinB (nearW s (addW l c)).1 0 7 = true ∧ (nearW s (addW l c)).2 = subW (addW l c) (byW (stV (nearW s (addW l c)).1) s) := by
  unfold nearW
  rcases nearL_form s (addW l c) stT 0 (addW l c) with h | ⟨k, x, hm, h⟩
  · rw [h]
    refine ⟨rfl, ?_⟩
    have e : stV 0 = (0, 0) := by decide
    simp only [e, subW, byW, addW, Int.mul_zero]
    ext <;> simp only <;> unfold wrap64 <;> omega
  · obtain ⟨h1, h2, _⟩ := stT_mem hm
    rw [h, ← h1]
    exact ⟨h2, rfl⟩
theorem stV_small {k : Int} (h : withinB k 0 7 = true) : withinB (stV k).1 (-2) 2 = true ∧ withinB (stV k).2 (-2) 2 = true := by
  obtain rfl | rfl | rfl | rfl | rfl | rfl | rfl | rfl := eight h <;> decide
/-- What was sent and what is left come to what was wanted. -/
theorem left_sum (s : Int) (a b c x l l' : T2) (hl : l = subW a b) (hl' : l' = subW (addW l c) (byW x s)) : l' = subW (addW a c) (addW b (byW x s)) := by
  subst hl; subst hl'
  simp only [subW, addW, byW]
  ext <;> simp only
  · generalize s * x.1 = m; unfold wrap64; omega
  · generalize s * x.2 = m; unfold wrap64; omega
theorem Nr.sm {m : Int} {v : T2} (h : Nr m v) : Sm m v := by unfold Nr at h; unfold Sm; omega
theorem nr_of_near {s : Int} {v : T2} (hs : 1 ≤ s ∧ s ≤ 100000) (hv : Sm 100000 v) (h : nearB s v = true) : Nr s v := by
  unfold Sm at hv
  simp only [nearB, p3L, splitW, List.all_cons, List.all_nil, Bool.and_true, Bool.and_eq_true, smallB, withinB, decide_eq_true_eq] at h
  rw [wrap64_small (n := 2 * v.1) (by omega) (by omega), wrap64_small (n := 2 * v.2) (by omega) (by omega), wrap64_small (n := 2 * v.1 - v.2) (by omega) (by omega), wrap64_small (n := 2 * v.2 - v.1) (by omega) (by omega),
    wrap64_small (n := -v.1) (by omega) (by omega), wrap64_small (n := -v.1 - v.2) (by omega) (by omega), wrap64_small (n := -s) (by omega) (by omega)] at h
  unfold Nr; omega
theorem near_of_nr {s : Int} {v : T2} (hs : 1 ≤ s ∧ s ≤ 100000) (h : Nr s v) : nearB s v = true ∧ rightB v = true := by
  have hv := h.sm
  refine ⟨?_, right_of_sm_ (hv.mono hs.2)⟩
  unfold Sm at hv
  unfold Nr at h
  simp only [nearB, p3L, splitW, List.all_cons, List.all_nil, Bool.and_true, Bool.and_eq_true, smallB, withinB, decide_eq_true_eq]
  rw [wrap64_small (n := 2 * v.1) (by omega) (by omega), wrap64_small (n := 2 * v.2) (by omega) (by omega), wrap64_small (n := 2 * v.1 - v.2) (by omega) (by omega), wrap64_small (n := 2 * v.2 - v.1) (by omega) (by omega),
    wrap64_small (n := -v.1) (by omega) (by omega), wrap64_small (n := -v.1 - v.2) (by omega) (by omega), wrap64_small (n := -s) (by omega) (by omega)]
  omega
/-- One pulse keeps the rest near. -/
theorem near_next {s : Int} {l c : T2} (hs : 1 ≤ s ∧ s ≤ 100000) (hl : Nr s l) (hc : Nr s c) : Nr s (nearW s (addW l c)).2 := by
  have e : addW l c = (l.1 + c.1, l.2 + c.2) := by
    have h1 := hl.sm; have h2 := hc.sm
    unfold Sm at h1 h2
    unfold addW
    rw [wrap64_small (by omega) (by omega), wrap64_small (by omega) (by omega)]
  have hv : Nr (2 * s) (addW l c) := by rw [e]; unfold Nr at *; simp only; omega
  have hsm := hv.sm
  generalize addW l c = v at *
  have small : ∀ u ∈ stsL, subW v (byW u s) = subP v (byP s u) ∧ Sm 1000000 (subP v (byP s u)) := fun u hu => by
    unfold Sm at hsm ⊢
    simp only [stsL, List.mem_cons, List.not_mem_nil, or_false] at hu
    rcases hu with rfl | rfl | rfl | rfl | rfl | rfl | rfl | rfl <;> simp only [subW, byW, subP, byP, Int.mul_zero, Int.mul_one, Int.mul_neg] <;>
      refine ⟨?_, by omega⟩ <;> ext <;> simp only <;> unfold wrap64 <;> omega
  obtain ⟨m1, m2⟩ := nearL_min s v stT 0 v
  have norm : ∀ z, Sm 1000000 z → normW z = normP z := fun z hz => normW_eq z 1000000 hz (by omega)
  have hform : ∃ t ∈ stsL, (nearW s v).2 = subP v (byP s t) := by
    unfold nearW
    rcases nearL_form s v stT 0 v with h | ⟨k, x, hm, h⟩
    · rw [h]; exact ⟨(0, 0), by decide, by simp [subP, byP]⟩
    · rw [h]; obtain ⟨_, _, h3⟩ := stT_mem hm; exact ⟨x, h3, (small x h3).1⟩
  obtain ⟨t, ht, hz⟩ := hform
  rw [hz]
  refine near_rest (by omega) hv ht fun u hu => ?_
  obtain ⟨k, hk⟩ := sts_stT hu
  have h := m2 k u hk
  have hz' : (nearL s v stT 0 v).2 = subP v (byP s t) := hz
  rw [hz', (small u hu).1, norm _ (small t ht).2, norm _ (small u hu).2] at h
  exact h
end Go.Proofs.YtdbglpaejmhbjaaDoor
