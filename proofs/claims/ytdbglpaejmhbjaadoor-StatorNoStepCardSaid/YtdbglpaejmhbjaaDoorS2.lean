/- Plain facts on steps of force. -/
import Derived.Test.YtdbglpaejmhbjaaDoorG5
import Derived.Test.YtdbglpaejmhbjaaDoorW16
namespace Go.Proofs.YtdbglpaejmhbjaaDoor
open Go Go.RowKit Go.Proofs
set_option linter.unusedSimpArgs false
set_option linter.unusedVariables false
set_option autoImplicit false

def dotP : List Int → List Int → Int
  | v :: vs, c :: cs => v * c + dotP vs cs
  | _, _ => 0
/-- The number of the section at x. -/
def atP (x : Int) : Int → List Int → List Int → Int
  | f, l :: ls, c :: cs => (if f ≤ x ∧ x < f + l then c else 0) + atP x (f + l) ls cs
  | _, _, _ => 0
theorem dot_step (p q : Int) (hq : 1 ≤ q) : ∀ (ls cs : List Int) (f : Int), (∀ x ∈ ls, 0 ≤ x) →
    dotP (overP (p + 1) q f ls) cs - dotP (overP p q f ls) cs = atP (p + q) f ls cs - atP p f ls cs
  | [], _, _, _ => by simp [overP, dotP, atP]
  | l :: ls, [], _, _ => by simp [overP, dotP, atP]
  | l :: ls, c :: cs, f, h => by
    have h1 := h l (by simp)
    have h3 : ∀ x ∈ ls, 0 ≤ x := fun y hy => h y (by simp [hy])
    have ih := dot_step p q hq ls cs (f + l) h3
    simp only [overP, dotP, atP]
    have e : max 0 (min (f + l) (p + 1 + q) - max f (p + 1)) = max 0 (min (f + l) (p + q) - max f p) + (if f ≤ p + q ∧ p + q < f + l then 1 else 0) - (if f ≤ p ∧ p < f + l then 1 else 0) := by
      split <;> split <;> omega
    rw [e]
    generalize max 0 (min (f + l) (p + q) - max f p) = m
    split <;> split <;> grind
theorem at_out : ∀ (ls cs : List Int) (f x : Int), (∀ y ∈ ls, 0 ≤ y) → x < f → atP x f ls cs = 0
  | [], _, _, _, _, _ => by simp [atP]
  | l :: ls, [], _, _, _, _ => by simp [atP]
  | l :: ls, c :: cs, f, x, h, hx => by
    have h1 := h l (by simp)
    simp only [atP]
    rw [if_neg (by omega), at_out ls cs (f + l) x (fun y hy => h y (by simp [hy])) (by omega)]; simp
theorem at_mem (lo hi : Int) : ∀ (ls cs : List Int) (f x : Int), (∀ y ∈ ls, 0 ≤ y) → (∀ y ∈ cs, lo ≤ y ∧ y ≤ hi) → ls.length = cs.length → f ≤ x → x < f + sumP ls → lo ≤ atP x f ls cs ∧ atP x f ls cs ≤ hi
  | [], _, f, x, _, _, _, h1, h2 => by simp [sumP] at h2; omega
  | l :: ls, [], _, _, _, _, hl, _, _ => by simp at hl
  | l :: ls, c :: cs, f, x, h, hc, hl, h1, h2 => by
    have h3 : ∀ x ∈ ls, 0 ≤ x := fun y hy => h y (by simp [hy])
    simp only [atP]
    by_cases hx : x < f + l
    · rw [if_pos ⟨h1, hx⟩, at_out ls cs (f + l) x h3 hx]
      have := hc c (by simp); omega
    · rw [if_neg (by omega)]
      have := at_mem lo hi ls cs (f + l) x h3 (fun y hy => hc y (by simp [hy])) (by simpa using hl) (by omega) (by simp only [sumP] at h2; omega)
      omega
theorem dot_same (c : Int) : ∀ (vs cs : List Int), vs.length = cs.length → (∀ y ∈ cs, y = c) → dotP vs cs = sumP vs * c
  | [], _, _, _ => by simp [dotP, sumP]
  | v :: vs, [], hl, _ => by simp at hl
  | v :: vs, d :: cs, hl, h => by
    have h1 := h d (by simp)
    simp only [dotP, sumP, dot_same c vs cs (by simpa using hl) (fun y hy => h y (by simp [hy]))]
    subst h1; grind
/-- The size of a sum of products. -/
theorem mul_sz (v g M : Int) (hv : 0 ≤ v) (hg : -M ≤ g ∧ g ≤ M) : -(v * M) ≤ v * g ∧ v * g ≤ v * M := by
  constructor
  · have := Int.mul_le_mul_of_nonneg_left hg.1 hv
    rw [Int.mul_neg] at this; exact this
  · exact Int.mul_le_mul_of_nonneg_left hg.2 hv
theorem forceL_eq (f : T2) (hf : rightB f = true) : ∀ (vs : List Int) (cs : List T2) (s T : Int), Lens vs → vs.length = cs.length → cs.all rightB = true →
    -(T * 40000000000) ≤ s → s ≤ T * 40000000000 → 0 ≤ T → T + sumP vs ≤ 12000000 → forceL f vs cs s = s + dotP vs (cs.map (forceOf f))
  | [], cs, s, T, _, _, _, _, _, _, _ => by cases cs <;> simp [forceL, dotP]
  | v :: vs, [], _, _, _, hl, _, _, _, _, _ => by simp at hl
  | v :: vs, c :: cs, s, T, h, hl, hc, h1, h2, h3, h4 => by
    have hv := h.head
    have hb := sumP_bd h.tail
    simp only [List.all_cons, Bool.and_eq_true] at hc
    have hg := prod_sm hc.1 hf
    unfold Sm at hg
    have hm := mul_sz v (productW c f).2 40000000000 hv.1 ⟨by omega, by omega⟩
    simp only [sumP] at h4
    have e : forceOf f c = (productW c f).2 := rfl
    simp only [forceL, dotP, List.map_cons, e]
    generalize (productW c f).2 = g at *
    generalize v * g = vg at *
    rw [wrap64_small (n := vg) (by omega) (by omega), wrap64_small (n := s + vg) (by omega) (by omega),
      forceL_eq f hf vs cs (s + vg) (T + v) h.tail (by simpa using hl) hc.2 (by omega) (by omega) (by omega) (by omega)]
    omega
theorem force_plain (f : T2) (hf : rightB f = true) (ls : List Int) (cs : List T2) (p q : Int) (hp : 0 ≤ p) (hq : 1 ≤ q) (hpq : p + q ≤ sumP ls) (hl : ls.length = cs.length) (hn : ls.length ≤ 12) (h : Lens ls) (hc : cs.all rightB = true) :
    forceL f (overL p q 0 ls) cs 0 = dotP (overP p q 0 ls) (cs.map (forceOf f)) := by
  have hb := sumP_bd h
  rw [overL_eq p q (by omega) (by omega) ls 0 h (by omega) (by omega),
    forceL_eq f hf (overP p q 0 ls) cs 0 0 (over_lens p q ls 0 h) (by rw [over_length]; exact hl) hc (by omega) (by omega) (by omega) (by rw [over_sum p q (by omega) ls 0 h]; omega)]
  omega
theorem force_sz (vs gs : List Int) (M : Int) (hM : 0 ≤ M) : Lens vs → (∀ g ∈ gs, -M ≤ g ∧ g ≤ M) → vs.length = gs.length → -(sumP vs * M) ≤ dotP vs gs ∧ dotP vs gs ≤ sumP vs * M := by
  induction vs generalizing gs with
  | nil => intros; cases gs <;> simp [dotP, sumP]
  | cons v vs ih =>
    intro h hg hl
    cases gs with
    | nil => simp at hl
    | cons g gs =>
      have := ih gs h.tail (fun x hx => hg x (by simp [hx])) (by simpa using hl)
      have hm := mul_sz v g M h.head.1 (hg g (by simp))
      simp only [dotP, sumP]
      have e : (v + sumP vs) * M = v * M + sumP vs * M := by grind
      omega
theorem forceOf_sz {f : T2} (hf : rightB f = true) {cs : List T2} (hc : cs.all rightB = true) : ∀ g ∈ cs.map (forceOf f), -40000000000 ≤ g ∧ g ≤ 40000000000 := fun g hg => by
  obtain ⟨c, h1, rfl⟩ := List.mem_map.1 hg
  have := prod_sm (List.all_eq_true.1 hc c h1) hf
  unfold Sm at this
  unfold forceOf
  omega
theorem sizeW_le {d M : Int} (h1 : -M ≤ d) (h2 : d ≤ M) (hM : M ≤ 1000000000000000000) : sizeW (wrap64 d) ≤ M ∧ 0 ≤ sizeW (wrap64 d) := by
  unfold sizeW
  rw [wrap64_small (n := d) (by omega) (by omega), wrap64_small (n := -d) (by omega) (by omega)]
  omega
/-- No step is greater than the greatest difference. -/
theorem step_le (f : T2) (hf : rightB f = true) (ls : List Int) (cs : List T2) (p q lo hi : Int) (hp : 0 ≤ p) (hq : 1 ≤ q) (hl : ls.length = cs.length) (hn : ls.length ≤ 12) (h : Lens ls) (hc : cs.all rightB = true)
    (hg : ∀ g ∈ cs.map (forceOf f), lo ≤ g ∧ g ≤ hi) (hlo : -40000000000 ≤ lo) (hhi : hi ≤ 40000000000) (hle : lo ≤ hi) :
    ∀ k : Nat, p + q + k ≤ sumP ls → 0 ≤ gsN (fun x => forceL f (overL x q 0 ls) cs 0) p k ∧ gsN (fun x => forceL f (overL x q 0 ls) cs 0) p k ≤ hi - lo
  | 0, _ => by simp only [gsN]; omega
  | k + 1, hk => by
    have ih := step_le f hf ls cs p q lo hi hp hq hl hn h hc hg hlo hhi hle k (by omega)
    simp only [gsN]
    have e1 : p + (k : Int) + 1 = (p + k) + 1 := rfl
    rw [force_plain f hf ls cs (p + k + 1) q (by omega) hq (by omega) hl hn h hc, force_plain f hf ls cs (p + k) q (by omega) hq (by omega) hl hn h hc]
    have hnn : ∀ x ∈ ls, 0 ≤ x := fun x hx => (h x hx).1
    rw [dot_step (p + k) q hq ls (cs.map (forceOf f)) 0 hnn]
    have ha := at_mem lo hi ls (cs.map (forceOf f)) 0 (p + k + q) hnn hg (by simpa using hl) (by omega) (by omega)
    have hb := at_mem lo hi ls (cs.map (forceOf f)) 0 (p + k) hnn hg (by simpa using hl) (by omega) (by omega)
    have hz := sizeW_le (d := atP (p + k + q) 0 ls (cs.map (forceOf f)) - atP (p + k) 0 ls (cs.map (forceOf f))) (M := hi - lo) (by omega) (by omega) (by omega)
    omega
/-- Even currents: the force is that of one times the length. -/
theorem even_force (f : T2) (hf : rightB f = true) (ls : List Int) (cs : List T2) (p q g : Int) (hp : 0 ≤ p) (hq : 1 ≤ q) (hpq : p + q ≤ sumP ls) (hl : ls.length = cs.length) (hn : ls.length ≤ 12) (h : Lens ls) (hc : cs.all rightB = true)
    (hg : ∀ y ∈ cs.map (forceOf f), y = g) : forceL f (overL p q 0 ls) cs 0 = q * g := by
  rw [force_plain f hf ls cs p q hp hq hpq hl hn h hc, dot_same g _ _ (by rw [over_length]; simpa using hl) hg, over_sum p q (by omega) ls 0 h]
  have e : max 0 (min (0 + sumP ls) (p + q) - max 0 p) = q := by omega
  rw [e]
end Go.Proofs.YtdbglpaejmhbjaaDoor
