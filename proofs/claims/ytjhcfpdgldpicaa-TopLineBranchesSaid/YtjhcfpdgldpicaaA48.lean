/- Lemmas for the statement. -/
import Derived.Test.YtjhcfpdgldpicaaA47
import Derived.Test.YtjhcfpdgldpicaaA42
namespace Go.Proofs.Ytjhcfpdgldpicaa
open Go Go.RowKit Go.Proofs
set_option linter.unusedSimpArgs false
set_option linter.unusedVariables false
structure Fam (mem : List Ob) (f : Nat → Nat) (n i x e w : Nat) (r : Nat → List (List AV)) (lo hi k : Nat) : Prop where
 at_ : ∀ q, q < n → q ≠ i → mem[f q]? = some (.row e w (r q))
 inj : ∀ a b, a < n → b < n → f a = f b → a = b
 lo : ∀ q, q < n → lo ≤ f q
 hi : ∀ q, q < n → f q < hi
 ne : ∀ q, q < n → f q ≠ k
 out : ∀ q, q < n → q ≠ i → f q ≠ x
section
variable {mem m : List Ob} {f : Nat → Nat} {n i x e w : Nat} {r : Nat → List (List AV)} {lo hi k : Nat}
theorem Fam.zero (mem : List Ob) (f : Nat → Nat) (i x e w : Nat) (r : Nat → List (List AV)) (lo hi k : Nat) : Fam mem f 0 i x e w r lo hi k := ⟨fun q h => absurd h (by omega), fun a b h => absurd h (by omega), fun q h => absurd h (by omega), fun q h => absurd h (by omega), fun q h => absurd h (by omega), fun q h => absurd h (by omega)⟩
theorem Fam.of_same (h : Fam mem f n i x e w r lo hi k) (hm : ∀ q, q < n → q ≠ i → m[f q]? = mem[f q]?) : Fam m f n i x e w r lo hi k :=
 ⟨fun q h1 h2 => (hm q h1 h2).trans (h.at_ q h1 h2), h.inj, h.lo, h.hi, h.ne, h.out⟩
theorem Fam.push (h : Fam mem f n i x e w r lo hi k) {o : Ob} (hm : m = mem ++ [o]) : Fam m f n i x e w r lo hi k :=
 ⟨fun q h1 h2 => m_push_o hm (h.at_ q h1 h2), h.inj, h.lo, h.hi, h.ne, h.out⟩
theorem Fam.miss (h : Fam mem f n i x e w r lo hi k) {j : Nat} (hj : j < lo ∨ hi ≤ j ∨ j = k ∨ j = x) : ∀ q, q < n → q ≠ i → f q ≠ j := fun q h1 h2 he => by
 have b1 := h.lo q h1
 have b2 := h.hi q h1
 have b3 := h.ne q h1
 have b4 := h.out q h1 h2
 omega
theorem Fam.set_o (h : Fam mem f n i x e w r lo hi k) {j : Nat} {o : Ob} (hm : m = mem.set j o) (hj : j < lo ∨ hi ≤ j ∨ j = k ∨ j = x) : Fam m f n i x e w r lo hi k :=
 h.of_same fun q h1 h2 => by subst hm; rw [List.getElem?_set_ne (fun e => h.miss hj q h1 h2 e.symm)]
theorem Fam.wide (h : Fam mem f n i x e w r lo hi k) {hi2 : Nat} (h2 : hi ≤ hi2) : Fam mem f n i x e w r lo hi2 k := ⟨h.at_, h.inj, h.lo, fun q hq => Nat.lt_of_lt_of_le (h.hi q hq) h2, h.ne, h.out⟩
theorem Fam.congr (h : Fam mem f n i x e w r lo hi k) {f' : Nat → Nat} {r' : Nat → List (List AV)} (hf : ∀ q, q < n → f' q = f q) (hr : ∀ q, q < n → q ≠ i → r' q = r q) : Fam mem f' n i x e w r' lo hi k :=
 ⟨fun q h1 h2 => by rw [hf q h1, hr q h1 h2]; exact h.at_ q h1 h2, fun a b ha hb hab => h.inj a b ha hb (by rw [← hf a ha, ← hf b hb]; exact hab), fun q hq => by rw [hf q hq]; exact h.lo q hq, fun q hq => by rw [hf q hq]; exact h.hi q hq, fun q hq => by rw [hf q hq]; exact h.ne q hq, fun q h1 h2 => by rw [hf q h1]; exact h.out q h1 h2⟩
theorem Fam.take (h : Fam mem f n n k e w r lo hi k) {q : Nat} (hq : q < n) : mem[f q]? = some (.row e w (r q)) ∧ Fam mem f n q (f q) e w r lo hi k :=
 ⟨h.at_ q hq (by omega), fun a h1 h2 => h.at_ a h1 (by omega), h.inj, h.lo, h.hi, h.ne, fun a h1 h2 he => h2 (h.inj a q h1 hq he)⟩
theorem Fam.give (h : Fam mem f n i (f i) e w r lo hi k) (hi2 : i < n) {els : List (List AV)} (hm : mem[f i]? = some (.row e w els)) : Fam mem f n n k e w (fun q => if q = i then els else r q) lo hi k :=
 ⟨fun q h1 h2 => by
  by_cases hqi : q = i
  ·subst hqi; simp only [if_true]; exact hm
  ·simp only [if_neg hqi]; exact h.at_ q h1 hqi, h.inj, h.lo, h.hi, h.ne, fun q h1 h2 => h.ne q h1⟩
theorem Fam.rek (h : Fam mem f n n k e w r lo hi k) {k' : Nat} (hk : hi ≤ k' ∨ k' < lo) : Fam mem f n n k' e w r lo hi k' :=
 ⟨h.at_, h.inj, h.lo, h.hi, fun q hq => by have a := h.lo q hq; have b := h.hi q hq; omega, fun q hq _ => by have a := h.lo q hq; have b := h.hi q hq; omega⟩
theorem Fam.more (h : Fam mem f n n k e w r lo hi k) {j : Nat} {els : List (List AV)} (hj : mem[j]? = some (.row e w els)) (h1 : lo ≤ j) (h1' : hi ≤ j) (h2 : j ≠ k) {f' : Nat → Nat} {r' : Nat → List (List AV)} (hf : ∀ q, q < n → f' q = f q) (hfn : f' n = j) (hr : ∀ q, q < n → r' q = r q) (hrn : r' n = els) : Fam mem f' (n + 1) (n + 1) k e w r' lo (j + 1) k := by
 have cs : ∀ q, q < n + 1 → q = n ∨ q < n := fun q hq => by omega
 have hne : ∀ q, q < n → f q ≠ j := fun q hq => by have := h.hi q hq; omega
 refine ⟨fun q hq _ => ?_, fun a b ha hb hab => ?_, fun q hq => ?_, fun q hq => ?_, fun q hq => ?_, fun q hq _ => ?_⟩
 ·rcases cs q hq with rfl | hq
  ·rw [hfn, hrn]; exact hj
  ·rw [hf q hq, hr q hq]; exact h.at_ q hq (by omega)
 ·rcases cs a ha with rfl | ha <;> rcases cs b hb with rfl | hb
  ·rfl
  ·rw [hfn, hf b hb] at hab; exact absurd hab.symm (hne b hb)
  ·rw [hfn, hf a ha] at hab; exact absurd hab (hne a ha)
  ·rw [hf a ha, hf b hb] at hab; exact h.inj a b ha hb hab
 ·rcases cs q hq with rfl | hq
  ·rw [hfn]; exact h1
  ·rw [hf q hq]; exact h.lo q hq
 ·rcases cs q hq with rfl | hq
  ·rw [hfn]; omega
  ·rw [hf q hq]; have := h.hi q hq; omega
 ·rcases cs q hq with rfl | hq
  ·rw [hfn]; exact h2
  ·rw [hf q hq]; exact h.ne q hq
 ·rcases cs q hq with rfl | hq
  ·rw [hfn]; exact h2
  ·rw [hf q hq]; exact h.ne q hq
end
end Go.Proofs.Ytjhcfpdgldpicaa
