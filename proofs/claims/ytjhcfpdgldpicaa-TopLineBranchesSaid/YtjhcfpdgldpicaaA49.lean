/- Lemmas for the statement. -/
import Derived.Test.YtjhcfpdgldpicaaA48
namespace Go.Proofs.Ytjhcfpdgldpicaa
open Go Go.RowKit Go.Proofs
set_option linter.unusedSimpArgs false
set_option linter.unusedVariables false
section
variable {P : Program} {N : Nat} {Q : AQ} {e : Nat → AV}
theorem Fam.less {mem : List Ob} {f : Nat → Nat} {n e w : Nat} {r : Nat → List (List AV)} {lo hi k : Nat} (h : Fam mem f (n + 1) (n + 1) k e w r lo hi k) : Fam mem f n n k e w r lo hi k :=
 ⟨fun q h1 h2 => h.at_ q (by omega) (by omega), fun i j hi hj => h.inj i j (by omega) (by omega), fun q hq => h.lo q (by omega), fun q hq => h.hi q (by omega), fun q hq => h.ne q (by omega), fun q hq _ => h.ne q (by omega)⟩
theorem aw_freezeAll {M : Mode} {c : Code} {f p : Nat → Nat} {eT kk e2 w k lo hi : Nat} {r : Nat → List (List AV)} : ∀ (n : Nat) (mem : List Ob) (els : List (List AV)), mem[k]? = some (.rowH eT kk els) → Fam mem f n n k e2 w r lo hi k →
 (∀ i, i < n → els.flatten[p i]? = some (.own (f i))) → (∀ i j, i < n → j < n → p i = p j → i = j) →
 (∀ (m1 : List Ob) (els1 : List (List AV)), m1.length = mem.length → m1[k]? = some (.rowH eT kk els1) → els1.length = els.length → (∀ i, i < n → els1.flatten[p i]? = some (.row w (r i))) →
  (∀ q, (∀ i, i < n → p i ≠ q) → els1.flatten[q]? = els.flatten[q]?) → (∀ j, j ≠ k → (∀ i, i < n → f i ≠ j) → m1[j]? = mem[j]?) → (∀ K, (∀ l ∈ els, l.length = K) → ∀ l ∈ els1, l.length = K) → AW M P N c Q e m1) → AW M P N c Q e mem := by
 intro n
 induction n with
 | zero => intro mem els hk _ _ _ h; exact h mem els rfl hk rfl (fun i hi => absurd hi (by omega)) (fun _ _ => rfl) (fun _ _ _ => rfl) (fun _ h => h)
 | succ n ih =>
  intro mem els hk hf hp hpi h
  have hne := hf.ne n (by omega)
  refine aw_freezeH hk (hf.at_ n (by omega) (by omega)) hne (hp n (by omega)) fun m1 hm1 => ?_
  have hkl : k < mem.length := (List.getElem?_eq_some_iff.1 hk).1
  have hk1 : m1[k]? = some (.rowH eT kk (setF els (p n) (.row w (r n)))) := by rw [hm1, List.getElem?_set_self (by simpa using hkl)]
  have hf1 : Fam (mem.set (f n) .gone) f n n k e2 w r lo hi k := hf.less.of_same fun q h1 _ => by rw [List.getElem?_set_ne fun he => by have := hf.inj n q (by omega) (by omega) he; omega]
  have hf2 : Fam m1 f n n k e2 w r lo hi k := hf1.set_o hm1 (.inr (.inr (.inl rfl)))
  have hfl := setF_flat els (p n) (.row w (r n))
  have hlt : p n < els.flatten.length := (List.getElem?_eq_some_iff.1 (hp n (by omega))).1
  refine ih m1 _ hk1 hf2 (fun i hi2 => ?_) (fun i j a b => hpi i j (by omega) (by omega)) fun m2 els2 l1 l2 l3 l4 l5 l6 l7 => ?_
  ·rw [hfl, List.getElem?_set_ne (fun he => by have := hpi i n (by omega) (by omega) he.symm; omega)]
   exact hp i (by omega)
  ·refine h m2 els2 (by rw [l1, hm1]; simp) l2 (by rw [l3, setF_len]) (fun i hi2 => ?_) (fun q hq => ?_) (fun j hj hq => ?_) fun K hK => l7 K (setF_all els _ _ K hK)
   ·by_cases hin : i = n
    ·subst hin
     rw [l5 (p i) (fun q hq he => by have := hpi q i (by omega) (by omega) he; omega), hfl, List.getElem?_set_self hlt]
    ·exact l4 i (by omega)
   ·rw [l5 q (fun i hi2 => hq i (by omega)), hfl, List.getElem?_set_ne (hq n (by omega))]
   ·rw [l6 j hj (fun i hi2 => hq i (by omega)), hm1, List.getElem?_set_ne (fun he => hj he.symm), List.getElem?_set_ne (hq n (by omega))]
end
end Go.Proofs.Ytjhcfpdgldpicaa
