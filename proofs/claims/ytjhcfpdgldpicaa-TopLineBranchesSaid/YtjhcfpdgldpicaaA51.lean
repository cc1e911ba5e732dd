/- Lemmas for the statement. -/
import Derived.Test.YtjhcfpdgldpicaaA50
namespace Go.Proofs.Ytjhcfpdgldpicaa.FamR
open Go Go.RowKit Go.Proofs
set_option linter.unusedSimpArgs false
set_option linter.unusedVariables false
variable {mem m : List Ob} {f : Nat → Nat} {n a x e w : Nat} {r : Nat → List (List AV)} {lo hi k : Nat} {o : Ob} {i j K : Nat}
theorem m_push_o (hm : m = mem ++ [o]) (h : Fam mem f n a x e w r lo hi k) : Fam m f n a x e w r lo hi k := h.push hm
theorem m_set_o (hm : m = mem.set j o) (h : Fam mem f n a x e w r lo hi k) (hj : j < lo ∨ hi ≤ j ∨ j = k ∨ j = x) : Fam m f n a x e w r lo hi k := h.set_o hm hj
theorem m_swap_o (hm : m = mem.set j .gone ++ [o]) (h : Fam mem f n a x e w r lo hi k) (hj : j < lo ∨ hi ≤ j ∨ j = k ∨ j = x) : Fam m f n a x e w r lo hi k := m_push_o hm (m_set_o rfl h hj)
theorem m_room_o (hm : m = mem ++ List.replicate K .gone) (h : Fam mem f n a x e w r lo hi k) : Fam m f n a x e w r lo hi k :=
 ⟨fun q h1 h2 => Proofs.Ytjhcfpdgldpicaa.m_room_o hm (h.at_ q h1 h2), h.inj, h.lo, h.hi, h.ne, h.out⟩
theorem m_sw_o (hm : m = (mem.set i .gone).set j o) (h : Fam mem f n a x e w r lo hi k) (h1 : i < lo ∨ hi ≤ i ∨ i = k ∨ i = x) (h2 : j < lo ∨ hi ≤ j ∨ j = k ∨ j = x) : Fam m f n a x e w r lo hi k := m_set_o hm (m_set_o rfl h h1) h2
theorem m_ups_o {ts : List Nat} {xs : List Ob} (hm : m = ups ts xs mem) (hl : ts.length ≤ xs.length) (h : Fam mem f n a x e w r lo hi k) (hn : ∀ t ∈ ts, t < lo ∨ hi ≤ t ∨ t = k ∨ t = x) : Fam m f n a x e w r lo hi k :=
 ⟨fun q h1 h2 => Proofs.Ytjhcfpdgldpicaa.m_ups_o hm hl (h.at_ q h1 h2) (fun hm => h.miss (hn _ hm) q h1 h2 rfl), h.inj, h.lo, h.hi, h.ne, h.out⟩
end Go.Proofs.Ytjhcfpdgldpicaa.FamR
