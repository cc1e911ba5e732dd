/- Plain facts: the least and the greatest force. -/
import Derived.Test.YtdbglpaejmhbjaaDoorS2
namespace Go.Proofs.YtdbglpaejmhbjaaDoor
open Go Go.RowKit Go.Proofs
set_option linter.unusedSimpArgs false
set_option linter.unusedVariables false

def loN (g : Nat → Int) : Nat → Int
  | 0 => 0
  | k + 1 => if k = 0 then g 0 else min (loN g k) (g k)
def hiN (g : Nat → Int) : Nat → Int
  | 0 => 0
  | k + 1 => if k = 0 then g 0 else max (hiN g k) (g k)
theorem lohi (g : Nat → Int) : ∀ k, 0 < k → (∀ j, j < k → loN g k ≤ g j ∧ g j ≤ hiN g k) ∧ (∃ j, j < k ∧ g j = loN g k) ∧ (∃ j, j < k ∧ g j = hiN g k)
  | 0, h => by omega
  | k + 1, _ => by
    by_cases hk : k = 0
    · subst hk
      refine ⟨fun j hj => ?_, ⟨0, by omega, by simp [loN]⟩, ⟨0, by omega, by simp [hiN]⟩⟩
      obtain rfl : j = 0 := by omega
      simp [loN, hiN]
    · obtain ⟨h1, ⟨a, ha, ha2⟩, ⟨b, hb, hb2⟩⟩ := lohi g k (by omega)
      simp only [loN, hiN, if_neg hk]
      refine ⟨fun j hj => ?_, ?_, ?_⟩
      · by_cases hjk : j < k
        · have := h1 j hjk; omega
        · obtain rfl : j = k := by omega
          omega
      · by_cases hm : loN g k ≤ g k
        · exact ⟨a, by omega, by omega⟩
        · exact ⟨k, by omega, by omega⟩
      · by_cases hm : g k ≤ hiN g k
        · exact ⟨b, by omega, by omega⟩
        · exact ⟨k, by omega, by omega⟩
def gAt (f : T2) (cs : List T2) (k : Nat) : Int := forceOf f (cs.getD k (0, 0))
theorem gAt_eq {f : T2} {cs : List T2} {k : Nat} (h : k < cs.length) : gAt f cs k = forceOf f cs[k] := by simp [gAt, h]
theorem gAt_mem {f : T2} {cs : List T2} {g : Int} (h : g ∈ cs.map (forceOf f)) : ∃ j, j < cs.length ∧ gAt f cs j = g := by
  obtain ⟨c, h1, rfl⟩ := List.mem_map.1 h
  obtain ⟨j, hj, rfl⟩ := List.getElem_of_mem h1
  exact ⟨j, hj, gAt_eq hj⟩
theorem evenB_iff {f : T2} {cs : List T2} (h : 0 < cs.length) : evenB cs f = decide (loN (gAt f cs) cs.length = hiN (gAt f cs) cs.length) := by
  obtain ⟨h1, ⟨a, ha, ha2⟩, ⟨b, hb, hb2⟩⟩ := lohi (gAt f cs) cs.length h
  cases cs with
  | nil => simp at h
  | cons c cs =>
    have h0 := h1 0 h
    have g0 : gAt f (c :: cs) 0 = forceOf f c := by simp [gAt]
    cases he : evenB (c :: cs) f with
    | true =>
      symm
      have hall : ∀ x ∈ c :: cs, forceOf f x = forceOf f c := fun x hx => by
        have h2 : ((c :: cs).any fun x => forceOf f x != forceOf f c) = false := by simpa [evenB] using he
        have := List.any_eq_false.1 h2 x hx
        simpa using this
      rw [gAt_eq ha, hall _ (List.getElem_mem ha)] at ha2
      rw [gAt_eq hb, hall _ (List.getElem_mem hb)] at hb2
      exact decide_eq_true (by omega)
    | false =>
      symm
      refine decide_eq_false fun heq => ?_
      have h2 : ((c :: cs).any fun x => forceOf f x != forceOf f c) = true := by simpa [evenB] using he
      obtain ⟨x, hx, hne⟩ := List.any_eq_true.1 h2
      obtain ⟨j, hj, rfl⟩ := List.getElem_of_mem hx
      have h3 := h1 j hj
      rw [gAt_eq hj] at h3
      rw [g0] at h0
      have : forceOf f (c :: cs)[j] = forceOf f c := by omega
      simp [this] at hne
/-- The law of no step, in numbers. -/
structure NoStep (F Gs lo hi q : Int) (even : Bool) : Prop where
  nn : 0 ≤ Gs
  le : Gs ≤ hi - lo
  sub : wrap64 (hi - lo) = hi - lo
  ev : even = decide (lo = hi)
  fo : lo = hi → Gs = 0 ∧ wrap64 (q * lo) = F
theorem noStep (f : T2) (hf : rightB f = true) (ls : List Int) (cs : List T2) (p q : Int) (k : Nat) (hp : 0 ≤ p) (hq : 1 ≤ q) (hq2 : q ≤ 1000000) (hpq : p + q + k ≤ sumP ls) (hl : ls.length = cs.length) (hn : ls.length ≤ 12) (h0 : 0 < cs.length) (h : Lens ls) (hc : cs.all rightB = true) :
    NoStep (forceL f (overL p q 0 ls) cs 0) (gsN (fun x => forceL f (overL x q 0 ls) cs 0) p k) (loN (gAt f cs) cs.length) (hiN (gAt f cs) cs.length) q (evenB cs f) := by
  obtain ⟨h1, ⟨a, ha, ha2⟩, ⟨b, hb, hb2⟩⟩ := lohi (gAt f cs) cs.length h0
  have hsz := forceOf_sz hf hc
  have sa := hsz (gAt f cs a) (by rw [gAt_eq ha]; exact List.mem_map_of_mem (List.getElem_mem ha))
  have sb := hsz (gAt f cs b) (by rw [gAt_eq hb]; exact List.mem_map_of_mem (List.getElem_mem hb))
  rw [ha2] at sa
  rw [hb2] at sb
  have hab := h1 a ha
  have hev := evenB_iff (f := f) h0
  generalize loN (gAt f cs) cs.length = lo at *
  generalize hiN (gAt f cs) cs.length = hi at *
  have hg : ∀ g ∈ cs.map (forceOf f), lo ≤ g ∧ g ≤ hi := fun g hg => by
    obtain ⟨j, hj, rfl⟩ := gAt_mem hg
    exact h1 j hj
  have hs := step_le f hf ls cs p q lo hi hp hq hl hn h hc hg (by omega) (by omega) (by omega) k hpq
  refine ⟨hs.1, hs.2, wrap64_small (by omega) (by omega), hev, fun he => ⟨by omega, ?_⟩⟩
  subst he
  rw [even_force f hf ls cs p q lo hp hq (by omega) hl hn h hc (fun y hy => by have := hg y hy; omega)]
  have hm := mul_sz q lo 40000000000 (by omega) ⟨by omega, by omega⟩
  exact wrap64_small (by omega) (by omega)
end Go.Proofs.YtdbglpaejmhbjaaDoor
