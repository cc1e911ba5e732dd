/- Texts of this claim, one behind the other: lemmas for the statement. -/
import Derived.Test.YtgiiedpambimoaaDoorM4
/- Plain facts of chapter 3 on pulses: what is left, and how near. No program in sight. -/
namespace Go.Proofs.YtgiiedpambimoaaDoor
open Go Go.RowKit Go.Proofs
set_option linter.unusedSimpArgs false
set_option linter.unusedVariables false

theorem w64 {n : Int} (h1 : -9000000000000000000 ≤ n) (h2 : n ≤ 9000000000000000000) : wrap64 n = n := by unfold wrap64; omega
def lin (v t : V2) : Int := (2 * v.1 - v.2) * t.1 + (2 * v.2 - v.1) * t.2
theorem sq_sub (v t : V2) (s : Int) : sqV (subV v (byV s t)) = sqV v - s * lin v t + s * (s * sqV t) := by
  obtain ⟨a, b⟩ := v; obtain ⟨c, d⟩ := t
  simp only [sqV, subV, byV, lin]; grind
theorem lin_of {v t u : V2} {s : Int} (hs : 0 < s) (h : sqV (subV v (byV s t)) ≤ sqV (subV v (byV s u))) : lin v u - lin v t ≤ s * (sqV u - sqV t) := by
  rw [sq_sub, sq_sub] at h
  have h2 : s * (lin v u - lin v t) ≤ s * (s * (sqV u - sqV t)) := by
    rw [Int.mul_sub, Int.mul_sub, Int.mul_sub]; omega
  exact Int.le_of_mul_le_mul_left h2 hs
/-- Within so much of 0, in the three directions. -/
def Nr (m : Int) (v : V2) : Prop := -m ≤ 2 * v.1 - v.2 ∧ 2 * v.1 - v.2 ≤ m ∧ -m ≤ 2 * v.2 - v.1 ∧ 2 * v.2 - v.1 ≤ m ∧ -m ≤ v.1 + v.2 ∧ v.1 + v.2 ≤ m
theorem near_rest {v t : V2} {s : Int} (hs : 0 < s) (hv : Nr (2 * s) v) (ht : t ∈ stA) (h : ∀ u ∈ stA, sqV (subV v (byV s t)) ≤ sqV (subV v (byV s u))) : Nr s (subV v (byV s t)) := by
  have l := fun u hu => lin_of hs (h u hu)
  obtain ⟨a, b⟩ := v
  simp only [stA, List.mem_cons, List.not_mem_nil, or_false] at ht
  have l0 := l (0,0) (by decide)
  have l1 := l (-1,-1) (by decide)
  have l2 := l (0,1) (by decide)
  have l3 := l (-1,0) (by decide)
  have l4 := l (1,0) (by decide)
  have l5 := l (0,-1) (by decide)
  have l6 := l (1,1) (by decide)
  clear l h
  simp only [Nr] at hv
  rcases ht with rfl | rfl | rfl | rfl | rfl | rfl | rfl | rfl <;> simp only [lin, sqV, Nr, subV, byV] at * <;> omega
theorem nearL_form (s : Int) (v : V2) : ∀ (l : List (Int × V2)) (b : Int) (z : V2), (nearL s v l b z = (b, z)) ∨ ∃ k x, (k, x) ∈ l ∧ nearL s v l b z = (k, subW v (byW x s))
  | [], b, z => .inl rfl
  | (k, x) :: r, b, z => by
    simp only [nearL]
    split
    · rcases nearL_form s v r k (subW v (byW x s)) with h | ⟨k', x', h1, h2⟩
      · exact .inr ⟨k, x, by simp, h⟩
      · exact .inr ⟨k', x', by simp [h1], h2⟩
    · rcases nearL_form s v r b z with h | ⟨k', x', h1, h2⟩
      · exact .inl h
      · exact .inr ⟨k', x', by simp [h1], h2⟩
theorem nearL_min (s : Int) (v : V2) : ∀ (l : List (Int × V2)) (b : Int) (z : V2), normW (nearL s v l b z).2 ≤ normW z ∧ ∀ k x, (k, x) ∈ l → normW (nearL s v l b z).2 ≤ normW (subW v (byW x s))
  | [], b, z => ⟨Int.le_refl _, fun _ _ h => by simp at h⟩
  | (k, x) :: r, b, z => by
    simp only [nearL]
    split
    · rename_i hlt
      obtain ⟨h1, h2⟩ := nearL_min s v r k (subW v (byW x s))
      refine ⟨by omega, fun k' x' hm => ?_⟩
      simp only [List.mem_cons, Prod.mk.injEq] at hm
      rcases hm with ⟨rfl, rfl⟩ | hm
      · exact h1
      · exact h2 k' x' hm
    · rename_i hlt
      obtain ⟨h1, h2⟩ := nearL_min s v r b z
      refine ⟨h1, fun k' x' hm => ?_⟩
      simp only [List.mem_cons, Prod.mk.injEq] at hm
      rcases hm with ⟨rfl, rfl⟩ | hm
      · omega
      · exact h2 k' x' hm
theorem stT_mem {k : Int} {x : V2} (h : (k, x) ∈ stT) : (0 ≤ k ∧ k ≤ 7) ∧ x = stA.getD k.toNat default ∧ x ∈ stA := by
  simp only [stT, List.mem_cons, List.not_mem_nil, or_false, Prod.mk.injEq] at h
  rcases h with ⟨rfl, rfl⟩ | ⟨rfl, rfl⟩ | ⟨rfl, rfl⟩ | ⟨rfl, rfl⟩ | ⟨rfl, rfl⟩ | ⟨rfl, rfl⟩ | ⟨rfl, rfl⟩ | ⟨rfl, rfl⟩ <;> decide
theorem stA_stT {u : V2} (h : u ∈ stA) : ∃ k, (k, u) ∈ stT := by
  simp only [stA, List.mem_cons, List.not_mem_nil, or_false] at h
  rcases h with rfl | rfl | rfl | rfl | rfl | rfl | rfl | rfl
  · exact ⟨0, by decide⟩
  · exact ⟨1, by decide⟩
  · exact ⟨2, by decide⟩
  · exact ⟨3, by decide⟩
  · exact ⟨4, by decide⟩
  · exact ⟨5, by decide⟩
  · exact ⟨6, by decide⟩
  · exact ⟨7, by decide⟩
theorem stA_bd {u : V2} (h : u ∈ stA) : Bd 1 u := by
  simp only [stA, List.mem_cons, List.not_mem_nil, or_false] at h
  rcases h with rfl | rfl | rfl | rfl | rfl | rfl | rfl | rfl <;> exact ⟨⟨by decide, by decide⟩, by decide, by decide⟩
theorem step_eq {v x : V2} {s : Int} (hv : Bd 1000000 v) (hx : x ∈ stA) (hs : 0 ≤ s ∧ s ≤ 100000) : subW v (byW x s) = subV v (byV s x) ∧ Bd 1100000 (subV v (byV s x)) := by
  obtain ⟨⟨a1, a2⟩, a3, a4⟩ := hv
  simp only [stA, List.mem_cons, List.not_mem_nil, or_false] at hx
  rcases hx with rfl | rfl | rfl | rfl | rfl | rfl | rfl | rfl <;> simp only [subW, byW, subV, byV, Int.mul_zero, Int.mul_one, Int.mul_neg] <;>
    refine ⟨?_, ⟨by simp only; omega, by simp only; omega⟩, by simp only; omega, by simp only; omega⟩ <;> ext <;> simp only <;> unfold wrap64 <;> omega
theorem norm_eq {v : V2} (h : Bd 1100000 v) : normW v = sqV v := by
  have m1 := mulBd h.1 h.1
  have m2 := mulBd h.1 h.2
  have m3 := mulBd h.2 h.2
  unfold normW sqV
  rw [w64 (n := v.1 * v.1) (by omega) (by omega), w64 (n := v.1 * v.2) (by omega) (by omega), w64 (n := v.2 * v.2) (by omega) (by omega), w64 (n := v.1 * v.1 - v.1 * v.2) (by omega) (by omega), w64 (by omega) (by omega)]
/-- The nearest state: which, what is left, and that none is nearer. -/
theorem near_one {v : V2} {s : Int} (hv : Bd 1000000 v) (hs : 0 ≤ s ∧ s ≤ 100000) : (0 ≤ (nearW s v).1 ∧ (nearW s v).1 ≤ 7) ∧ (nearW s v).2 = subV v (byV s (stA.getD (nearW s v).1.toNat default)) ∧ ∀ u ∈ stA, sqV (nearW s v).2 ≤ sqV (subV v (byV s u)) := by
  have form : (0 ≤ (nearW s v).1 ∧ (nearW s v).1 ≤ 7) ∧ (nearW s v).2 = subV v (byV s (stA.getD (nearW s v).1.toNat default)) ∧ Bd 1100000 (nearW s v).2 := by
    unfold nearW
    rcases nearL_form s v stT 0 v with h | ⟨k, x, hm, h⟩
    · rw [h]
      refine ⟨⟨Int.le_refl 0, by show (0 : Int) ≤ 7; decide⟩, ?_, hv.mono (by decide)⟩
      show v = subV v (byV s (0, 0))
      simp [subV, byV]
    · rw [h]
      obtain ⟨h1, h2, h3⟩ := stT_mem hm
      obtain ⟨e1, e2⟩ := step_eq hv h3 hs
      exact ⟨h1, by simp only; rw [e1, ← h2], by simp only; rw [e1]; exact e2⟩
  refine ⟨form.1, form.2.1, fun u hu => ?_⟩
  obtain ⟨k, hk⟩ := stA_stT hu
  have h := (nearL_min s v stT 0 v).2 k u hk
  obtain ⟨e1, e2⟩ := step_eq hv hu hs
  rw [e1, norm_eq e2] at h
  have e3 := norm_eq form.2.2
  unfold nearW at e3 ⊢
  rw [e3] at h
  exact h
theorem addW_eq {u v : V2} (hu : Bd 500000 u) (hv : Bd 100000 v) : addW u v = addV u v := by
  obtain ⟨⟨a1, a2⟩, a3, a4⟩ := hu
  obtain ⟨⟨b1, b2⟩, b3, b4⟩ := hv
  unfold addW addV
  rw [w64 (by omega) (by omega), w64 (by omega) (by omega)]
/-- The states of all pulses, and what is left behind each, one by one. -/
theorem modGo_at (s : Int) : ∀ (cs : List V2) (l : V2) (i : Nat), i < cs.length → (modGo s l cs).getD i default = nearW s (addW (if i = 0 then l else ((modGo s l cs).getD (i - 1) default).2) (cs.getD i default))
  | [], _, _, h => by simp at h
  | c :: cs, l, 0, _ => rfl
  | c :: cs, l, i + 1, h => by
    have ih := modGo_at s cs (nearW s (addW l c)).2 i (by simpa using h)
    have e1 : (modGo s l (c :: cs)).getD (i + 1) default = (modGo s (nearW s (addW l c)).2 cs).getD i default := rfl
    have e2 : (if i + 1 = 0 then l else ((modGo s l (c :: cs)).getD (i + 1 - 1) default).2) = (if i = 0 then (nearW s (addW l c)).2 else ((modGo s (nearW s (addW l c)).2 cs).getD (i - 1) default).2) := by
      rw [if_neg (Nat.succ_ne_zero i)]
      cases i with
      | zero => rfl
      | succ i => rw [if_neg (Nat.succ_ne_zero i)]; rfl
    rw [e1, ih, e2]; rfl
def lfP (s : Int) (cs : List V2) (i : Nat) : V2 := if i = 0 then (0, 0) else (moL s cs).getD (i - 1) default
theorem moL_at (s : Int) (cs : List V2) (i : Nat) : (moL s cs).getD i default = ((modGo s (0, 0) cs).getD i default).2 := by
  simp only [moL, List.getD_eq_getElem?_getD, List.getElem?_map]
  cases (modGo s (0, 0) cs)[i]? <;> rfl
theorem moS_at (s : Int) (cs : List V2) (i : Nat) : (moS s cs).getD i default = ((modGo s (0, 0) cs).getD i default).1 := by
  simp only [moS, List.getD_eq_getElem?_getD, List.getElem?_map]
  cases (modGo s (0, 0) cs)[i]? <;> rfl
theorem moL_len (s : Int) (cs : List V2) : (moL s cs).length = cs.length := by simp [moL, modGo_length]
theorem moS_len (s : Int) (cs : List V2) : (moS s cs).length = cs.length := by simp [moS, modGo_length]
/-- One pulse. -/
theorem pulse {s : Int} {cs : List V2} (hs : 1 ≤ s ∧ s ≤ 1000) (hc : ∀ v ∈ cs, Bd 1000 v) : ∀ i : Nat, i < cs.length → i ≤ 60 → Bd (2000 * i) (lfP s cs i) ∧ (0 ≤ (moS s cs).getD i default ∧ (moS s cs).getD i default ≤ 7) ∧
    (moL s cs).getD i default = subV (addV (lfP s cs i) (cs.getD i default)) (byV s (stA.getD ((moS s cs).getD i default).toNat default)) ∧ Bd (2000 * ((i : Int) + 1)) ((moL s cs).getD i default) ∧
    ∀ u ∈ stA, sqV ((moL s cs).getD i default) ≤ sqV (subV (addV (lfP s cs i) (cs.getD i default)) (byV s u)) := by
  intro i
  induction i with
  | zero =>
    intro hi _
    have hb : Bd 1000 (cs.getD 0 default) := Bd.getD hc (by decide) 0
    have e0 : addW (0, 0) (cs.getD 0 default) = addV (0, 0) (cs.getD 0 default) := addW_eq ⟨⟨by decide, by decide⟩, by decide, by decide⟩ (hb.mono (by decide))
    have hv : Bd 1000000 (addV (0, 0) (cs.getD 0 default)) := (add_bd (M := 0) ⟨⟨by decide, by decide⟩, by decide, by decide⟩ hb).mono (by decide)
    have h1 := modGo_at s cs (0, 0) 0 hi
    rw [if_pos rfl, e0] at h1
    obtain ⟨n1, n2, n3⟩ := near_one hv (s := s) (by omega)
    rw [moL_at, moS_at, h1]
    refine ⟨show Bd (2000 * ((0 : Nat) : Int)) (0, 0) from ⟨⟨by simp, by simp⟩, by simp, by simp⟩, n1, n2, ?_, n3⟩
    rw [n2]
    have hst : Bd 1 (stA.getD (nearW s (addV (0, 0) (cs.getD 0 default))).1.toNat default) := Bd.getD (fun u hu => stA_bd hu) (by decide) _
    generalize stA.getD (nearW s (addV (0, 0) (cs.getD 0 default))).1.toNat default = t at hst
    have m1 := mulBd (A := 1000) (a := s) (by omega) hst.1
    have m2 := mulBd (A := 1000) (a := s) (by omega) hst.2
    obtain ⟨⟨b1, b2⟩, b3, b4⟩ := hb
    refine ⟨⟨?_, ?_⟩, ?_, ?_⟩ <;> simp only [subV, addV, byV] <;> omega
  | succ i ih =>
    intro hi h60
    obtain ⟨_, _, _, g4, _⟩ := ih (by omega) (by omega)
    have hb : Bd 1000 (cs.getD (i + 1) default) := Bd.getD hc (by decide) _
    have el : lfP s cs (i + 1) = (moL s cs).getD i default := by unfold lfP; rw [if_neg (by omega)]; rfl
    have hl : Bd (2000 * ((i : Int) + 1)) (lfP s cs (i + 1)) := by rw [el]; exact g4
    have e0 : addW (lfP s cs (i + 1)) (cs.getD (i + 1) default) = addV (lfP s cs (i + 1)) (cs.getD (i + 1) default) := addW_eq (hl.mono (by omega)) (hb.mono (by decide))
    have hv : Bd 1000000 (addV (lfP s cs (i + 1)) (cs.getD (i + 1) default)) := (add_bd hl hb).mono (by omega)
    have h1 := modGo_at s cs (0, 0) (i + 1) hi
    rw [if_neg (by omega), Nat.add_sub_cancel, ← moL_at, ← el, e0] at h1
    obtain ⟨n1, n2, n3⟩ := near_one hv (s := s) (by omega)
    rw [moL_at, moS_at, h1]
    refine ⟨hl.mono (by omega), n1, n2, ?_, n3⟩
    rw [n2]
    have hst : Bd 1 (stA.getD (nearW s (addV (lfP s cs (i + 1)) (cs.getD (i + 1) default))).1.toNat default) := Bd.getD (fun u hu => stA_bd hu) (by decide) _
    generalize stA.getD (nearW s (addV (lfP s cs (i + 1)) (cs.getD (i + 1) default))).1.toNat default = t at hst
    have m1 := mulBd (A := 1000) (a := s) (by omega) hst.1
    have m2 := mulBd (A := 1000) (a := s) (by omega) hst.2
    generalize lfP s cs (i + 1) = l at *
    obtain ⟨⟨b1, b2⟩, b3, b4⟩ := hb
    obtain ⟨⟨c1, c2⟩, c3, c4⟩ := hl
    refine ⟨⟨?_, ?_⟩, ?_, ?_⟩ <;> simp only [subV, addV, byV] <;> omega
/-- All wants are near: so is what is left. -/
theorem pulse_near {s : Int} {cs : List V2} (hs : 1 ≤ s ∧ s ≤ 1000) (hc : ∀ v ∈ cs, Bd 1000 v) (hn : ∀ v ∈ cs, Nr s v) : ∀ i : Nat, i < cs.length → i ≤ 60 → Nr s ((moL s cs).getD i default) := by
  intro i
  induction i with
  | zero =>
    intro hi h60
    obtain ⟨_, g2, g3, _, g5⟩ := pulse hs hc 0 hi (by omega)
    have hnr := hn _ (getD_mem hi)
    rw [g3] at g5 ⊢
    refine near_rest (by omega) ?_ (getD_mem (by show _ < 8; omega)) g5
    unfold Nr at hnr ⊢
    simp only [lfP, if_pos, addV]; omega
  | succ i ih =>
    intro hi h60
    have hp := ih (by omega) (by omega)
    obtain ⟨_, g2, g3, _, g5⟩ := pulse hs hc (i + 1) hi (by omega)
    have hnr := hn _ (getD_mem hi)
    have el : lfP s cs (i + 1) = (moL s cs).getD i default := by unfold lfP; rw [if_neg (by omega)]; rfl
    rw [g3] at g5 ⊢
    refine near_rest (by omega) ?_ (getD_mem (by show _ < 8; omega)) g5
    rw [el]
    unfold Nr at hnr hp ⊢
    simp only [addV]; omega
/-- The force, of sums. -/
theorem force_add (u v f : V2) : (prodV (addV u v) f).2 = (prodV u f).2 + (prodV v f).2 := by simp only [prodV, mulV, addV, conjV]; grind
theorem force_sub (u v f : V2) : (prodV (subV u v) f).2 = (prodV u f).2 - (prodV v f).2 := by simp only [prodV, mulV, subV, conjV]; grind
theorem force_zero (f : V2) : (prodV (0, 0) f).2 = 0 := by simp [prodV, mulV, conjV]
theorem sq_nonneg (n : Int) : 0 ≤ n * n := by
  rcases Int.le_total 0 n with hq | hq
  · exact Int.mul_nonneg hq hq
  · exact Int.mul_nonneg_of_nonpos_of_nonpos hq hq
theorem sqV_nonneg (v : V2) : 0 ≤ sqV v := by
  have m4 : 4 * sqV v = (2 * v.1 - v.2) * (2 * v.1 - v.2) + 3 * (v.2 * v.2) := by unfold sqV; grind
  have := sq_nonneg (2 * v.1 - v.2)
  have := sq_nonneg v.2
  omega
theorem force_sq (u f : V2) : 3 * ((prodV u f).2 * (prodV u f).2) ≤ 4 * (sqV u * sqV f) := by
  have e : 4 * (sqV u * sqV f) = (2 * (prodV u f).1 - (prodV u f).2) * (2 * (prodV u f).1 - (prodV u f).2) + 3 * ((prodV u f).2 * (prodV u f).2) := by
    simp only [prodV, mulV, conjV, sqV]; grind
  have := sq_nonneg (2 * (prodV u f).1 - (prodV u f).2)
  omega
theorem near_sq {s : Int} {v : V2} (hs : 0 ≤ s) (h : Nr s v) : 3 * sqV v ≤ s * s := by
  obtain ⟨h1, h2, h3, h4, h5, h6⟩ := h
  -- with x, y the first two, x + y the third: x x + x y + y y is at most s s
  generalize hx : 2 * v.1 - v.2 = x at *
  generalize hy : 2 * v.2 - v.1 = y at *
  have e : 3 * sqV v = x * x + x * y + y * y := by subst hx hy; unfold sqV; grind
  have e5 : v.1 + v.2 = x + y := by omega
  rw [e5] at h5 h6
  rw [e]
  rcases Int.le_total 0 x with hx0 | hx0 <;> rcases Int.le_total 0 y with hy0 | hy0
  · have a := Int.mul_le_mul h6 h6 (by omega) hs
    have b := Int.mul_nonneg hx0 hy0
    grind
  · -- x x + x y + y y = x (x + y) + y y
    rcases Int.le_total 0 (x + y) with hz | hz
    · have a := Int.mul_le_mul h2 h2 hx0 hs
      have b : 0 ≤ (-y) * (x + y) := Int.mul_nonneg (by omega) hz
      grind
    · have a := Int.mul_le_mul (a := -y) (b := -y) (c := s) (d := s) (by omega) (by omega) (by omega) hs
      have b : 0 ≤ x * (-(x + y)) := Int.mul_nonneg hx0 (by omega)
      grind
  · rcases Int.le_total 0 (x + y) with hz | hz
    · have a := Int.mul_le_mul h4 h4 hy0 hs
      have b : 0 ≤ (-x) * (x + y) := Int.mul_nonneg (by omega) hz
      grind
    · have a := Int.mul_le_mul (a := -x) (b := -x) (c := s) (d := s) (by omega) (by omega) (by omega) hs
      have b : 0 ≤ y * (-(x + y)) := Int.mul_nonneg hy0 (by omega)
      grind
  · have a := Int.mul_le_mul (a := -(x + y)) (b := -(x + y)) (c := s) (d := s) (by omega) (by omega) (by omega) hs
    have b := Int.mul_nonneg_of_nonpos_of_nonpos hx0 hy0
    grind
theorem near_force {s : Int} {v f : V2} (hs : 0 ≤ s) (h : Nr s v) : 9 * (prodV v f).2 * (prodV v f).2 ≤ 4 * s * s * sqV f := by
  have h1 := force_sq v f
  have h2 := near_sq hs h
  have h3 := Int.mul_le_mul_of_nonneg_right h2 (sqV_nonneg f)
  have e1 : 9 * (prodV v f).2 * (prodV v f).2 = 9 * ((prodV v f).2 * (prodV v f).2) := by rw [Int.mul_assoc]
  have e2 : 4 * s * s * sqV f = 4 * (s * s * sqV f) := by rw [Int.mul_assoc, Int.mul_assoc, Int.mul_assoc]
  have e3 : 3 * sqV v * sqV f = 3 * (sqV v * sqV f) := Int.mul_assoc _ _ _
  rw [e1, e2]
  rw [e3] at h3
  omega
end Go.Proofs.YtgiiedpambimoaaDoor

/- The law of chapter 3 on orders and samples. The variables of the package hold what the text lays. -/
namespace Go.Proofs.YtgiiedpambimoaaDoor
open Go Go.RowKit Go.Proofs
set_option linter.unusedSimpArgs false
set_option linter.unusedVariables false
theorem h10_sl46 : SlIs Tryd.prog 46 3 1 8 (.int .i64 0) := ⟨by kernel_rfl, by kernel_rfl, by kernel_rfl⟩
theorem h10_ty3 : TyIs Tryd.prog 3 false 1 := ⟨by kernel_rfl, by kernel_rfl⟩
set_option maxRecDepth 100000 in
set_option maxHeartbeats 1000000 in
theorem bInts_ok (a b : List Int) (ha : a.length ≤ 1000000000) (hb : b.length ≤ 1000000000) : FnOk Tryd.prog 46 [.row 1 (a.map iE), .row 1 (b.map iE)] (fun q => q = oA (decide (a = b))) := by
  refine fnOk_of (fn := Tryd.f46) 26 (by kernel_rfl) rfl (by kernel_rfl) (Nat.le_of_ble_eq_true rfl) ?_
  intro e_0 m_0 hA hm_0
  have s0_0 : evA e_0 (.tmp 0) = _ := hA 0 _ rfl
  have s1_0 : evA e_0 (.tmp 1) = _ := hA 1 _ rfl
  have ml_0 : m_0.length = 0 := by rw [hm_0]; rfl
  clear hA hm_0
  refine aw_seq ?_
  refine aw_text (by kernel_rfl) ?_
  refine al_ro' (ro_assign ev_c) trivial rfl ?_
  refine al_end (fun e_1 he_1 => ?_)
  have s0_1 := ef 0 he_1 (up_m rfl s0_0)
  have s1_1 := ef 1 he_1 (up_m rfl s1_0)
  clear he_1 s0_0 s1_0
  refine then_n ?_
  refine aw_seq ?_
  refine aw_seq ?_
  refine aw_text (by kernel_rfl) ?_
  refine al_ro' (ro_move s0_1) trivial rfl ?_
  refine al_ro' (ro_eq (ro_len_row up_h rfl h10_sl46.1) (by first | (simp only [lnS] <;> rfl) | rfl)) trivial rfl ?_
  refine al_ro' (ro_move (u2 rfl s1_1)) trivial rfl ?_
  refine al_ro' (ro_eq (ro_len_row up_h rfl h10_sl46.1) (by first | (simp only [lnS] <;> rfl) | rfl)) trivial rfl ?_
  refine al_ro' (ro_neq (u2 rfl up_h) up_h) trivial rfl ?_
  refine al_end (fun e_2 he_2 => ?_)
  have s0_2 := ef 0 he_2 (up_m rfl (u4 rfl s0_1))
  have s1_2 := ef 1 he_2 (up_m rfl (u4 rfl s1_1))
  have s10_2 := ef 10 he_2 up_h
  clear he_2 s0_1 s1_1
  refine then_n ?_
  refine aw_case s10_2 (fun hq_3 => ?_) (fun hq_3 => ?_)
  · (first | replace hq_3 := bnt hq_3 | replace hq_3 := bnf hq_3 | replace hq_3 := bt hq_3 | replace hq_3 := bf hq_3 | replace hq_3 := bt' hq_3 | replace hq_3 := bf' hq_3 | skip)
    first
    | (cases hq_3; done) | (exfalso; omega)
    | (
       refine aw_seq ?_
       refine aw_text (by kernel_rfl) ?_
       refine al_ro' (ro_assign ev_c) trivial rfl ?_
       refine al_end (fun e_4 he_4 => ?_)
       have s4_4 := ef 4 he_4 up_h
       clear he_4 s0_2 s10_2 s1_2
       refine then_n ?_
       refine aw_ret ?_
       refine then_r ?_
       refine ret1 (.inr rfl) (by kernel_rfl) (resV_tmp s4_4) (.ro _ rfl) ?_
       clear s4_4  ml_0
       (have hne : ¬ a = b := (fun hc => absurd (congrArg List.length hc) (by omega)); rw [decide_eq_false hne]))
  · (first | replace hq_3 := bnt hq_3 | replace hq_3 := bnf hq_3 | replace hq_3 := bt hq_3 | replace hq_3 := bf hq_3 | replace hq_3 := bt' hq_3 | replace hq_3 := bf' hq_3 | skip)
    first
    | (cases hq_3; done) | (exfalso; omega)
    | (
       (have hl : a.length = b.length := (by omega))
       refine aw_skip ?_
       refine then_n ?_
       refine aw_seq ?_
       refine aw_seq ?_
       refine aw_text (by kernel_rfl) ?_
       refine al_ro' (ro_assign ev_c) trivial rfl ?_
       refine al_end (fun e_5 he_5 => ?_)
       have s0_5 := ef 0 he_5 (up_m rfl s0_2)
       have s1_5 := ef 1 he_5 (up_m rfl s1_2)
       have s5_5 := ef 5 he_5 up_h
       clear he_5 s0_2 s10_2 s1_2
       refine then_n ?_
       refine aw_block ?_
       refine aw_loop (S := Int) (fun i e mem => (evA e (.tmp 5) = .v (.int .i64 i)) ∧ (evA e (.tmp 0) = evA e_5 (.tmp 0)) ∧ (evA e (.tmp 1) = evA e_5 (.tmp 1)) ∧ (mem.length = 0) ∧ ((0 ≤ i ∧ i ≤ a.length ∧ a.length = b.length ∧ ∀ j : Nat, j < i → a.getD j default = b.getD j default))) (fun i => (a.length - i).toNat) _ ⟨s5_5, rfl, rfl, ml_0, ?_⟩ ?_
       · (refine ⟨by omega, by omega, by omega, fun j hj => absurd hj (by omega)⟩)
       · rintro i e_6 m_6 ⟨s5_6, k0_6, k1_6, ml_6, hinv⟩
         have s0_6 := k0_6.trans s0_5
         have s1_6 := k1_6.trans s1_5
         (have hl := hinv.2.2.1)
         refine aw_seq ?_
         refine aw_seq ?_
         refine aw_text (by kernel_rfl) ?_
         refine al_ro' (ro_move s5_6) trivial rfl ?_
         refine al_ro' (ro_move (up_m rfl s0_6)) trivial rfl ?_
         refine al_ro' (ro_eq (ro_len_row up_h rfl h10_sl46.1) (by first | (simp only [lnS] <;> rfl) | rfl)) trivial rfl ?_
         refine al_ro' (ro_lss (u2 rfl up_h) up_h) trivial rfl ?_
         refine al_end (fun e_7 he_7 => ?_)
         have s0_7 := ef 0 he_7 (u4 rfl s0_6)
         have s1_7 := ef 1 he_7 (u4 rfl s1_6)
         have s5_7 := ef 5 he_7 (u4 rfl s5_6)
         have s14_7 := ef 14 he_7 up_h
         clear he_7 s0_6 s1_6 s5_6
         refine then_n ?_
         refine aw_case s14_7 (fun hq_8 => ?_) (fun hq_8 => ?_)
         · (first | replace hq_8 := bnt hq_8 | replace hq_8 := bnf hq_8 | replace hq_8 := bt hq_8 | replace hq_8 := bf hq_8 | replace hq_8 := bt' hq_8 | replace hq_8 := bf' hq_8 | skip)
           first
           | (cases hq_8; done) | (exfalso; omega)
           | (
              (have hx := hinv.2.1)
              refine aw_skip ?_
              refine then_n ?_
              refine aw_seq ?_
              refine aw_block ?_
              refine aw_seq ?_
              refine aw_draw 9 (by kernel_rfl) (by kernel_rfl) (by kernel_rfl) (by kernel_rfl) ?_
              refine ds_ro' (ro_move s0_7) trivial rfl ?_
              refine ds_ro' (ro_move (up_m rfl s5_7)) trivial rfl ?_
              refine ds_ro' (ro_eq (ro_ix h10_sl46 (up_m rfl up_h) up_h (by first | decide | omega | (simp <;> omega)) (by first | (refine idx_map ?_; first | omega | (simp only [lnS]; omega)) | (refine idx_mapI ?_; first | omega | (simp only [lnS]; omega)) | (refine idx_mapN ?_; first | omega | (simp only [lnS]; omega)) | rfl)) (by first | (simp only [packA_t, packA_f, iE, bE, setAt, cellsA, Value.cells, map_vc, map_vn, Nat.reduceAdd, qS] <;> rfl) | rfl)) trivial rfl ?_
              refine ds_ro' (ro_eq (ro_ld_ref h10_ty3 rfl up_h (by first | exact Nat.le_of_ble_eq_true rfl | omega | (simp only [lnS] <;> omega) | (simp <;> omega))) (by first | (simp only [packA_t, packA_f, iE, bE, setAt, cellsA, Value.cells, map_vc, map_vn, Nat.reduceAdd, qS] <;> rfl) | rfl)) trivial rfl ?_
              refine ds_ro' (ro_move (u4 rfl s1_7)) trivial rfl ?_
              refine ds_ro' (ro_move (up_m rfl (u4 rfl s5_7))) trivial rfl ?_
              refine ds_ro' (ro_eq (ro_ix h10_sl46 (up_m rfl up_h) up_h (by first | decide | omega | (simp <;> omega)) (by first | (refine idx_map ?_; first | omega | (simp only [lnS]; omega)) | (refine idx_mapI ?_; first | omega | (simp only [lnS]; omega)) | (refine idx_mapN ?_; first | omega | (simp only [lnS]; omega)) | rfl)) (by first | (simp only [packA_t, packA_f, iE, bE, setAt, cellsA, Value.cells, map_vc, map_vn, Nat.reduceAdd, qS] <;> rfl) | rfl)) trivial rfl ?_
              refine ds_ro' (ro_eq (ro_ld_ref h10_ty3 rfl up_h (by first | exact Nat.le_of_ble_eq_true rfl | omega | (simp only [lnS] <;> omega) | (simp <;> omega))) (by first | (simp only [packA_t, packA_f, iE, bE, setAt, cellsA, Value.cells, map_vc, map_vn, Nat.reduceAdd, qS] <;> rfl) | rfl)) trivial rfl ?_
              refine ds_ro' (ro_neq (u4 rfl up_h) up_h) trivial rfl ?_
              refine ds_nil ?_
              refine al_end (fun e_9 he_9 => ?_)
              have s0_9 := ef 0 he_9 (up_m rfl (u8 rfl s0_7))
              have s1_9 := ef 1 he_9 (up_m rfl (u8 rfl s1_7))
              have s5_9 := ef 5 he_9 (up_m rfl (u8 rfl s5_7))
              have s25_9 := ef 25 he_9 up_h
              clear he_9 s0_7 s14_7 s1_7 s5_7
              refine then_n ?_
              refine aw_case s25_9 (fun hq_10 => ?_) (fun hq_10 => ?_)
              · (first | replace hq_10 := bnt hq_10 | replace hq_10 := bnf hq_10 | replace hq_10 := bt hq_10 | replace hq_10 := bf hq_10 | replace hq_10 := bt' hq_10 | replace hq_10 := bf' hq_10 | skip)
                first
                | (cases hq_10; done) | (exfalso; omega)
                | (
                   refine aw_seq ?_
                   refine aw_text (by kernel_rfl) ?_
                   refine al_ro' (ro_assign ev_c) trivial rfl ?_
                   refine al_end (fun e_11 he_11 => ?_)
                   have s4_11 := ef 4 he_11 up_h
                   clear he_11 s0_9 s1_9 s25_9 s5_9
                   refine then_n ?_
                   refine aw_ret ?_
                   refine block_r ?_
                   refine then_r ?_
                   refine then_r ?_
                   refine block_r ?_
                   refine then_r ?_
                   refine ret1 (.inr rfl) (by kernel_rfl) (resV_tmp s4_11) (.ro _ rfl) ?_
                   clear s4_11  ml_6
                   (have hne : ¬ a = b := (fun hc => absurd (congrArg (fun l => l.getD i.toNat default) hc) (by assumption)); rw [decide_eq_false hne]))
              · (first | replace hq_10 := bnt hq_10 | replace hq_10 := bnf hq_10 | replace hq_10 := bt hq_10 | replace hq_10 := bf hq_10 | replace hq_10 := bt' hq_10 | replace hq_10 := bf' hq_10 | skip)
                first
                | (cases hq_10; done) | (exfalso; omega)
                | (
                   refine aw_skip ?_
                   refine block_n ?_
                   refine then_n ?_
                   refine aw_text (by kernel_rfl) ?_
                   refine al_ro' (ro_move s5_9) trivial rfl ?_
                   first | (refine al_ro' (ro_add' up_h ev_c ?_) trivial rfl ?_; · (unfold In64; omega)) | refine al_ro' (ro_add up_h ev_c) trivial rfl ?_
                   refine al_ro' (ro_assign up_h) trivial rfl ?_
                   refine al_end (fun e_12 he_12 => ?_)
                   have s0_12 := ef 0 he_12 (up_m rfl (u2 rfl s0_9))
                   have s1_12 := ef 1 he_12 (up_m rfl (u2 rfl s1_9))
                   have s5_12 := ef 5 he_12 up_h
                   clear he_12 s0_9 s1_9 s25_9 s5_9
                   refine then_n ?_
                   refine ⟨_, ⟨s5_12, (s0_12.trans s0_5.symm), (s1_12.trans s1_5.symm), ml_6, ?_⟩, ?_⟩
                   · (obtain ⟨p1, p2, p3, p4⟩ := hinv; refine ⟨by omega, by omega, p3, fun j hj => ?_⟩; by_cases hji : j = i.toNat; (rw [hji]; assumption); exact p4 j (by omega))
                   · ((try dsimp only); omega)))
         · (first | replace hq_8 := bnt hq_8 | replace hq_8 := bnf hq_8 | replace hq_8 := bt hq_8 | replace hq_8 := bf hq_8 | replace hq_8 := bt' hq_8 | replace hq_8 := bf' hq_8 | skip)
           first
           | (cases hq_8; done) | (exfalso; omega)
           | (
              refine aw_exit ?_
              refine then_x ?_
              refine then_x ?_
              refine block_hit ?_
              refine then_n ?_
              refine aw_seq ?_
              refine aw_text (by kernel_rfl) ?_
              refine al_ro' (ro_assign ev_c) trivial rfl ?_
              refine al_end (fun e_13 he_13 => ?_)
              have s4_13 := ef 4 he_13 up_h
              clear he_13 s0_7 s14_7 s1_7 s5_7
              refine then_n ?_
              refine aw_ret ?_
              refine ret1 (.inr rfl) (by kernel_rfl) (resV_tmp s4_13) (.ro _ rfl) ?_
              clear s4_13  ml_6
              (obtain ⟨p1, p2, p3, p4⟩ := hinv; refine congrArg oA ?_; simp; exact list_ext' (by omega) fun j hj => p4 j (by omega))))
theorem sameI_ok (l : List Int) (h : l.length ≤ 1000000000) : FnOk Tryd.prog 46 [.row 1 (l.map iE), .row 1 (l.map iE)] (fun q => q = oA true) :=
  (bInts_ok l l h h).mono fun q h => h.trans (by simp)
end Go.Proofs.YtgiiedpambimoaaDoor

