/- StatorChanges' walk. -/
import Derived.Test.YtdbglpaejmhbjaaDoorP4
import Derived.Test.YtdbglpaejmhbjaaDoorW15
namespace Go.Proofs.YtdbglpaejmhbjaaDoor
open Go Go.RowKit Go.Proofs
set_option linter.unusedSimpArgs false
set_option linter.unusedVariables false

set_option maxRecDepth 100000 in
set_option maxHeartbeats 1000000 in
theorem bCeil_any (n b : Int) (hb : 1 ≤ b) (w : World) : Calls Tryd.prog 51 #[.int .i64 n, .int .i64 b] w fun e w' => e = .returned (.int .i64 (ceilW n b)) ∧ w = w' := by
  go_enter Tryd.func51, Tryd.ntmps51
  go_wp2_with (first | (go_at_call 112; refine (bFloor_any _ _ (by omega) _).mono ?_; rintro e wz ⟨rfl, rfl⟩))
  go_ret
  exact ⟨rfl, rfl⟩
theorem handL_get (f t : T2) (s : Int) : ∀ (n k : Nat), k < n → (handL f t s n)[k]? = some (handAt f t s ((k : Int) + 1))
  | n + 1, k, h => by
    simp only [handL]
    by_cases hk : k < n
    · rw [List.getElem?_append_left (by rw [handL_length]; exact hk)]; exact handL_get f t s n k hk
    · obtain rfl : k = n := by omega
      rw [List.getElem?_append_right (by rw [handL_length]; exact Nat.le_refl _)]
      simp [handL_length]
theorem handE_no {f t : T2} {s : Int} (h : rightB f = false ∨ rightB t = false ∨ withinB s 1 100 = false) : handE f t s = 2 := by
  unfold handE
  rcases h with h | h | h
  · simp [h, firstE, unlessE]
  · simp [h, firstE, unlessE]
  · cases h1 : (rightB f && rightB t) <;> simp [h, h1, firstE, unlessE]
theorem handE_yes {f t : T2} {s : Int} (h1 : rightB f = true) (h2 : rightB t = true) (h3 : withinB s 1 100 = true) : handE f t s = 0 := by simp [handE, h1, h2, h3, firstE, unlessE]

set_option maxRecDepth 100000 in
set_option maxHeartbeats 1000000 in
theorem statorChanges_far (f t : T2) (s : Int) (w : World) (hs : Sts w) (h1 : 30 < s) (h2 : s ≤ 100) : Calls Tryd.prog 8 #[tV f, tV t, .int .i64 s] w fun e w' => e = .returned (.bool true) ∧ Ext w w' := by
  have HW := Lib.hid (fun w1 (h : Ext w w1) => awake_any w1 (hs.ext h))
  go_enter Tryd.func8, Tryd.ntmps8
  go_wp2_with (first | (go_at_call 15; (with_reducible refine (HW.out _ (by ((repeat' (first | with_reducible exact Ext.refl _ | assumption | with_reducible exact Ext.one _ | with_reducible refine Ext.alloc ?_ _ | with_reducible refine Ext.setCell ?_ ?_ _ | with_reducible refine Ext.drew ?_ | refine Ext.trans ?_ (by assumption))) <;> (try simp) <;> omega))).mono ?_); rintro e w3 ⟨rfl, hx3⟩; obtain ⟨hc3, hf3⟩ := bcell hx3; have hzw3_0 : w.heap.size < w3.heap.size := (by have := hx3.size; (try simp at this); omega); have hzw3_1 : w.heap.size + 1 < w3.heap.size := (by have := hx3.size; (try simp at this); omega)))
  go_ret
  exact ⟨rfl, by ((repeat' (first | with_reducible exact Ext.refl _ | assumption | with_reducible exact Ext.one _ | with_reducible refine Ext.alloc ?_ _ | with_reducible refine Ext.setCell ?_ ?_ _ | with_reducible refine Ext.drew ?_ | refine Ext.trans ?_ (by assumption))) <;> (try simp) <;> omega)⟩
set_option maxRecDepth 100000 in
set_option maxHeartbeats 1000000 in
theorem statorChanges_no (f t : T2) (s : Int) (w : World) (hs : Sts w) (h1 : s ≤ 30 ∨ 100 < s) (h : rightB f = false ∨ rightB t = false ∨ withinB s 1 100 = false) : Calls Tryd.prog 8 #[tV f, tV t, .int .i64 s] w fun e w' => e = .returned (.bool true) ∧ Ext w w' := by
  have HW := Lib.hid (fun w1 (h : Ext w w1) => awake_any w1 (hs.ext h))
  have hE := handE_no h
  obtain ⟨z, hz⟩ : ∃ z : Nat, z = 0 := ⟨0, rfl⟩
  have hz0 : ((z : Int) == 0) = true := by simp [hz]
  have HH := Lib.hid (show ∀ w1, Calls Tryd.prog 48 #[tV f, tV t, .int .i64 s] w1 (RetRd (fun x => .tuple #[x, .int .i64 2]) 2 z [] w1) from fun w1 =>
    (handed_any f t s 0 w1 (.inr (by rw [hE]; omega))).mono fun _ _ ⟨A, m, c, he, hm, hc, hr, hx⟩ => by
      rw [hE, if_neg (by omega)] at hr hm
      rw [hE] at he
      rw [← hz] at hm
      subst hm
      exact ⟨A, c, he, hc, hr, hx⟩)
  clear hz hE
  have HF := Lib.hid (rVectorErr_any f)
  have HT := Lib.hid (rVectorErr_any t)
  generalize rightB f = F at *
  generalize rightB t = T at *
  have hg : (30 < s ∧ ¬ s ≤ 100) ∨ s ≤ 30 := by omega
  have step : ∀ p : Bool, p = false ∨ p = true := by decide
  rcases hg with ⟨g1, g2⟩ | g1
  · have h3 : withinB s 1 100 = false := by simp [withinB]; omega
    rcases step F with rfl | rfl <;> rcases step T with rfl | rfl
    all_goals
      clear h h1
      go_enter Tryd.func8, Tryd.ntmps8
      go_wp2_with (first | (go_at_call 15; (with_reducible refine (HW.out _ (by ((repeat' (first | with_reducible exact Ext.refl _ | assumption | with_reducible exact Ext.one _ | with_reducible refine Ext.alloc ?_ _ | with_reducible refine Ext.setCell ?_ ?_ _ | with_reducible refine Ext.drew ?_ | refine Ext.trans ?_ (by assumption))) <;> (try simp) <;> omega))).mono ?_); rintro e w3 ⟨rfl, hx3⟩; obtain ⟨hc3, hf3⟩ := bcell hx3; have hzw3_0 : w.heap.size < w3.heap.size := (by have := hx3.size; (try simp at this); omega); have hzw3_1 : w.heap.size + 1 < w3.heap.size := (by have := hx3.size; (try simp at this); omega)) | (go_at_call 48; (with_reducible refine (HH.out _).mono ?_); rintro e w5 ⟨a5, c5, rfl, hcc5, hrd5, hx5⟩; obtain ⟨hc5, hf5⟩ := bcell hx5; have hzw5_0 : w.heap.size < w5.heap.size := (by have := hx5.size; (try simp at this); omega); have hzw5_1 : w.heap.size + 1 < w5.heap.size := (by have := hx5.size; (try simp at this); omega)) | ((go_at_call 19; (with_reducible refine (HF.out _).mono ?_); rintro e w6 ⟨rfl, hx6⟩; obtain ⟨hc6, hf6⟩ := bcell hx6; have hzw6_0 : w.heap.size < w6.heap.size := (by have := hx6.size; (try simp at this); omega); have hzw6_1 : w.heap.size + 1 < w6.heap.size := (by have := hx6.size; (try simp at this); omega)); simp only [unlessE, if_true, if_false, Bool.false_eq_true]) | ((go_at_call 19; (with_reducible refine (HT.out _).mono ?_); rintro e w7 ⟨rfl, hx7⟩; obtain ⟨hc7, hf7⟩ := bcell hx7; have hzw7_0 : w.heap.size < w7.heap.size := (by have := hx7.size; (try simp at this); omega); have hzw7_1 : w.heap.size + 1 < w7.heap.size := (by have := hx7.size; (try simp at this); omega)); simp only [unlessE, if_true, if_false, Bool.false_eq_true]) | first | (go_at_call 22; refine (bWithin_any _ _ _ _).mono ?_; rintro e wz ⟨rfl, rfl⟩))
      go_ret
      exact ⟨rfl, by ((repeat' (first | with_reducible exact Ext.refl _ | assumption | with_reducible exact Ext.one _ | with_reducible refine Ext.alloc ?_ _ | with_reducible refine Ext.setCell ?_ ?_ _ | with_reducible refine Ext.drew ?_ | refine Ext.trans ?_ (by assumption))) <;> (try simp) <;> omega)⟩
  · rcases step F with rfl | rfl <;> rcases step T with rfl | rfl
    all_goals
      (try have h3 : withinB s 1 100 = false := by simpa using h)
      clear h h1
      go_enter Tryd.func8, Tryd.ntmps8
      go_wp2_with (first | (go_at_call 15; (with_reducible refine (HW.out _ (by ((repeat' (first | with_reducible exact Ext.refl _ | assumption | with_reducible exact Ext.one _ | with_reducible refine Ext.alloc ?_ _ | with_reducible refine Ext.setCell ?_ ?_ _ | with_reducible refine Ext.drew ?_ | refine Ext.trans ?_ (by assumption))) <;> (try simp) <;> omega))).mono ?_); rintro e w3 ⟨rfl, hx3⟩; obtain ⟨hc3, hf3⟩ := bcell hx3; have hzw3_0 : w.heap.size < w3.heap.size := (by have := hx3.size; (try simp at this); omega); have hzw3_1 : w.heap.size + 1 < w3.heap.size := (by have := hx3.size; (try simp at this); omega)) | (go_at_call 48; (with_reducible refine (HH.out _).mono ?_); rintro e w5 ⟨a5, c5, rfl, hcc5, hrd5, hx5⟩; obtain ⟨hc5, hf5⟩ := bcell hx5; have hzw5_0 : w.heap.size < w5.heap.size := (by have := hx5.size; (try simp at this); omega); have hzw5_1 : w.heap.size + 1 < w5.heap.size := (by have := hx5.size; (try simp at this); omega)) | ((go_at_call 19; (with_reducible refine (HF.out _).mono ?_); rintro e w6 ⟨rfl, hx6⟩; obtain ⟨hc6, hf6⟩ := bcell hx6; have hzw6_0 : w.heap.size < w6.heap.size := (by have := hx6.size; (try simp at this); omega); have hzw6_1 : w.heap.size + 1 < w6.heap.size := (by have := hx6.size; (try simp at this); omega)); simp only [unlessE, if_true, if_false, Bool.false_eq_true]) | ((go_at_call 19; (with_reducible refine (HT.out _).mono ?_); rintro e w7 ⟨rfl, hx7⟩; obtain ⟨hc7, hf7⟩ := bcell hx7; have hzw7_0 : w.heap.size < w7.heap.size := (by have := hx7.size; (try simp at this); omega); have hzw7_1 : w.heap.size + 1 < w7.heap.size := (by have := hx7.size; (try simp at this); omega)); simp only [unlessE, if_true, if_false, Bool.false_eq_true]) | first | (go_at_call 22; refine (bWithin_any _ _ _ _).mono ?_; rintro e wz ⟨rfl, rfl⟩))
      go_ret
      exact ⟨rfl, by ((repeat' (first | with_reducible exact Ext.refl _ | assumption | with_reducible exact Ext.one _ | with_reducible refine Ext.alloc ?_ _ | with_reducible refine Ext.setCell ?_ ?_ _ | with_reducible refine Ext.drew ?_ | refine Ext.trans ?_ (by assumption))) <;> (try simp) <;> omega)⟩
end Go.Proofs.YtdbglpaejmhbjaaDoor
