/- Walks: the vectors of states, near vectors, nearest states. -/
import Derived.Test.YtdbglpaejmhbjaaDoorW12
import Derived.Test.YtdbglpaejmhbjaaDoorF1
namespace Go.Proofs.YtdbglpaejmhbjaaDoor
open Go Go.RowKit Go.Proofs
set_option linter.unusedSimpArgs false
set_option linter.unusedVariables false

/-- The vector of a state, by its number. -/
def stV (s : Int) : T2 := (stL.getD (2 * s.toNat) 0, stL.getD (2 * s.toNat + 1) 0)
theorem eight {s : Int} (h : withinB s 0 7 = true) : s = 0 ∨ s = 1 ∨ s = 2 ∨ s = 3 ∨ s = 4 ∨ s = 5 ∨ s = 6 ∨ s = 7 := by
  simp only [withinB, Bool.and_eq_true, decide_eq_true_eq] at h; omega

theorem ofW_states : ofW (0, 0, 0) = stV 0 ∧ ofW (0, 0, 1) = stV 1 ∧ ofW (0, 1, 0) = stV 2 ∧ ofW (0, 1, 1) = stV 3 ∧ ofW (1, 0, 0) = stV 4 ∧ ofW (1, 0, 1) = stV 5 ∧ ofW (1, 1, 0) = stV 6 ∧ ofW (1, 1, 1) = stV 7 := by decide +kernel
set_option maxRecDepth 100000 in
set_option maxHeartbeats 4000000 in
theorem rStateVector_any (s : Int) (w : World) (h : withinB s 0 7 = true) : Calls Tryd.prog 58 #[.int .i64 s] w fun e w' => e = .returned (tV (stV s)) ∧ Ext w w' := by
  obtain ⟨e0, e1, e2, e3, e4, e5, e6, e7⟩ := ofW_states
  have HV := Lib.hid (show ∀ a b c : Int, ∀ w1, Calls Tryd.prog 76 #[.agg #[.int .i64 a, .int .i64 b, .int .i64 c]] w1 fun e w' => e = .returned (tV (ofW (a, b, c))) ∧ Ext w1 w' from fun a b c w1 => rVectorOf_any (a, b, c) w1)
  obtain rfl | rfl | rfl | rfl | rfl | rfl | rfl | rfl := eight h
  all_goals
    clear h
    go_enter Tryd.func58, Tryd.ntmps58
    go_wp2_with (first | (go_at_call 76; (with_reducible refine (HV.out _ _ _ _).mono ?_); rintro e w3 ⟨rfl, hx3⟩; obtain ⟨hc3, hf3⟩ := bcell hx3; have hzw3_0 : w.heap.size < w3.heap.size := (by have := hx3.size; (try simp at this); omega); simp only [e0, e1, e2, e3, e4, e5, e6, e7]))
    have hb0 := hc3 w.heap.size 0 (by simp)
    have hb1 := hc3 w.heap.size 1 (by simp)
    exact bodyPost_ret (v := tV (stV _)) (by simp [results, Tryd.results58, go_sem, hc3]) rfl ⟨rfl, by ((repeat' (first | with_reducible exact Ext.refl _ | with_reducible assumption | with_reducible exact Ext.one _ | with_reducible refine Ext.alloc ?_ _ | with_reducible refine Ext.setCell ?_ ?_ _ | with_reducible refine Ext.drew ?_ | ((with_reducible apply Ext.after'); (with_reducible assumption)))) <;> (try simp) <;> omega)⟩
set_option maxRecDepth 100000 in
set_option maxHeartbeats 4000000 in
theorem stateVector_any (s : Int) (w : World) (hs : Sts w) : Calls Tryd.prog 37 #[.int .i64 s] w fun e w' => e = .returned (.tuple #[tV (okV (unlessE (withinB s 0 7) 2) (stV s)), .int .i64 (unlessE (withinB s 0 7) 2)]) ∧ Ext w w' := by
  by_cases h : withinB s 0 7 = true
  · rw [h]
    have h0 := hs.1
    rcases eight h with rfl | rfl | rfl | rfl | rfl | rfl | rfl | rfl
    · have c0 : w.cell? ⟨0, 0, none⟩ = some (.int .i64 0) := hs.2 0 (by omega)
      have c1 : w.cell? ⟨0, 1, none⟩ = some (.int .i64 0) := hs.2 1 (by omega)
      go_enter Tryd.func37, Tryd.ntmps37
      go_wp2_with (first | (go_at_call 104; refine (within_any _ _ _ _).mono ?_; rintro e wz ⟨rfl, rfl⟩))
      exact bodyPost_ret (v := .tuple #[tV (0, 0), .int .i64 0]) (by simp [results, Tryd.results37, go_sem]) rfl ⟨rfl, by ((repeat' (first | with_reducible exact Ext.refl _ | with_reducible assumption | with_reducible exact Ext.one _ | with_reducible refine Ext.alloc ?_ _ | with_reducible refine Ext.setCell ?_ ?_ _ | with_reducible refine Ext.drew ?_ | ((with_reducible apply Ext.after'); (with_reducible assumption)))) <;> (try simp) <;> omega)⟩
    · have c0 : w.cell? ⟨0, 2, none⟩ = some (.int .i64 (-1)) := hs.2 2 (by omega)
      have c1 : w.cell? ⟨0, 3, none⟩ = some (.int .i64 (-1)) := hs.2 3 (by omega)
      go_enter Tryd.func37, Tryd.ntmps37
      go_wp2_with (first | (go_at_call 104; refine (within_any _ _ _ _).mono ?_; rintro e wz ⟨rfl, rfl⟩))
      exact bodyPost_ret (v := .tuple #[tV ((-1), (-1)), .int .i64 0]) (by simp [results, Tryd.results37, go_sem]) rfl ⟨rfl, by ((repeat' (first | with_reducible exact Ext.refl _ | with_reducible assumption | with_reducible exact Ext.one _ | with_reducible refine Ext.alloc ?_ _ | with_reducible refine Ext.setCell ?_ ?_ _ | with_reducible refine Ext.drew ?_ | ((with_reducible apply Ext.after'); (with_reducible assumption)))) <;> (try simp) <;> omega)⟩
    · have c0 : w.cell? ⟨0, 4, none⟩ = some (.int .i64 0) := hs.2 4 (by omega)
      have c1 : w.cell? ⟨0, 5, none⟩ = some (.int .i64 1) := hs.2 5 (by omega)
      go_enter Tryd.func37, Tryd.ntmps37
      go_wp2_with (first | (go_at_call 104; refine (within_any _ _ _ _).mono ?_; rintro e wz ⟨rfl, rfl⟩))
      exact bodyPost_ret (v := .tuple #[tV (0, 1), .int .i64 0]) (by simp [results, Tryd.results37, go_sem]) rfl ⟨rfl, by ((repeat' (first | with_reducible exact Ext.refl _ | with_reducible assumption | with_reducible exact Ext.one _ | with_reducible refine Ext.alloc ?_ _ | with_reducible refine Ext.setCell ?_ ?_ _ | with_reducible refine Ext.drew ?_ | ((with_reducible apply Ext.after'); (with_reducible assumption)))) <;> (try simp) <;> omega)⟩
    · have c0 : w.cell? ⟨0, 6, none⟩ = some (.int .i64 (-1)) := hs.2 6 (by omega)
      have c1 : w.cell? ⟨0, 7, none⟩ = some (.int .i64 0) := hs.2 7 (by omega)
      go_enter Tryd.func37, Tryd.ntmps37
      go_wp2_with (first | (go_at_call 104; refine (within_any _ _ _ _).mono ?_; rintro e wz ⟨rfl, rfl⟩))
      exact bodyPost_ret (v := .tuple #[tV ((-1), 0), .int .i64 0]) (by simp [results, Tryd.results37, go_sem]) rfl ⟨rfl, by ((repeat' (first | with_reducible exact Ext.refl _ | with_reducible assumption | with_reducible exact Ext.one _ | with_reducible refine Ext.alloc ?_ _ | with_reducible refine Ext.setCell ?_ ?_ _ | with_reducible refine Ext.drew ?_ | ((with_reducible apply Ext.after'); (with_reducible assumption)))) <;> (try simp) <;> omega)⟩
    · have c0 : w.cell? ⟨0, 8, none⟩ = some (.int .i64 1) := hs.2 8 (by omega)
      have c1 : w.cell? ⟨0, 9, none⟩ = some (.int .i64 0) := hs.2 9 (by omega)
      go_enter Tryd.func37, Tryd.ntmps37
      go_wp2_with (first | (go_at_call 104; refine (within_any _ _ _ _).mono ?_; rintro e wz ⟨rfl, rfl⟩))
      exact bodyPost_ret (v := .tuple #[tV (1, 0), .int .i64 0]) (by simp [results, Tryd.results37, go_sem]) rfl ⟨rfl, by ((repeat' (first | with_reducible exact Ext.refl _ | with_reducible assumption | with_reducible exact Ext.one _ | with_reducible refine Ext.alloc ?_ _ | with_reducible refine Ext.setCell ?_ ?_ _ | with_reducible refine Ext.drew ?_ | ((with_reducible apply Ext.after'); (with_reducible assumption)))) <;> (try simp) <;> omega)⟩
    · have c0 : w.cell? ⟨0, 10, none⟩ = some (.int .i64 0) := hs.2 10 (by omega)
      have c1 : w.cell? ⟨0, 11, none⟩ = some (.int .i64 (-1)) := hs.2 11 (by omega)
      go_enter Tryd.func37, Tryd.ntmps37
      go_wp2_with (first | (go_at_call 104; refine (within_any _ _ _ _).mono ?_; rintro e wz ⟨rfl, rfl⟩))
      exact bodyPost_ret (v := .tuple #[tV (0, (-1)), .int .i64 0]) (by simp [results, Tryd.results37, go_sem]) rfl ⟨rfl, by ((repeat' (first | with_reducible exact Ext.refl _ | with_reducible assumption | with_reducible exact Ext.one _ | with_reducible refine Ext.alloc ?_ _ | with_reducible refine Ext.setCell ?_ ?_ _ | with_reducible refine Ext.drew ?_ | ((with_reducible apply Ext.after'); (with_reducible assumption)))) <;> (try simp) <;> omega)⟩
    · have c0 : w.cell? ⟨0, 12, none⟩ = some (.int .i64 1) := hs.2 12 (by omega)
      have c1 : w.cell? ⟨0, 13, none⟩ = some (.int .i64 1) := hs.2 13 (by omega)
      go_enter Tryd.func37, Tryd.ntmps37
      go_wp2_with (first | (go_at_call 104; refine (within_any _ _ _ _).mono ?_; rintro e wz ⟨rfl, rfl⟩))
      exact bodyPost_ret (v := .tuple #[tV (1, 1), .int .i64 0]) (by simp [results, Tryd.results37, go_sem]) rfl ⟨rfl, by ((repeat' (first | with_reducible exact Ext.refl _ | with_reducible assumption | with_reducible exact Ext.one _ | with_reducible refine Ext.alloc ?_ _ | with_reducible refine Ext.setCell ?_ ?_ _ | with_reducible refine Ext.drew ?_ | ((with_reducible apply Ext.after'); (with_reducible assumption)))) <;> (try simp) <;> omega)⟩
    · have c0 : w.cell? ⟨0, 14, none⟩ = some (.int .i64 0) := hs.2 14 (by omega)
      have c1 : w.cell? ⟨0, 15, none⟩ = some (.int .i64 0) := hs.2 15 (by omega)
      go_enter Tryd.func37, Tryd.ntmps37
      go_wp2_with (first | (go_at_call 104; refine (within_any _ _ _ _).mono ?_; rintro e wz ⟨rfl, rfl⟩))
      exact bodyPost_ret (v := .tuple #[tV (0, 0), .int .i64 0]) (by simp [results, Tryd.results37, go_sem]) rfl ⟨rfl, by ((repeat' (first | with_reducible exact Ext.refl _ | with_reducible assumption | with_reducible exact Ext.one _ | with_reducible refine Ext.alloc ?_ _ | with_reducible refine Ext.setCell ?_ ?_ _ | with_reducible refine Ext.drew ?_ | ((with_reducible apply Ext.after'); (with_reducible assumption)))) <;> (try simp) <;> omega)⟩
  · have h' := Bool.eq_false_iff.2 h
    rw [h']
    go_enter Tryd.func37, Tryd.ntmps37
    go_wp2_with (first | (go_at_call 104; refine (within_any _ _ _ _).mono ?_; rintro e wz ⟨rfl, rfl⟩))
    exact bodyPost_ret (v := .tuple #[tV (0, 0), .int .i64 2]) (by simp [results, Tryd.results37, go_sem]) rfl ⟨rfl, by ((repeat' (first | with_reducible exact Ext.refl _ | with_reducible assumption | with_reducible exact Ext.one _ | with_reducible refine Ext.alloc ?_ _ | with_reducible refine Ext.setCell ?_ ?_ _ | with_reducible refine Ext.drew ?_ | ((with_reducible apply Ext.after'); (with_reducible assumption)))) <;> (try simp) <;> omega)⟩
end Go.Proofs.YtdbglpaejmhbjaaDoor
