/- StatorTurns' walk. -/
import Derived.Test.YtdbglpaejmhbjaaDoorW22
import Derived.Test.YtdbglpaejmhbjaaDoorW15
namespace Go.Proofs.YtdbglpaejmhbjaaDoor
open Go Go.RowKit Go.Proofs
set_option linter.unusedSimpArgs false
set_option linter.unusedVariables false

theorem turnedE_yes {v : T2} {s : Int} (h1 : rightB v = true) (h2 : smallB s 1000000 = true) : turnedE v s = 0 := by simp [turnedE, h1, h2, firstE, unlessE]
theorem turnedE_no {v : T2} {s : Int} (h : rightB v = false ∨ smallB s 1000000 = false) : turnedE v s = 2 := by
  unfold turnedE; rcases h with h | h
  · simp [h, firstE, unlessE]
  · cases h1 : rightB v <;> simp [h, firstE, unlessE]
theorem smallB_within (s : Int) : smallB s 1000000 = withinB s (-1000000) 1000000 := by
  unfold smallB; rw [show wrap64 (-1000000) = -1000000 by decide +kernel]
theorem sTurned_yes (v : T2) (s : Int) (w : World) (h1 : rightB v = true) (h2 : smallB s 1000000 = true) :
    Calls Tryd.prog 21 #[tV v, .int .i64 s] w fun e w' => e = .returned (.tuple #[tV (turnW (sixN s) v), .int .i64 0]) ∧ Ext w w' := by
  have h := sTurned_any v s w
  rwa [turnedR, turnedE_yes h1 h2, if_pos rfl] at h
theorem norm_turnW (v : T2) (s : Int) (h : rightB v = true) : normW (turnW (sixN s) v) = normW v := by
  have hs := right_sm h
  rw [turnW_eq v 100000 hs (by omega) _ (by have := sixN_lt s; omega)]
  have h5 := turnP_sm v 100000 hs (sixN s)
  have h6 : (2 : Int) ^ sixN s * 100000 ≤ 32 * 100000 := by
    have : (2 : Int) ^ sixN s ≤ 32 := by
      have := sixN_lt s
      obtain e | e | e | e | e | e : sixN s = 0 ∨ sixN s = 1 ∨ sixN s = 2 ∨ sixN s = 3 ∨ sixN s = 4 ∨ sixN s = 5 := by omega
      all_goals (rw [e]; decide)
    exact Int.mul_le_mul_of_nonneg_right this (by omega)
  rw [normW_eq _ _ h5 (by omega), normW_eq v 100000 hs (by omega), normP_turn]

set_option maxRecDepth 100000 in
set_option maxHeartbeats 1000000 in
theorem statorTurns_no (v : T2) (s : Int) (w : World) (hs : Sts w) (h : rightB v = false ∨ withinB s (-1000000) 1000000 = false) :
    Calls Tryd.prog 4 #[tV v, .int .i64 s] w fun e w' => e = .returned (.bool true) ∧ Ext w w' := by
  have HW := Lib.hid (fun w1 (h : Ext w w1) => awake_any w1 (hs.ext h))
  have HT := Lib.hid (show ∀ w1, Calls Tryd.prog 21 #[tV v, .int .i64 s] w1 fun e w' => e = .returned (.tuple #[tV (0, 0), .int .i64 2]) ∧ Ext w1 w' from fun w1 => by
    have h' := sTurned_any v s w1
    rwa [turnedR, turnedE_no (by rw [smallB_within]; exact h), if_neg (by omega)] at h')
  have HV := Lib.hid (rVectorErr_any v)
  cases hr : rightB v with
  | false =>
    rw [hr] at HV
    clear h
    go_enter Tryd.func4, Tryd.ntmps4
    go_wp2_with (first | (go_at_call 15; refine (HW.out _ (by ((repeat' (first | with_reducible exact Ext.refl _ | assumption | with_reducible exact Ext.one _ | with_reducible refine Ext.alloc ?_ _ | with_reducible refine Ext.setCell ?_ ?_ _ | with_reducible refine Ext.drew ?_ | refine Ext.trans ?_ (by assumption))) <;> (try simp) <;> omega))).mono ?_; rintro e w3 ⟨rfl, hx3⟩; obtain ⟨hc3, hf3⟩ := bcell hx3; have hzw3_0 : w.heap.size < w3.heap.size := (by have := hx3.size; (try simp at this); omega)) | (go_at_call 21; refine (HT.out _).mono ?_; rintro e w4 ⟨rfl, hx4⟩; obtain ⟨hc4, hf4⟩ := bcell hx4; have hzw4_0 : w.heap.size < w4.heap.size := (by have := hx4.size; (try simp at this); omega)) | (go_at_call 19; refine (HV.out _).mono ?_; rintro e w5 ⟨rfl, hx5⟩; obtain ⟨hc5, hf5⟩ := bcell hx5; have hzw5_0 : w.heap.size < w5.heap.size := (by have := hx5.size; (try simp at this); omega); have hzw5_1 : w.heap.size + 1 < w5.heap.size := (by have := hx5.size; (try simp at this); omega); simp only [unlessE, Bool.false_eq_true, if_false]))
    go_ret
    exact ⟨rfl, by ((repeat' (first | with_reducible exact Ext.refl _ | assumption | with_reducible exact Ext.one _ | with_reducible refine Ext.alloc ?_ _ | with_reducible refine Ext.setCell ?_ ?_ _ | with_reducible refine Ext.drew ?_ | refine Ext.trans ?_ (by assumption))) <;> (try simp) <;> omega)⟩
  | true =>
    rw [hr] at HV
    have h' : withinB s (-1000000) 1000000 = false := by simpa [hr] using h
    clear h
    go_enter Tryd.func4, Tryd.ntmps4
    go_wp2_with (first | (go_at_call 15; refine (HW.out _ (by ((repeat' (first | with_reducible exact Ext.refl _ | assumption | with_reducible exact Ext.one _ | with_reducible refine Ext.alloc ?_ _ | with_reducible refine Ext.setCell ?_ ?_ _ | with_reducible refine Ext.drew ?_ | refine Ext.trans ?_ (by assumption))) <;> (try simp) <;> omega))).mono ?_; rintro e w3 ⟨rfl, hx3⟩; obtain ⟨hc3, hf3⟩ := bcell hx3; have hzw3_0 : w.heap.size < w3.heap.size := (by have := hx3.size; (try simp at this); omega)) | (go_at_call 21; refine (HT.out _).mono ?_; rintro e w4 ⟨rfl, hx4⟩; obtain ⟨hc4, hf4⟩ := bcell hx4; have hzw4_0 : w.heap.size < w4.heap.size := (by have := hx4.size; (try simp at this); omega)) | (go_at_call 19; refine (HV.out _).mono ?_; rintro e w5 ⟨rfl, hx5⟩; obtain ⟨hc5, hf5⟩ := bcell hx5; have hzw5_0 : w.heap.size < w5.heap.size := (by have := hx5.size; (try simp at this); omega); have hzw5_1 : w.heap.size + 1 < w5.heap.size := (by have := hx5.size; (try simp at this); omega); simp only [unlessE, if_true]) | first | (go_at_call 22; refine (bWithin_any _ _ _ _).mono ?_; rintro e wz ⟨rfl, rfl⟩))
    go_ret
    exact ⟨rfl, by ((repeat' (first | with_reducible exact Ext.refl _ | assumption | with_reducible exact Ext.one _ | with_reducible refine Ext.alloc ?_ _ | with_reducible refine Ext.setCell ?_ ?_ _ | with_reducible refine Ext.drew ?_ | refine Ext.trans ?_ (by assumption))) <;> (try simp) <;> omega)⟩

theorem stepP_ne {v : T2} (h : v ≠ (0, 0)) : stepP v ≠ (0, 0) := by
  obtain ⟨a, b⟩ := v
  intro e
  simp only [stepP, Prod.mk.injEq] at e
  apply h
  simp only [Prod.mk.injEq]
  omega
theorem secE_yes {v : T2} (h1 : rightB v = true) (h2 : v ≠ (0, 0)) : secE v = 0 := by
  unfold secE
  have : (v != (0, 0)) = true := by simpa using h2
  simp [h1, this, firstE, unlessE]
theorem sectorOf_yes (v : T2) (w : World) (h1 : rightB v = true) (h2 : v ≠ (0, 0)) :
    Calls Tryd.prog 25 #[tV v] w fun e w' => e = .returned (.tuple #[.int .i64 (secN 6 v), .int .i64 0]) ∧ Ext w w' := by
  have h := sectorOf_any v w
  rwa [secE_yes h1 h2, if_pos rfl] at h
theorem turnP3 (x : T2) : turnP 3 x = (-x.1, -x.2) := by
  obtain ⟨a, b⟩ := x
  simp only [turnP, stepP]; ext <;> simp only <;> omega
set_option maxRecDepth 100000 in
set_option maxHeartbeats 4000000 in
theorem statorTurns_yes (v : T2) (s : Int) (w : World) (hs : Sts w) (h1 : rightB v = true) (h2 : withinB s (-1000000) 1000000 = true) :
    Calls Tryd.prog 4 #[tV v, .int .i64 s] w fun e w' => e = .returned (.bool true) ∧ Ext w w' := by
  have HW := Lib.hid (fun w1 (h : Ext w w1) => awake_any w1 (hs.ext h))
  have HT := Lib.hid (fun w1 => sTurned_yes v s w1 h1 (by rw [smallB_within]; exact h2))
  have HN := Lib.hid (show ∀ w1, Calls Tryd.prog 24 #[tV (turnW (sixN s) v)] w1 fun e w' => e = .returned (.int .i64 (normW v)) ∧ Ext w1 w' from fun w1 => by
    have h := bTNorm_any (turnW (sixN s) v) w1
    rwa [norm_turnW v s h1] at h)
  have HR := Lib.hid (rTurned_any v s)
  have HNv := Lib.hid (bTNorm_any v)
  have hsm := right_sm h1
  have HT6 := Lib.hid (show ∀ w1, Calls Tryd.prog 21 #[tV v, .int .i64 6] w1 fun e w' => e = .returned (.tuple #[tV v, .int .i64 0]) ∧ Ext w1 w' from fun w1 => by
    have h := sTurned_yes v 6 w1 h1 (by decide +kernel)
    rwa [show turnW (sixN 6) v = v from rfl] at h)
  have HT3 := Lib.hid (show ∀ w1, Calls Tryd.prog 21 #[tV v, .int .i64 (-3)] w1 fun e w' => e = .returned (.tuple #[tV (-v.1, -v.2), .int .i64 0]) ∧ Ext w1 w' from fun w1 => by
    have h := sTurned_yes v (-3) w1 h1 (by decide +kernel)
    rwa [show sixN (-3) = 3 by decide, turnW_eq v 100000 hsm (by omega) 3 (by omega), turnP3] at h)
  have HT1 := Lib.hid (show ∀ w1, Calls Tryd.prog 21 #[tV v, .int .i64 1] w1 fun e w' => e = .returned (.tuple #[tV (stepP v), .int .i64 0]) ∧ Ext w1 w' from fun w1 => by
    have h := sTurned_yes v 1 w1 h1 (by decide +kernel)
    rwa [show sixN 1 = 1 by decide, turnW_eq v 100000 hsm (by omega) 1 (by omega), show turnP 1 v = stepP v from rfl] at h)
  have HV := Lib.hid (rVectorErr_any v)
  rw [h1] at HV
  have HV2 := Lib.hid (rVectorErr_any (stepP v))
  have HS := Lib.hid (fun w1 (h : v ≠ (0, 0)) => sectorOf_yes v w1 h1 h)
  have HS2 := Lib.hid (show ∀ w1, v ≠ (0, 0) → rightB (stepP v) = true → Calls Tryd.prog 25 #[tV (stepP v)] w1 fun e w' => e = .returned (.tuple #[.int .i64 (((secN 6 v : Int) + 1) % 6), .int .i64 0]) ∧ Ext w1 w' from fun w1 h h' => by
    have h := sectorOf_yes (stepP v) w1 h' (stepP_ne h)
    rwa [secN_step v (by assumption)] at h)
  have hB : v ≠ (0, 0) → 0 ≤ (secN 6 v : Int) ∧ (secN 6 v : Int) ≤ 5 := fun h => by have := (secN_in v h).1; omega
  have HB := Lib.hid hB
  obtain ⟨a, b⟩ := v
  simp only [Sm] at hsm
  obtain ⟨b1, b2, b3, b4⟩ := hsm
  generalize hX : turnW (sixN s) (a, b) = X at *
  generalize hM : stepP (a, b) = M at *
  generalize hC : rightB M = C at *
  generalize hN : (secN 6 (a, b) : Int) = N at *
  generalize hL : normW (a, b) = L at *
  clear hX hM hL hN h1 hB
  by_cases hz : (a, b) = ((0, 0) : T2)
  · obtain ⟨rfl, rfl⟩ : a = 0 ∧ b = 0 := by simpa using hz
    clear HS HS2 HB hz hC
    go_enter Tryd.func4, Tryd.ntmps4
    go_wp2_with (first | (go_at_call 15; (with_reducible refine (HW.out _ (by ((repeat' (first | with_reducible exact Ext.refl _ | assumption | with_reducible exact Ext.one _ | with_reducible refine Ext.alloc ?_ _ | with_reducible refine Ext.setCell ?_ ?_ _ | with_reducible refine Ext.drew ?_ | refine Ext.trans ?_ (by assumption))) <;> (try simp) <;> omega))).mono ?_); rintro e w3 ⟨rfl, hx3⟩; obtain ⟨hc3, hf3⟩ := bcell hx3; have hzw3_0 : w.heap.size < w3.heap.size := (by have := hx3.size; (try simp at this); omega)) | (go_at_call 21; (with_reducible refine (HT.out _).mono ?_); rintro e w4 ⟨rfl, hx4⟩; obtain ⟨hc4, hf4⟩ := bcell hx4; have hzw4_0 : w.heap.size < w4.heap.size := (by have := hx4.size; (try simp at this); omega)) | ((go_at_call 19; (with_reducible refine (HV.out _).mono ?_); rintro e w5 ⟨rfl, hx5⟩; obtain ⟨hc5, hf5⟩ := bcell hx5; have hzw5_0 : w.heap.size < w5.heap.size := (by have := hx5.size; (try simp at this); omega); have hy5_w4_0 : w4.heap.size < w5.heap.size := (by have := hx5.size; (try simp at this); omega)); simp only [unlessE, if_true]) | first | (go_at_call 22; refine (bWithin_any _ _ _ _).mono ?_; rintro e wz ⟨rfl, rfl⟩))
    apply wp_region_guard 16 [.is _, .is _, .is _, .is _, .is _, .is _, .is _, .is _, .is _, .is _, .is _, .is _, .is _, .is _, .is _, .is _] (by kernel_rfl) (by kernel_rfl) (fun V => ?steps) (fun V w6 hx_w6 hf_w6 => ?tail)
    case steps =>
      simp only [List.take, Region.binds, mode_text, mode_gc, if_true, true_and, Bool.false_eq_true, if_false, List.drop, StepsU, StepsG, putsAll, FactsAt, Fs, val, List.getD_cons_zero, List.getD_cons_succ, List.getD_nil, SF.is, SF.rd, SF.any, SF.box, Option.getD_some, Option.getD_none, Act.put, List.setIfInBounds_toArray, List.set_cons_zero, List.set_cons_succ]
      refine ⟨?_, ?_, ?_, ?_, ?_, ?_, ?_, ?_, ?_, ?_, ?_, ?_, ?_, ?_, ?_, ?_, trivial⟩ <;> (intro w2 hx hf; obtain ⟨hc, hfz⟩ := bcell hx; go_simp; (try simp only [wrap_eq]); first
        | exact Post.mk rfl (Ext.refl _)
        | rfl
        | (refine Post.mk ?_ (Ext.refl _); (simp <;> omega); done)
        | exact Post.mk ⟨_, _, rfl, Nat.le_refl _, Rd.new _ _ _ _ _ rfl⟩ ((Ext.refl _).alloc _)
        | (refine Post.mk ⟨_, rfl, ?_, Bx.new _ _ _⟩ ((Ext.refl _).alloc _); have := hx.size; (try simp at this); (try simp); omega)
        | ((with_reducible refine CallTo.of (HR.out _) ?_); exact fun _ _ => rfl)
        | ((with_reducible refine CallTo.of (HN.out _) ?_); exact fun _ _ => rfl)
        | ((with_reducible refine CallTo.of (HNv.out _) ?_); exact fun _ _ => rfl))
    case tail =>
    simp only [FactsTo, List.take, Region.binds, mode_text, mode_gc, if_true, true_and, Bool.false_eq_true, if_false, List.drop, StepsU, StepsG, putsAll, FactsAt, Fs, val, List.getD_cons_zero, List.getD_cons_succ, List.getD_nil, SF.is, SF.rd, SF.any, SF.box, Option.getD_some, Option.getD_none, Act.put, List.setIfInBounds_toArray, List.set_cons_zero, List.set_cons_succ] at hf_w6 ⊢
    obtain ⟨hc_w6, hfz_w6⟩ := bcell hx_w6
    clear hf_w6 HT HR HN HNv
    have hzw6_0 : w.heap.size < w6.heap.size := (by have := hx_w6.size; (try simp at this); omega); have hy6_w4_0 : w4.heap.size < w6.heap.size := (by have := hx_w6.size; (try simp at this); omega)
    go_wp2_with (first | (go_at_call 21; (with_reducible refine (HT6.out _).mono ?_); rintro e w7 ⟨rfl, hx7⟩; obtain ⟨hc7, hf7⟩ := bcell hx7; have hzw7_0 : w.heap.size < w7.heap.size := (by have := hx7.size; (try simp at this); omega); have hy7_w4_0 : w4.heap.size < w7.heap.size := (by have := hx7.size; (try simp at this); omega)) | (go_at_call 21; (with_reducible refine (HT3.out _).mono ?_); rintro e w8 ⟨rfl, hx8⟩; obtain ⟨hc8, hf8⟩ := bcell hx8; have hzw8_0 : w.heap.size < w8.heap.size := (by have := hx8.size; (try simp at this); omega); have hy8_w4_0 : w4.heap.size < w8.heap.size := (by have := hx8.size; (try simp at this); omega); have hy8_w7_0 : w7.heap.size < w8.heap.size := (by have := hx8.size; (try simp at this); omega)) | (go_at_call 21; (with_reducible refine (HT1.out _).mono ?_); rintro e w9 ⟨rfl, hx9⟩; obtain ⟨hc9, hf9⟩ := bcell hx9; have hzw9_0 : w.heap.size < w9.heap.size := (by have := hx9.size; (try simp at this); omega); have hy9_w4_0 : w4.heap.size < w9.heap.size := (by have := hx9.size; (try simp at this); omega); have hy9_w7_0 : w7.heap.size < w9.heap.size := (by have := hx9.size; (try simp at this); omega); have hy9_w8_0 : w8.heap.size < w9.heap.size := (by have := hx9.size; (try simp at this); omega)) | ((go_at_call 19; (with_reducible refine (HV2.out _).mono ?_); rintro e w10 ⟨rfl, hx10⟩; obtain ⟨hc10, hf10⟩ := bcell hx10; have hzw10_0 : w.heap.size < w10.heap.size := (by have := hx10.size; (try simp at this); omega); have hy10_w4_0 : w4.heap.size < w10.heap.size := (by have := hx10.size; (try simp at this); omega); have hy10_w7_0 : w7.heap.size < w10.heap.size := (by have := hx10.size; (try simp at this); omega); have hy10_w8_0 : w8.heap.size < w10.heap.size := (by have := hx10.size; (try simp at this); omega); have hy10_w9_0 : w9.heap.size < w10.heap.size := (by have := hx10.size; (try simp at this); omega)); simp only [unlessE, Bool.false_eq_true, if_false, if_true]))
    go_ret
    exact ⟨rfl, by ((repeat' (first | with_reducible exact Ext.refl _ | assumption | with_reducible exact Ext.one _ | with_reducible refine Ext.alloc ?_ _ | with_reducible refine Ext.setCell ?_ ?_ _ | with_reducible refine Ext.drew ?_ | refine Ext.trans ?_ (by assumption))) <;> (try simp) <;> omega)⟩
  · have HSa := Lib.hid (fun w1 => HS.out w1 hz)
    have HBa := HB.out hz
    obtain ⟨n1, n2⟩ := HBa
    have hz' : a ≠ 0 ∨ (a = 0 ∧ b ≠ 0) := by
      by_cases ha : a = 0
      · right; refine ⟨ha, ?_⟩; rintro rfl; exact hz (by rw [ha])
      · exact .inl ha
    clear HS HB
    have HWI := Lib.hid (show withinB N 0 5 = true by simp [withinB, n1, n2])
    have HI := Lib.hid (show ∀ w1 : World, Calls Tryd.prog 22 #[.int .i64 N, .int .i64 0, .int .i64 5] w1 fun e w' => e = .returned (.bool true) ∧ Ext w1 w' from fun w1 => by
      have h := bWithin_any N 0 5 w1
      rw [HWI.out] at h
      exact h.mono fun _ _ ⟨h1, h2⟩ => ⟨h1, h2 ▸ Ext.refl _⟩)
    cases hC' : C with
    | false =>
      subst hC'
      clear HS2 hz hC HI HWI
      rcases hz' with ha | ⟨rfl, hb⟩
      all_goals
        go_enter Tryd.func4, Tryd.ntmps4
        go_wp2_with (first | (go_at_call 15; (with_reducible refine (HW.out _ (by ((repeat' (first | with_reducible exact Ext.refl _ | assumption | with_reducible exact Ext.one _ | with_reducible refine Ext.alloc ?_ _ | with_reducible refine Ext.setCell ?_ ?_ _ | with_reducible refine Ext.drew ?_ | refine Ext.trans ?_ (by assumption))) <;> (try simp) <;> omega))).mono ?_); rintro e w3 ⟨rfl, hx3⟩; obtain ⟨hc3, hf3⟩ := bcell hx3; have hzw3_0 : w.heap.size < w3.heap.size := (by have := hx3.size; (try simp at this); omega)) | (go_at_call 21; (with_reducible refine (HT.out _).mono ?_); rintro e w4 ⟨rfl, hx4⟩; obtain ⟨hc4, hf4⟩ := bcell hx4; have hzw4_0 : w.heap.size < w4.heap.size := (by have := hx4.size; (try simp at this); omega)) | ((go_at_call 19; (with_reducible refine (HV.out _).mono ?_); rintro e w5 ⟨rfl, hx5⟩; obtain ⟨hc5, hf5⟩ := bcell hx5; have hzw5_0 : w.heap.size < w5.heap.size := (by have := hx5.size; (try simp at this); omega); have hy5_w4_0 : w4.heap.size < w5.heap.size := (by have := hx5.size; (try simp at this); omega)); simp only [unlessE, if_true]) | first | (go_at_call 22; refine (bWithin_any _ _ _ _).mono ?_; rintro e wz ⟨rfl, rfl⟩))
        apply wp_region_guard 16 [.is _, .is _, .is _, .is _, .is _, .is _, .is _, .is _, .is _, .is _, .is _, .is _, .is _, .is _, .is _, .is _] (by kernel_rfl) (by kernel_rfl) (fun V => ?steps) (fun V w6 hx_w6 hf_w6 => ?tail)
        case steps =>
          simp only [List.take, Region.binds, mode_text, mode_gc, if_true, true_and, Bool.false_eq_true, if_false, List.drop, StepsU, StepsG, putsAll, FactsAt, Fs, val, List.getD_cons_zero, List.getD_cons_succ, List.getD_nil, SF.is, SF.rd, SF.any, SF.box, Option.getD_some, Option.getD_none, Act.put, List.setIfInBounds_toArray, List.set_cons_zero, List.set_cons_succ]
          refine ⟨?_, ?_, ?_, ?_, ?_, ?_, ?_, ?_, ?_, ?_, ?_, ?_, ?_, ?_, ?_, ?_, trivial⟩ <;> (intro w2 hx hf; obtain ⟨hc, hfz⟩ := bcell hx; go_simp; (try simp only [wrap_eq]); first
            | exact Post.mk rfl (Ext.refl _)
            | rfl
            | (refine Post.mk ?_ (Ext.refl _); (simp <;> omega); done)
            | exact Post.mk ⟨_, _, rfl, Nat.le_refl _, Rd.new _ _ _ _ _ rfl⟩ ((Ext.refl _).alloc _)
            | (refine Post.mk ⟨_, rfl, ?_, Bx.new _ _ _⟩ ((Ext.refl _).alloc _); have := hx.size; (try simp at this); (try simp); omega)
            | ((with_reducible refine CallTo.of (HR.out _) ?_); exact fun _ _ => rfl)
            | ((with_reducible refine CallTo.of (HN.out _) ?_); exact fun _ _ => rfl)
            | ((with_reducible refine CallTo.of (HNv.out _) ?_); exact fun _ _ => rfl))
        case tail =>
        simp only [FactsTo, List.take, Region.binds, mode_text, mode_gc, if_true, true_and, Bool.false_eq_true, if_false, List.drop, StepsU, StepsG, putsAll, FactsAt, Fs, val, List.getD_cons_zero, List.getD_cons_succ, List.getD_nil, SF.is, SF.rd, SF.any, SF.box, Option.getD_some, Option.getD_none, Act.put, List.setIfInBounds_toArray, List.set_cons_zero, List.set_cons_succ] at hf_w6 ⊢
        obtain ⟨hc_w6, hfz_w6⟩ := bcell hx_w6
        clear hf_w6 HT HR HN HNv
        have hzw6_0 : w.heap.size < w6.heap.size := (by have := hx_w6.size; (try simp at this); omega); have hy6_w4_0 : w4.heap.size < w6.heap.size := (by have := hx_w6.size; (try simp at this); omega)
        go_wp2_with (first | (go_at_call 21; (with_reducible refine (HT6.out _).mono ?_); rintro e w7 ⟨rfl, hx7⟩; obtain ⟨hc7, hf7⟩ := bcell hx7; have hzw7_0 : w.heap.size < w7.heap.size := (by have := hx7.size; (try simp at this); omega); have hy7_w4_0 : w4.heap.size < w7.heap.size := (by have := hx7.size; (try simp at this); omega)) | (go_at_call 21; (with_reducible refine (HT3.out _).mono ?_); rintro e w8 ⟨rfl, hx8⟩; obtain ⟨hc8, hf8⟩ := bcell hx8; have hzw8_0 : w.heap.size < w8.heap.size := (by have := hx8.size; (try simp at this); omega); have hy8_w4_0 : w4.heap.size < w8.heap.size := (by have := hx8.size; (try simp at this); omega); have hy8_w7_0 : w7.heap.size < w8.heap.size := (by have := hx8.size; (try simp at this); omega)) | (go_at_call 21; (with_reducible refine (HT1.out _).mono ?_); rintro e w9 ⟨rfl, hx9⟩; obtain ⟨hc9, hf9⟩ := bcell hx9; have hzw9_0 : w.heap.size < w9.heap.size := (by have := hx9.size; (try simp at this); omega); have hy9_w4_0 : w4.heap.size < w9.heap.size := (by have := hx9.size; (try simp at this); omega); have hy9_w7_0 : w7.heap.size < w9.heap.size := (by have := hx9.size; (try simp at this); omega); have hy9_w8_0 : w8.heap.size < w9.heap.size := (by have := hx9.size; (try simp at this); omega)) | ((go_at_call 19; (with_reducible refine (HV2.out _).mono ?_); rintro e w10 ⟨rfl, hx10⟩; obtain ⟨hc10, hf10⟩ := bcell hx10; have hzw10_0 : w.heap.size < w10.heap.size := (by have := hx10.size; (try simp at this); omega); have hy10_w4_0 : w4.heap.size < w10.heap.size := (by have := hx10.size; (try simp at this); omega); have hy10_w7_0 : w7.heap.size < w10.heap.size := (by have := hx10.size; (try simp at this); omega); have hy10_w8_0 : w8.heap.size < w10.heap.size := (by have := hx10.size; (try simp at this); omega); have hy10_w9_0 : w9.heap.size < w10.heap.size := (by have := hx10.size; (try simp at this); omega)); simp only [unlessE, Bool.false_eq_true, if_false, if_true]))
        go_ret
        exact ⟨rfl, by ((repeat' (first | with_reducible exact Ext.refl _ | assumption | with_reducible exact Ext.one _ | with_reducible refine Ext.alloc ?_ _ | with_reducible refine Ext.setCell ?_ ?_ _ | with_reducible refine Ext.drew ?_ | refine Ext.trans ?_ (by assumption))) <;> (try simp) <;> omega)⟩
    | true =>
      subst hC'
      have HSb := Lib.hid (fun w1 => HS2.out w1 hz rfl)
      clear HS2 hz hC HWI
      rcases hz' with ha | ⟨rfl, hb⟩
      all_goals
        go_enter Tryd.func4, Tryd.ntmps4
        go_wp2_with (first | (go_at_call 15; (with_reducible refine (HW.out _ (by ((repeat' (first | with_reducible exact Ext.refl _ | assumption | with_reducible exact Ext.one _ | with_reducible refine Ext.alloc ?_ _ | with_reducible refine Ext.setCell ?_ ?_ _ | with_reducible refine Ext.drew ?_ | refine Ext.trans ?_ (by assumption))) <;> (try simp) <;> omega))).mono ?_); rintro e w3 ⟨rfl, hx3⟩; obtain ⟨hc3, hf3⟩ := bcell hx3; have hzw3_0 : w.heap.size < w3.heap.size := (by have := hx3.size; (try simp at this); omega)) | (go_at_call 21; (with_reducible refine (HT.out _).mono ?_); rintro e w4 ⟨rfl, hx4⟩; obtain ⟨hc4, hf4⟩ := bcell hx4; have hzw4_0 : w.heap.size < w4.heap.size := (by have := hx4.size; (try simp at this); omega)) | ((go_at_call 19; (with_reducible refine (HV.out _).mono ?_); rintro e w5 ⟨rfl, hx5⟩; obtain ⟨hc5, hf5⟩ := bcell hx5; have hzw5_0 : w.heap.size < w5.heap.size := (by have := hx5.size; (try simp at this); omega); have hy5_w4_0 : w4.heap.size < w5.heap.size := (by have := hx5.size; (try simp at this); omega)); simp only [unlessE, if_true]) | first | (go_at_call 22; refine (bWithin_any _ _ _ _).mono ?_; rintro e wz ⟨rfl, rfl⟩))
        apply wp_region_guard 16 [.is _, .is _, .is _, .is _, .is _, .is _, .is _, .is _, .is _, .is _, .is _, .is _, .is _, .is _, .is _, .is _] (by kernel_rfl) (by kernel_rfl) (fun V => ?steps) (fun V w6 hx_w6 hf_w6 => ?tail)
        case steps =>
          simp only [List.take, Region.binds, mode_text, mode_gc, if_true, true_and, Bool.false_eq_true, if_false, List.drop, StepsU, StepsG, putsAll, FactsAt, Fs, val, List.getD_cons_zero, List.getD_cons_succ, List.getD_nil, SF.is, SF.rd, SF.any, SF.box, Option.getD_some, Option.getD_none, Act.put, List.setIfInBounds_toArray, List.set_cons_zero, List.set_cons_succ]
          refine ⟨?_, ?_, ?_, ?_, ?_, ?_, ?_, ?_, ?_, ?_, ?_, ?_, ?_, ?_, ?_, ?_, trivial⟩ <;> (intro w2 hx hf; obtain ⟨hc, hfz⟩ := bcell hx; go_simp; (try simp only [wrap_eq]); first
            | exact Post.mk rfl (Ext.refl _)
            | rfl
            | (refine Post.mk ?_ (Ext.refl _); (simp <;> omega); done)
            | exact Post.mk ⟨_, _, rfl, Nat.le_refl _, Rd.new _ _ _ _ _ rfl⟩ ((Ext.refl _).alloc _)
            | (refine Post.mk ⟨_, rfl, ?_, Bx.new _ _ _⟩ ((Ext.refl _).alloc _); have := hx.size; (try simp at this); (try simp); omega)
            | ((with_reducible refine CallTo.of (HR.out _) ?_); exact fun _ _ => rfl)
            | ((with_reducible refine CallTo.of (HN.out _) ?_); exact fun _ _ => rfl)
            | ((with_reducible refine CallTo.of (HNv.out _) ?_); exact fun _ _ => rfl))
        case tail =>
        simp only [FactsTo, List.take, Region.binds, mode_text, mode_gc, if_true, true_and, Bool.false_eq_true, if_false, List.drop, StepsU, StepsG, putsAll, FactsAt, Fs, val, List.getD_cons_zero, List.getD_cons_succ, List.getD_nil, SF.is, SF.rd, SF.any, SF.box, Option.getD_some, Option.getD_none, Act.put, List.setIfInBounds_toArray, List.set_cons_zero, List.set_cons_succ] at hf_w6 ⊢
        obtain ⟨hc_w6, hfz_w6⟩ := bcell hx_w6
        clear hf_w6 HT HR HN HNv
        have hzw6_0 : w.heap.size < w6.heap.size := (by have := hx_w6.size; (try simp at this); omega); have hy6_w4_0 : w4.heap.size < w6.heap.size := (by have := hx_w6.size; (try simp at this); omega)
        go_wp2_with (first | (go_at_call 21; (with_reducible refine (HT6.out _).mono ?_); rintro e w7 ⟨rfl, hx7⟩; obtain ⟨hc7, hf7⟩ := bcell hx7; have hzw7_0 : w.heap.size < w7.heap.size := (by have := hx7.size; (try simp at this); omega); have hy7_w4_0 : w4.heap.size < w7.heap.size := (by have := hx7.size; (try simp at this); omega)) | (go_at_call 21; (with_reducible refine (HT3.out _).mono ?_); rintro e w8 ⟨rfl, hx8⟩; obtain ⟨hc8, hf8⟩ := bcell hx8; have hzw8_0 : w.heap.size < w8.heap.size := (by have := hx8.size; (try simp at this); omega); have hy8_w4_0 : w4.heap.size < w8.heap.size := (by have := hx8.size; (try simp at this); omega); have hy8_w7_0 : w7.heap.size < w8.heap.size := (by have := hx8.size; (try simp at this); omega)) | (go_at_call 21; (with_reducible refine (HT1.out _).mono ?_); rintro e w9 ⟨rfl, hx9⟩; obtain ⟨hc9, hf9⟩ := bcell hx9; have hzw9_0 : w.heap.size < w9.heap.size := (by have := hx9.size; (try simp at this); omega); have hy9_w4_0 : w4.heap.size < w9.heap.size := (by have := hx9.size; (try simp at this); omega); have hy9_w7_0 : w7.heap.size < w9.heap.size := (by have := hx9.size; (try simp at this); omega); have hy9_w8_0 : w8.heap.size < w9.heap.size := (by have := hx9.size; (try simp at this); omega)) | ((go_at_call 19; (with_reducible refine (HV2.out _).mono ?_); rintro e w10 ⟨rfl, hx10⟩; obtain ⟨hc10, hf10⟩ := bcell hx10; have hzw10_0 : w.heap.size < w10.heap.size := (by have := hx10.size; (try simp at this); omega); have hy10_w4_0 : w4.heap.size < w10.heap.size := (by have := hx10.size; (try simp at this); omega); have hy10_w7_0 : w7.heap.size < w10.heap.size := (by have := hx10.size; (try simp at this); omega); have hy10_w8_0 : w8.heap.size < w10.heap.size := (by have := hx10.size; (try simp at this); omega); have hy10_w9_0 : w9.heap.size < w10.heap.size := (by have := hx10.size; (try simp at this); omega)); simp only [unlessE, Bool.false_eq_true, if_false, if_true]) | (go_at_call 25; (with_reducible refine (HSa.out _).mono ?_); rintro e w11 ⟨rfl, hx11⟩; obtain ⟨hc11, hf11⟩ := bcell hx11; have hzw11_0 : w.heap.size < w11.heap.size := (by have := hx11.size; (try simp at this); omega); have hy11_w9_0 : w9.heap.size < w11.heap.size := (by have := hx11.size; (try simp at this); omega)) | (go_at_call 25; (with_reducible refine (HSb.out _).mono ?_); rintro e w12 ⟨rfl, hx12⟩; obtain ⟨hc12, hf12⟩ := bcell hx12; have hzw12_0 : w.heap.size < w12.heap.size := (by have := hx12.size; (try simp at this); omega); have hy12_w9_0 : w9.heap.size < w12.heap.size := (by have := hx12.size; (try simp at this); omega)) | (go_at_call 22; (with_reducible refine (HI.out _).mono ?_); rintro e w13 ⟨rfl, hx13⟩; obtain ⟨hc13, hf13⟩ := bcell hx13))
        go_ret
        exact ⟨rfl, by ((repeat' (first | with_reducible exact Ext.refl _ | assumption | with_reducible exact Ext.one _ | with_reducible refine Ext.alloc ?_ _ | with_reducible refine Ext.setCell ?_ ?_ _ | with_reducible refine Ext.drew ?_ | refine Ext.trans ?_ (by assumption))) <;> (try simp) <;> omega)⟩
theorem statorTurns_any (v : T2) (s : Int) (w : World) (hs : Sts w) :
    Calls Tryd.prog 4 #[tV v, .int .i64 s] w fun e w' => e = .returned (.bool true) ∧ Ext w w' := by
  by_cases h1 : rightB v = true
  · by_cases h2 : withinB s (-1000000) 1000000 = true
    · exact statorTurns_yes v s w hs h1 h2
    · exact statorTurns_no v s w hs (.inr (Bool.eq_false_iff.2 h2))
  · exact statorTurns_no v s w hs (.inl (Bool.eq_false_iff.2 h1))
end Go.Proofs.YtdbglpaejmhbjaaDoor
