/- Walks: the errors of numbers, vectors, lists of them; the forces of the reference. -/
import Derived.Test.YtdbglpaejmhbjaaDoorW2
namespace Go.Proofs.YtdbglpaejmhbjaaDoor
open Go Go.RowKit Go.Proofs
set_option linter.unusedSimpArgs false
set_option linter.unusedVariables false

set_option maxRecDepth 100000 in
set_option maxHeartbeats 1000000 in
theorem small_any (n m : Int) (w : World) : Calls Tryd.prog 88 #[.int .i64 n, .int .i64 m] w fun e w' => e = .returned (.bool (smallB n m)) ∧ w = w' := by
  go_enter Tryd.func88, Tryd.ntmps88
  go_wp2_with (first | (go_at_call 104; refine (within_any _ _ _ _).mono ?_; rintro e wz ⟨rfl, rfl⟩))
  go_ret
  exact ⟨rfl, rfl⟩
set_option maxRecDepth 100000 in
set_option maxHeartbeats 1000000 in
theorem rsize_any (n m : Int) (w : World) : Calls Tryd.prog 87 #[.int .i64 n, .int .i64 m] w fun e w' => e = .returned (.bool (smallB n m)) ∧ w = w' := by
  go_enter Tryd.func87, Tryd.ntmps87
  go_wp2_with (first | (go_at_call 22; refine (bWithin_any _ _ _ _).mono ?_; rintro e wz ⟨rfl, rfl⟩))
  go_ret
  exact ⟨rfl, rfl⟩
set_option maxRecDepth 100000 in
set_option maxHeartbeats 1000000 in
theorem isLength_any (n : Int) (w : World) : Calls Tryd.prog 93 #[.int .i64 n] w fun e w' => e = .returned (.bool (withinB n 1 1000000)) ∧ w = w' := by
  go_enter Tryd.func93, Tryd.ntmps93
  go_wp2_with (first | (go_at_call 104; refine (within_any _ _ _ _).mono ?_; rintro e wz ⟨rfl, rfl⟩))
  go_ret
  exact ⟨rfl, rfl⟩
set_option maxRecDepth 100000 in
set_option maxHeartbeats 1000000 in
theorem checkTrack1_any (n : Int) (w : World) : Calls Tryd.prog 92 #[.int .i64 n] w fun e w' => e = .returned (.bool (!withinB n 1 1000000)) ∧ w = w' := by
  go_enter Tryd.func92, Tryd.ntmps92
  go_wp2_with (first | (go_at_call 93; refine (isLength_any _ _).mono ?_; rintro e wz ⟨rfl, rfl⟩))
  go_ret
  exact ⟨rfl, rfl⟩
set_option maxRecDepth 100000 in
set_option maxHeartbeats 1000000 in
theorem phases1_any (n : Int) (w : World) : Calls Tryd.prog 126 #[.int .i64 n] w fun e w' => e = .returned (.bool (!smallB n 100000)) ∧ w = w' := by
  go_enter Tryd.func126, Tryd.ntmps126
  go_wp2_with (first | (go_at_call 88; refine (small_any _ _ _).mono ?_; rintro e wz ⟨rfl, rfl⟩))
  go_ret
  exact ⟨rfl, rfl⟩
set_option maxRecDepth 100000 in
set_option maxHeartbeats 1000000 in
theorem isNear1_any (n s : Int) (b o : Nat) (w : World) (hc : w.cell? ⟨b, o, none⟩ = some (.int .i64 s)) : Calls Tryd.prog 101 #[.int .i64 n, .pointer (some ⟨b, o, none⟩)] w fun e w' => e = .returned (.bool (!smallB n s)) ∧ w = w' := by
  go_enter Tryd.func101, Tryd.ntmps101
  go_wp2_with (first | (go_at_call 88; refine (small_any _ _ _).mono ?_; rintro e wz ⟨rfl, rfl⟩))
  go_ret
  exact ⟨rfl, rfl⟩
set_option maxRecDepth 100000 in
set_option maxHeartbeats 1000000 in
theorem right1_any (v : T2) (w : World) : Calls Tryd.prog 122 #[tV v] w fun e w' => e = .returned (.bool (!rightB v)) ∧ Ext w w' := by
  unfold rightB
  by_cases h1 : smallB v.1 100000 = true
  · go_enter Tryd.func122, Tryd.ntmps122
    go_wp2_with (first | (go_at_call 88; refine (small_any _ _ _).mono ?_; rintro e wz ⟨rfl, rfl⟩))
    go_ret
    exact ⟨ret_bool (by simp [h1]), by ((repeat' (first | with_reducible exact Ext.refl _ | with_reducible assumption | with_reducible exact Ext.one _ | with_reducible refine Ext.alloc ?_ _ | with_reducible refine Ext.setCell ?_ ?_ _ | with_reducible refine Ext.drew ?_ | ((with_reducible apply Ext.after'); (with_reducible assumption)))) <;> (try simp) <;> omega)⟩
  · replace h1 := Bool.eq_false_iff.2 h1
    go_enter Tryd.func122, Tryd.ntmps122
    go_wp2_with (first | (go_at_call 88; refine (small_any _ _ _).mono ?_; rintro e wz ⟨rfl, rfl⟩))
    go_ret
    exact ⟨ret_bool (by simp [h1]), by ((repeat' (first | with_reducible exact Ext.refl _ | with_reducible assumption | with_reducible exact Ext.one _ | with_reducible refine Ext.alloc ?_ _ | with_reducible refine Ext.setCell ?_ ?_ _ | with_reducible refine Ext.drew ?_ | ((with_reducible apply Ext.after'); (with_reducible assumption)))) <;> (try simp) <;> omega)⟩
set_option maxRecDepth 100000 in
set_option maxHeartbeats 1000000 in
theorem rVectorErr_any (v : T2) (w : World) : Calls Tryd.prog 19 #[tV v] w fun e w' => e = .returned (.int .i64 (unlessE (rightB v) 2)) ∧ Ext w w' := by
  unfold rightB
  by_cases h1 : smallB v.1 100000 = true
  · by_cases h2 : smallB v.2 100000 = true
    · go_enter Tryd.func19, Tryd.ntmps19
      go_wp2_with (first | (go_at_call 87; refine (rsize_any _ _ _).mono ?_; rintro e wz ⟨rfl, rfl⟩))
      go_ret
      exact ⟨ret_int (by simp [h1, h2, unlessE]), by ((repeat' (first | with_reducible exact Ext.refl _ | with_reducible assumption | with_reducible exact Ext.one _ | with_reducible refine Ext.alloc ?_ _ | with_reducible refine Ext.setCell ?_ ?_ _ | with_reducible refine Ext.drew ?_ | ((with_reducible apply Ext.after'); (with_reducible assumption)))) <;> (try simp) <;> omega)⟩
    · replace h2 := Bool.eq_false_iff.2 h2
      go_enter Tryd.func19, Tryd.ntmps19
      go_wp2_with (first | (go_at_call 87; refine (rsize_any _ _ _).mono ?_; rintro e wz ⟨rfl, rfl⟩))
      go_ret
      exact ⟨ret_int (by simp [h1, h2, unlessE]), by ((repeat' (first | with_reducible exact Ext.refl _ | with_reducible assumption | with_reducible exact Ext.one _ | with_reducible refine Ext.alloc ?_ _ | with_reducible refine Ext.setCell ?_ ?_ _ | with_reducible refine Ext.drew ?_ | ((with_reducible apply Ext.after'); (with_reducible assumption)))) <;> (try simp) <;> omega)⟩
  · replace h1 := Bool.eq_false_iff.2 h1
    go_enter Tryd.func19, Tryd.ntmps19
    go_wp2_with (first | (go_at_call 87; refine (rsize_any _ _ _).mono ?_; rintro e wz ⟨rfl, rfl⟩))
    go_ret
    exact ⟨ret_int (by simp [h1, unlessE]), by ((repeat' (first | with_reducible exact Ext.refl _ | with_reducible assumption | with_reducible exact Ext.one _ | with_reducible refine Ext.alloc ?_ _ | with_reducible refine Ext.setCell ?_ ?_ _ | with_reducible refine Ext.drew ?_ | ((with_reducible apply Ext.after'); (with_reducible assumption)))) <;> (try simp) <;> omega)⟩
set_option maxRecDepth 100000 in
set_option maxHeartbeats 1000000 in
theorem rScaleErr_any (n : Int) (w : World) : Calls Tryd.prog 60 #[.int .i64 n] w fun e w' => e = .returned (.int .i64 (unlessE (withinB n 1 100000) 2)) ∧ w = w' := by
  by_cases h1 : withinB n 1 100000 = true
  · go_enter Tryd.func60, Tryd.ntmps60
    go_wp2_with (first | (go_at_call 22; refine (bWithin_any _ _ _ _).mono ?_; rintro e wz ⟨rfl, rfl⟩))
    go_ret
    exact ⟨ret_int (by simp [h1, unlessE]), rfl⟩
  · replace h1 := Bool.eq_false_iff.2 h1
    go_enter Tryd.func60, Tryd.ntmps60
    go_wp2_with (first | (go_at_call 22; refine (bWithin_any _ _ _ _).mono ?_; rintro e wz ⟨rfl, rfl⟩))
    go_ret
    exact ⟨ret_int (by simp [h1, unlessE]), rfl⟩
set_option maxRecDepth 100000 in
set_option maxHeartbeats 1000000 in
theorem rIsState_any (n : Int) (w : World) : Calls Tryd.prog 57 #[.int .i64 n] w fun e w' => e = .returned (.bool (withinB n 0 7)) ∧ w = w' := by
  go_enter Tryd.func57, Tryd.ntmps57
  go_wp2_with (first | (go_at_call 22; refine (bWithin_any _ _ _ _).mono ?_; rintro e wz ⟨rfl, rfl⟩))
  go_ret
  exact ⟨rfl, rfl⟩
set_option maxRecDepth 100000 in
set_option maxHeartbeats 1000000 in
theorem rproduct_any (c f : T2) (w : World) : Calls Tryd.prog 113 #[tV c, tV f] w fun e w' => e = .returned (tV (productW c f)) ∧ Ext w w' := by
  go_enter Tryd.func113, Tryd.ntmps113
  go_wp2
  refine wp_region_ext 4 [.is (tV c), .is (tV f), .is (tV (conjW f)), .is (tV (productW c f))] (by kernel_rfl) (by kernel_rfl) (by kernel_rfl) (fun V => ?steps) (fun V w1 hx_w1 hf_w1 => ?tail)
  case steps =>
    simp only [List.take, Region.binds, mode_text, mode_gc, if_true, true_and, Bool.false_eq_true, if_false, List.drop, StepsU, StepsG, putsAll, FactsAt, Fs, val, List.getD_cons_zero, List.getD_cons_succ, List.getD_nil, SF.is, SF.rd, SF.any, SF.box, Option.getD_some, Option.getD_none, Act.put, List.setIfInBounds_toArray, List.set_cons_zero, List.set_cons_succ]
    refine ⟨?_, ?_, ?_, ?_, trivial⟩ <;> intro w2 hx hf <;> obtain ⟨hc, hfz⟩ := bcell hx <;> go_simp <;> (try simp only [wrap_eq])
    all_goals first
      | exact Post.mk rfl (Ext.refl _)
      | rfl
      | (refine Post.mk ?_ (Ext.refl _); (simp <;> omega); done)
      | exact Post.mk ⟨_, _, rfl, Nat.le_refl _, Rd.new _ _ _ _ _ rfl⟩ ((Ext.refl _).alloc _)
      | (refine Post.mk ⟨_, rfl, ?_, Bx.new _ _ _⟩ ((Ext.refl _).alloc _); have := hx.size; (try simp at this); (try simp); omega)
      | ((with_reducible refine CallTo.of (bTConj_any _ _) ?_); exact fun _ _ => rfl)
      | ((with_reducible refine CallTo.of (bTMul_any _ _ _) ?_); exact fun _ _ => rfl)
  case tail =>
  simp only [FactsTo, List.take, Region.binds, mode_text, mode_gc, if_true, true_and, Bool.false_eq_true, if_false, List.drop, StepsU, StepsG, putsAll, FactsAt, Fs, val, List.getD_cons_zero, List.getD_cons_succ, List.getD_nil, SF.is, SF.rd, SF.any, SF.box, Option.getD_some, Option.getD_none, Act.put, List.setIfInBounds_toArray, List.set_cons_zero, List.set_cons_succ] at hf_w1 ⊢
  obtain ⟨hc_w1, hfz_w1⟩ := bcell hx_w1
  go_wp2
  exact bodyPost_ret (v := tV (productW c f)) (by simp [results, Tryd.results113, go_sem, hc_w1]) rfl ⟨rfl, by ((repeat' (first | with_reducible exact Ext.refl _ | with_reducible assumption | with_reducible exact Ext.one _ | with_reducible refine Ext.alloc ?_ _ | with_reducible refine Ext.setCell ?_ ?_ _ | with_reducible refine Ext.drew ?_ | ((with_reducible apply Ext.after'); (with_reducible assumption)))) <;> (try simp) <;> omega)⟩
set_option maxRecDepth 100000 in
set_option maxHeartbeats 1000000 in
theorem rForceOf_any (c f : T2) (w : World) : Calls Tryd.prog 55 #[tV c, tV f] w fun e w' => e = .returned (.int .i64 (productW c f).2) ∧ Ext w w' := by
  go_enter Tryd.func55, Tryd.ntmps55
  go_wp2_with (first | (go_at_call 113; refine (rproduct_any _ _ _).mono ?_; rintro e wz ⟨rfl, hxz⟩; obtain ⟨hcz, hfz⟩ := bcell hxz))
  go_ret
  exact ⟨rfl, by ((repeat' (first | with_reducible exact Ext.refl _ | with_reducible assumption | with_reducible exact Ext.one _ | with_reducible refine Ext.alloc ?_ _ | with_reducible refine Ext.setCell ?_ ?_ _ | with_reducible refine Ext.drew ?_ | ((with_reducible apply Ext.after'); (with_reducible assumption)))) <;> (try simp) <;> omega)⟩
set_option maxRecDepth 100000 in
set_option maxHeartbeats 1000000 in
theorem even1_any (c f : T2) (q : Int) (b1 b2 : Nat) (w : World) (hf0 : w.cell? ⟨b1, 0, none⟩ = some (.int .i64 f.1)) (hf1 : w.cell? ⟨b1, 1, none⟩ = some (.int .i64 f.2)) (hq : w.cell? ⟨b2, 0, none⟩ = some (.int .i64 q)) :
    Calls Tryd.prog 85 #[tV c, .pointer (some ⟨b1, 0, none⟩), .pointer (some ⟨b2, 0, none⟩)] w fun e w' => e = .returned (.bool ((productW c f).2 != q)) ∧ Ext w w' := by
  have l1 := World.block_lt_of_cell? w _ hf0
  have l2 := World.block_lt_of_cell? w _ hq
  simp only at l1 l2
  have l1' := Nat.le_of_lt l1
  have l2' := Nat.le_of_lt l2
  go_enter Tryd.func85, Tryd.ntmps85
  go_wp2
  refine wp_region_ext 6 [.is (tV c), .is (tV f), .is (tV (productW c f)), .is (.int .i64 (productW c f).2), .is (.int .i64 q), .is (.bool ((productW c f).2 != q))] (by kernel_rfl) (by kernel_rfl) (by kernel_rfl) (fun V => ?steps) (fun V w1 hx_w1 hf_w1 => ?tail)
  case steps =>
    simp only [List.take, Region.binds, mode_text, mode_gc, if_true, true_and, Bool.false_eq_true, if_false, List.drop, StepsU, StepsG, putsAll, FactsAt, Fs, val, List.getD_cons_zero, List.getD_cons_succ, List.getD_nil, SF.is, SF.rd, SF.any, SF.box, Option.getD_some, Option.getD_none, Act.put, List.setIfInBounds_toArray, List.set_cons_zero, List.set_cons_succ]
    refine ⟨?_, ?_, ?_, ?_, ?_, ?_, trivial⟩ <;> intro w2 hx hf <;> obtain ⟨hc, hfz⟩ := bcell hx <;> go_simp <;> (try simp only [wrap_eq])
    all_goals first
      | exact Post.mk rfl (Ext.refl _)
      | rfl
      | (refine Post.mk ?_ (Ext.refl _); (simp <;> omega); done)
      | exact Post.mk ⟨_, _, rfl, Nat.le_refl _, Rd.new _ _ _ _ _ rfl⟩ ((Ext.refl _).alloc _)
      | (refine Post.mk ⟨_, rfl, ?_, Bx.new _ _ _⟩ ((Ext.refl _).alloc _); have := hx.size; (try simp at this); (try simp); omega)
      | ((with_reducible refine CallTo.of (product_any _ _ _) ?_); exact fun _ _ => rfl)
  case tail =>
  simp only [FactsTo, List.take, Region.binds, mode_text, mode_gc, if_true, true_and, Bool.false_eq_true, if_false, List.drop, StepsU, StepsG, putsAll, FactsAt, Fs, val, List.getD_cons_zero, List.getD_cons_succ, List.getD_nil, SF.is, SF.rd, SF.any, SF.box, Option.getD_some, Option.getD_none, Act.put, List.setIfInBounds_toArray, List.set_cons_zero, List.set_cons_succ] at hf_w1 ⊢
  obtain ⟨hc_w1, hfz_w1⟩ := bcell hx_w1
  go_wp2
  go_ret
  exact ⟨rfl, by ((repeat' (first | with_reducible exact Ext.refl _ | with_reducible assumption | with_reducible exact Ext.one _ | with_reducible refine Ext.alloc ?_ _ | with_reducible refine Ext.setCell ?_ ?_ _ | with_reducible refine Ext.drew ?_ | ((with_reducible apply Ext.after'); (with_reducible assumption)))) <;> (try simp) <;> omega)⟩
end Go.Proofs.YtdbglpaejmhbjaaDoor
