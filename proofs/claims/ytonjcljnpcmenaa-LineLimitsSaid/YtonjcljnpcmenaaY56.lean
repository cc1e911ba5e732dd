/- The law of chapter 1 on limits. No conditions on a program. -/
import Derived.Test.YtonjcljnpcmenaaM9
namespace Go.Proofs.Ytonjcljnpcmenaa
open Go Go.RowKit Go.Proofs
set_option linter.unusedSimpArgs false
set_option linter.unusedVariables false
theorem y56_fl26_1 : FldIs Try.prog 26 1 1 false 1 := by unfold FldIs; kernel_rfl
theorem y56_hcf12 : ∀ args w, (callFunc 12 args).run Try.prog w = .ok (.enter 12 args) w := fun _ _ => by kernel_rfl
theorem y56_hcf13 : ∀ args w, (callFunc 13 args).run Try.prog w = .ok (.enter 13 args) w := fun _ _ => by kernel_rfl
theorem y56_hcf14 : ∀ args w, (callFunc 14 args).run Try.prog w = .ok (.enter 14 args) w := fun _ _ => by kernel_rfl
theorem y56_hcf18 : ∀ args w, (callFunc 18 args).run Try.prog w = .ok (.enter 18 args) w := fun _ _ => by kernel_rfl
theorem y56_hcf23 : ∀ args w, (callFunc 23 args).run Try.prog w = .ok (.enter 23 args) w := fun _ _ => by kernel_rfl
theorem y56_hcf24 : ∀ args w, (callFunc 24 args).run Try.prog w = .ok (.enter 24 args) w := fun _ _ => by kernel_rfl
theorem y56_hcf25 : ∀ args w, (callFunc 25 args).run Try.prog w = .ok (.enter 25 args) w := fun _ _ => by kernel_rfl
theorem y56_hcf26 : ∀ args w, (callFunc 26 args).run Try.prog w = .ok (.enter 26 args) w := fun _ _ => by kernel_rfl
theorem y56_hcf27 : ∀ args w, (callFunc 27 args).run Try.prog w = .ok (.enter 27 args) w := fun _ _ => by kernel_rfl
theorem y56_hcf28 : ∀ args w, (callFunc 28 args).run Try.prog w = .ok (.enter 28 args) w := fun _ _ => by kernel_rfl
theorem y56_hcf29 : ∀ args w, (callFunc 29 args).run Try.prog w = .ok (.enter 29 args) w := fun _ _ => by kernel_rfl
theorem y56_sl22 : SlIs Try.prog 22 70 4 32 (.agg #[.int .i64 0, .int .i64 0, .int .i64 0, .int .i64 0]) := ⟨by kernel_rfl, by kernel_rfl, by kernel_rfl⟩
theorem y56_sl49 : SlIs Try.prog 49 3 1 8 (.int .i64 0) := ⟨by kernel_rfl, by kernel_rfl, by kernel_rfl⟩
theorem y56_ty22 : TyIs Try.prog 22 false 1 := ⟨by kernel_rfl, by kernel_rfl⟩
theorem y56_ty26 : TyIs Try.prog 26 true 4 := ⟨by kernel_rfl, by kernel_rfl⟩

set_option maxRecDepth 100000 in
set_option maxHeartbeats 4000000 in
theorem rLimitsOf_ok (l : Lin) (h : Rgt l) (sd : Int) (hs : 0 ≤ sd ∧ sd ≤ 5000) : FnOk Try.prog 27 [lnA l, mA sd] (fun q => q = .row 1 ((limL l sd (l.js.length - 2)).map iE)) := by
  refine fnOk_of (fn := Try.f27) 23 (by kernel_rfl) rfl (by kernel_rfl) (Nat.le_of_ble_eq_true rfl) ?_
  intro e_0 m_0 hA hm_0
  have s0_0 : evA e_0 (.tmp 0) = _ := hA 0 _ rfl
  have s1_0 : evA e_0 (.tmp 1) = _ := hA 1 _ rfl
  have ml_0 : m_0.length = 0 := by rw [hm_0]; rfl
  clear hA hm_0
  have hn1 := h.n1; have hn0 := h.n0; have hjs := h.js
  refine aw_seq <| at_ <| al_stm (st_box s0_0 rfl ml_0) trivial rfl (fun m_1 hm_1 => ?_)
  have mo0_1 := m_push hm_1 ml_0
  have ml_1 := m_push_l hm_1 ml_0
  have ml_1 : _ = 1 := ml_1
  clear hm_1
  refine ar (ro_assign ev_c) rfl <| ae2 (u2 rfl s1_0) (up_m rfl up_h) ?_; clear s0_0 s1_0; intro e_2 s1_2 s2_2
  refine then_n <| aw_seq <| at_ <| ar (ro_assign ev_c) rfl <| ae3 (up_m rfl s1_2) (up_m rfl s2_2) up_h ?_; clear s1_2 s2_2; intro e_3 s1_3 s2_3 s5_3
  refine then_n <| aw_seq <| aw_seq <| at_ <| ar (ro_assign ev_c) rfl <| ae4 (up_m rfl s1_3) (up_m rfl s2_3) (up_m rfl s5_3) up_h ?_; clear s1_3 s2_3 s5_3; intro e_4 s1_4 s2_4 s5_4 s6_4
  refine then_n <| aw_block <| aw_adopt 3 1 s5_4 ml_1 (fun m_5 e_5 hm_5 he_5 => ?_)
  have mo1_5 := m_push hm_5 ml_1
  have mo0_5 := m_push_o hm_5 mo0_1
  have ml_5 := m_push_l hm_5 ml_1
  have ml_5 : _ = 2 := ml_5
  have s1_5 : evA e_5 (.tmp 1) = _ := (congrArg (fun q => evA q (.tmp 1)) he_5).trans (up_m rfl s1_4)
  have s2_5 : evA e_5 (.tmp 2) = _ := (congrArg (fun q => evA q (.tmp 2)) he_5).trans (up_m rfl s2_4)
  have s5_5 : evA e_5 (.tmp 5) = _ := (congrArg (fun q => evA q (.tmp 5)) he_5).trans up_h
  have s6_5 : evA e_5 (.tmp 6) = _ := (congrArg (fun q => evA q (.tmp 6)) he_5).trans (up_m rfl s6_4)
  clear hm_5 he_5
  refine aw_loop (S := (Int × List Int)) (fun s e mem => match s with | ⟨k, xs⟩ => (evA e (.tmp 6) = .v (.int .i64 k)) ∧ (evA e (.tmp 1) = evA e_5 (.tmp 1)) ∧ (evA e (.tmp 2) = evA e_5 (.tmp 2)) ∧ (mem[0]? = m_5[0]?) ∧ (∃ j, evA e (.tmp 5) = .own j ∧ mem[j]? = some (.row 3 1 (xs.map iE)) ∧ j ≠ 0) ∧ (∃ n, mem.length = n ∧ 2 ≤ n) ∧ ((1 ≤ k ∧ k + 1 ≤ l.js.length ∧ xs = limL l sd (k.toNat - 1)))) (fun s => match s with | ⟨k, xs⟩ => (l.js.length - k).toNat) ⟨_, []⟩ ⟨s6_5, rfl, rfl, rfl, ⟨_, s5_5, mo1_5, (by decide)⟩, ⟨_, ml_5, Nat.le_refl _⟩, ?_⟩ ?_
  · (exact ⟨by omega, by omega, rfl⟩)
  · rintro ⟨k, xs⟩ e_6 m_6 ⟨s6_6, k1_6, k2_6, mk0_6, ⟨j5_6, s5_6, mo_j5_6, nj5_0_6⟩, ⟨n_6, ml_6, hn_6⟩, hinv⟩
    have s1_6 := k1_6.trans s1_5
    have s2_6 := k2_6.trans s2_5
    have mo0_6 := mk0_6.trans mo0_5
    have jl5_6 := m_lt mo_j5_6 ml_6
    (obtain ⟨p1, p2, p3⟩ := hinv; have hxl : xs.length = k.toNat - 1 := (by rw [p3, limL_len]))
    refine aw_seq <| aw_seq <| at_ <| ar (ro_move s6_6) rfl ?_
    (refine ar (ro_add' up_h ev_c ?_) rfl ?_; · (unfold In64; omega))
    refine ar (ro_fld_ptr y56_fl26_1 rfl (u2 rfl s2_6)) rfl <| ar (ro_eq (ro_ld_ptr y56_ty22 rfl mo0_6 up_h (nle rfl)) (by simp only [pS, Value.cells, Nat.reduceAdd, one_iE, app_m] <;> rfl)) rfl ?_
    refine ar (ro_eq (ro_len_row up_h rfl y56_sl22.1) (by simp only [lnS] <;> rfl)) rfl ?_
    refine ar (ro_lss (up_m rfl (u2 rfl up_h)) up_h) rfl <| ae5 (u2 rfl (u4 rfl s1_6)) (u2 rfl (u4 rfl s2_6)) (u2 rfl (u4 rfl s5_6)) (u2 rfl (u4 rfl s6_6)) up_h ?_; clear s1_6 s2_6 s5_6 s6_6; intro e_7 s1_7 s2_7 s5_7 s6_7 s12_7
    refine then_n <| aw_case s12_7 (fun hq_8 => ?_) (fun hq_8 => ?_)
    ·replace hq_8 := bt hq_8
     (have lm := rLimitAt_ok l h sd hs k.toNat (by omega); rw [show ((k.toNat : Nat) : Int) = k by omega] at lm)
     refine aw_skip <| then_n <| aw_seq <| aw_block <| at_ <| ar (ro_move s5_7) rfl <| ar (ro_eq (ro_ld_ptr y56_ty26 rfl mo0_6 (up_m rfl s2_7) (nle rfl)) (by simp only [pS, Value.cells, Nat.reduceAdd, one_iE, app_m] <;> rfl)) rfl ?_
     refine ar (ro_move (u2 rfl s1_7)) rfl <| ar (ro_move (up_m rfl (u2 rfl s6_7))) rfl <| ar (ro_call (evL_cons (u2 rfl up_h) (evL_cons (up_m rfl up_h) (evL_cons up_h evL_nil))) rfl (lm) y56_hcf29) rfl <| ar (ro_lit y56_sl49 (evP_cons up_h evP_nil) rfl rfl rfl rfl) rfl <| al_stm (st_app y56_sl49 rfl ml_6 mo_j5_6 (up_m rfl (u4 rfl up_h)) up_h (by rfl) (by simp only [lnS] <;> omega)) trivial rfl (fun m_9 hm_9 => ?_)
     have mon_6_9 := m_swap hm_9 ml_6
     simp only [pS, Value.cells, Nat.reduceAdd, one_iE, app_m] at mon_6_9
     have mo0_9 := m_swap_o hm_9 mo0_6 (by omega)
     have ml_9 := m_swap_l hm_9 ml_6
     clear hm_9 mo0_6 mo_j5_6
     refine ar (ro_assign up_h) rfl <| ae4 (u8 rfl s1_7) (u8 rfl s2_7) up_h (u8 rfl s6_7) ?_; clear s12_7 s1_7 s2_7 s5_7 s6_7; intro e_10 s1_10 s2_10 s5_10 s6_10
     refine block_n <| then_n <| at_ <| ar (ro_move s6_10) rfl ?_
     (refine ar (ro_add' up_h ev_c ?_) rfl ?_; · (unfold In64; omega))
     refine ar (ro_assign up_h) rfl <| ae4 (up_m rfl (u2 rfl s1_10)) (up_m rfl (u2 rfl s2_10)) (up_m rfl (u2 rfl s5_10)) up_h ?_; clear s1_10 s2_10 s5_10 s6_10; intro e_11 s1_11 s2_11 s5_11 s6_11
     refine then_n <| ⟨⟨_, _⟩, ⟨s6_11, (s1_11.trans s1_5.symm), (s2_11.trans s2_5.symm), (mo0_9.trans mo0_5.symm), ⟨_, s5_11, mon_6_9, (by omega)⟩, ⟨_, ml_9, by omega⟩, ?_⟩, ?_⟩
     · (refine ⟨by omega, by omega, ?_⟩; rw [show (k + 1).toNat - 1 = (k.toNat - 1) + 1 by omega, limL_succ, ← p3, show k.toNat - 1 + 1 = k.toNat by omega])
     · ((try dsimp only); omega)
    replace hq_8 := bf hq_8
    refine aw_exit <| then_x <| then_x <| block_hit <| then_n <| aw_seq <| at_ <| ar (ro_move s5_7) rfl <| ar (ro_assign up_h) rfl <| ae1 up_h ?_; clear s12_7 s1_7 s2_7 s5_7 s6_7; intro e_12 s4_12
    refine then_n <| aw_ret <| ret1 (.inr rfl) (by kernel_rfl) (resV_tmp s4_12) (.own _ _ _ _ mo_j5_6) ?_
    clear s4_12 mo0_6 mo_j5_6 ml_6
    (have hx : xs = limL l sd (l.js.length - 2) := (by rw [p3]; congr 1; omega); rw [hx])
theorem limitAt_side (l : Lin) (hl : Sho l) (hg : (linM l).2 = 0) (s j : Int) (hs : sidE s ≠ 0) : FnOk Try.prog 23 [lnA l, mA s, mA j] (fun q => q = .tuple [mA 0, mA (sidE s)]) :=
  (limitAt_good l hl hg s j (fun hs2 n hn => limit_ok l (rgt_of hg) s hs2 n hn)).mono fun q h => by rw [h]; simp [limE, hs]
theorem limitAt_miss (l : Lin) (hl : Sho l) (hg : (linM l).2 = 0) (s j : Int) (hs : sidE s = 0) (hm : misE j 1 (l.js.length - 2) ≠ 0) : FnOk Try.prog 23 [lnA l, mA s, mA j] (fun q => q = .tuple [mA 0, mA (misE j 1 (l.js.length - 2))]) :=
  (limitAt_good l hl hg s j (fun hs2 n hn => limit_ok l (rgt_of hg) s hs2 n hn)).mono fun q h => by rw [h]; simp [limE, hs, hm]
set_option maxRecDepth 100000 in
set_option maxHeartbeats 4000000 in
theorem lineLimits_many (l : Lin) (hf : fewL l = false) (sd j : Int) : FnOk Try.prog 4 [lnA l, mA sd, mA j] (fun q => q = tbA true) := by
  refine fnOk_of (fn := Try.f4) 89 (by kernel_rfl) rfl (by kernel_rfl) (Nat.le_of_ble_eq_true rfl) ?_
  intro e_0 m_0 hA hm_0
  have s0_0 : evA e_0 (.tmp 0) = _ := hA 0 _ rfl
  have s1_0 : evA e_0 (.tmp 1) = _ := hA 1 _ rfl
  have s2_0 : evA e_0 (.tmp 2) = _ := hA 2 _ rfl
  have ml_0 : m_0.length = 0 := by rw [hm_0]; rfl
  clear hA hm_0
  refine aw_seq <| at_ <| al_stm (st_box s0_0 rfl ml_0) trivial rfl (fun m_1 hm_1 => ?_)
  have mo0_1 := m_push hm_1 ml_0
  have ml_1 := m_push_l hm_1 ml_0
  have ml_1 : _ = 1 := ml_1
  clear hm_1
  refine ar (ro_assign ev_c) rfl <| ae3 (u2 rfl s1_0) (u2 rfl s2_0) (up_m rfl up_h) ?_; clear s0_0 s1_0 s2_0; intro e_2 s1_2 s2_2 s3_2
  refine then_n <| aw_seq <| aw_seq <| at_ <| ar (ro_call evL_nil rfl (awake_ok) y56_hcf12) rfl <| ar (ro_not up_h) rfl <| ae4 (u2 rfl s1_2) (u2 rfl s2_2) (u2 rfl s3_2) up_h ?_; clear s1_2 s2_2 s3_2; intro e_3 s1_3 s2_3 s3_3 s13_3
  refine then_n <| aw_case s13_3 (fun hq_4 => ?_) (fun hq_4 => ?_)
  · cases hq_4
  replace hq_4 := bf' hq_4
  refine aw_skip <| then_n <| aw_seq <| aw_seq <| at_ <| ar (ro_eq (ro_ld_ptr y56_ty26 rfl mo0_1 s3_3 (nle rfl)) (by simp only [pS, Value.cells, Nat.reduceAdd] <;> rfl)) rfl ?_
  refine ar (ro_call (evL_cons up_h evL_nil) rfl ((fewL_ok l).mono (fun q h => h.trans (by rw [hf]))) y56_hcf13) rfl ?_
  refine ar (ro_not up_h) rfl <| ae4 (up_m rfl (u2 rfl s1_3)) (up_m rfl (u2 rfl s2_3)) (up_m rfl (u2 rfl s3_3)) up_h ?_; clear s13_3 s1_3 s2_3 s3_3; intro e_5 s1_5 s2_5 s3_5 s16_5
  refine then_n <| aw_case s16_5 (fun hq_6 => ?_) (fun hq_6 => ?_)
  ·replace hq_6 := bt' hq_6
   refine aw_seq <| at_ <| ar (ro_assign ev_c) rfl <| ae1 up_h ?_; clear s16_5 s1_5 s2_5 s3_5; intro e_7 s6_7
   refine then_n <| aw_ret <| then_r <| ret1 (.inr rfl) (by kernel_rfl) (resV_tmp s6_7) (.ro _ rfl) ?_
   clear s6_7 mo0_1 ml_1
   first | rfl | simp_all
  · cases hq_6
set_option maxRecDepth 100000 in
set_option maxHeartbeats 4000000 in
theorem lineLimits_bad (l : Lin) (hf : fewL l = true) (hb : (linM l).2 ≠ 0) (sd j : Int) : FnOk Try.prog 4 [lnA l, mA sd, mA j] (fun q => q = tbA true) := by
  refine fnOk_of (fn := Try.f4) 89 (by kernel_rfl) rfl (by kernel_rfl) (Nat.le_of_ble_eq_true rfl) ?_
  intro e_0 m_0 hA hm_0
  have s0_0 : evA e_0 (.tmp 0) = _ := hA 0 _ rfl
  have s1_0 : evA e_0 (.tmp 1) = _ := hA 1 _ rfl
  have s2_0 : evA e_0 (.tmp 2) = _ := hA 2 _ rfl
  have ml_0 : m_0.length = 0 := by rw [hm_0]; rfl
  clear hA hm_0
  have hl := fewL_sho hf
  refine aw_seq <| at_ <| al_stm (st_box s0_0 rfl ml_0) trivial rfl (fun m_1 hm_1 => ?_)
  have mo0_1 := m_push hm_1 ml_0
  have ml_1 := m_push_l hm_1 ml_0
  have ml_1 : _ = 1 := ml_1
  clear hm_1
  refine ar (ro_assign ev_c) rfl <| ae3 (u2 rfl s1_0) (u2 rfl s2_0) (up_m rfl up_h) ?_; clear s0_0 s1_0 s2_0; intro e_2 s1_2 s2_2 s3_2
  refine then_n <| aw_seq <| aw_seq <| at_ <| ar (ro_call evL_nil rfl (awake_ok) y56_hcf12) rfl <| ar (ro_not up_h) rfl <| ae4 (u2 rfl s1_2) (u2 rfl s2_2) (u2 rfl s3_2) up_h ?_; clear s1_2 s2_2 s3_2; intro e_3 s1_3 s2_3 s3_3 s13_3
  refine then_n <| aw_case s13_3 (fun hq_4 => ?_) (fun hq_4 => ?_)
  · cases hq_4
  replace hq_4 := bf' hq_4
  refine aw_skip <| then_n <| aw_seq <| aw_seq <| at_ <| ar (ro_eq (ro_ld_ptr y56_ty26 rfl mo0_1 s3_3 (nle rfl)) (by simp only [pS, Value.cells, Nat.reduceAdd] <;> rfl)) rfl ?_
  refine ar (ro_call (evL_cons up_h evL_nil) rfl ((fewL_ok l).mono (fun q h => h.trans (by rw [hf]))) y56_hcf13) rfl ?_
  refine ar (ro_not up_h) rfl <| ae4 (up_m rfl (u2 rfl s1_3)) (up_m rfl (u2 rfl s2_3)) (up_m rfl (u2 rfl s3_3)) up_h ?_; clear s13_3 s1_3 s2_3 s3_3; intro e_5 s1_5 s2_5 s3_5 s16_5
  refine then_n <| aw_case s16_5 (fun hq_6 => ?_) (fun hq_6 => ?_)
  · cases hq_6
  replace hq_6 := bf' hq_6
  refine aw_skip <| then_n <| aw_seq <| at_ <| ar (ro_eq (ro_ld_ptr y56_ty26 rfl mo0_1 s3_5 (nle rfl)) (by simp only [pS, Value.cells, Nat.reduceAdd] <;> rfl)) rfl ?_
  refine ar (ro_call (evL_cons up_h evL_nil) rfl (yCopy_ok l hl) y56_hcf18) rfl <| ar (ro_move (u2 rfl s1_5)) rfl <| ar (ro_move (up_m rfl (u2 rfl s2_5))) rfl <| ar (ro_call (evL_cons (u2 rfl up_h) (evL_cons (up_m rfl up_h) (evL_cons up_h evL_nil))) rfl (limitAt_bad l hl hb sd j) y56_hcf23) rfl <| ar (ro_move up_h) rfl <| ar (ro_extract up_h rfl) rfl <| ar (ro_extract (up_m rfl up_h) rfl) rfl <| ar (ro_assign (up_m rfl up_h)) rfl <| ar (ro_assign (up_m rfl up_h)) rfl <| ae5 (u2 rfl (u8 rfl s1_5)) (u2 rfl (u8 rfl s2_5)) (u2 rfl (u8 rfl s3_5)) (up_m rfl up_h) up_h ?_; clear s16_5 s1_5 s2_5 s3_5; intro e_7 s1_7 s2_7 s3_7 s7_7 s8_7
  refine then_n <| aw_seq <| at_ <| ar (ro_eq (ro_ld_ptr y56_ty26 rfl mo0_1 s3_7 (nle rfl)) (by simp only [pS, Value.cells, Nat.reduceAdd] <;> rfl)) rfl ?_
  refine ar (ro_call (evL_cons up_h evL_nil) rfl (yCopy_ok l hl) y56_hcf18) rfl <| ar (ro_move (u2 rfl s1_7)) rfl <| ar (ro_call (evL_cons (up_m rfl up_h) (evL_cons up_h evL_nil)) rfl (limitsOf_bad l hl hb sd) y56_hcf24) rfl <| ar (ro_move up_h) rfl <| ar (ro_extract up_h rfl) rfl <| ar (ro_extract (up_m rfl up_h) rfl) rfl <| ar (ro_assign (up_m rfl up_h)) rfl <| ar (ro_assign (up_m rfl up_h)) rfl <| ae7 (up_m rfl (u8 rfl s1_7)) (up_m rfl (u8 rfl s2_7)) (up_m rfl (u8 rfl s3_7)) (up_m rfl (u8 rfl s7_7)) (up_m rfl (u8 rfl s8_7)) (up_m rfl up_h) up_h ?_; clear s1_7 s2_7 s3_7 s7_7 s8_7; intro e_8 s1_8 s2_8 s3_8 s7_8 s8_8 s9_8 s10_8
  refine then_n <| aw_seq <| at_ <| ar (ro_eq (ro_ld_ptr y56_ty26 rfl mo0_1 s3_8 (nle rfl)) (by simp only [pS, Value.cells, Nat.reduceAdd] <;> rfl)) rfl ?_
  refine ar (ro_call (evL_cons up_h evL_nil) rfl (lineErr_ok l hl) y56_hcf14) rfl <| ar (ro_assign up_h) rfl <| ae8 (up_m rfl (u2 rfl s1_8)) (up_m rfl (u2 rfl s2_8)) (up_m rfl (u2 rfl s3_8)) (up_m rfl (u2 rfl s7_8)) (up_m rfl (u2 rfl s8_8)) (up_m rfl (u2 rfl s9_8)) (up_m rfl (u2 rfl s10_8)) up_h ?_; clear s10_8 s1_8 s2_8 s3_8 s7_8 s8_8 s9_8; intro e_9 s1_9 s2_9 s3_9 s7_9 s8_9 s9_9 s10_9 s11_9
  refine then_n <| aw_seq <| aw_seq <| at_ <| ar (ro_move s11_9) rfl <| ar (ro_eql up_h ev_c) rfl ?_
  refine ae9 (u2 rfl s1_9) (u2 rfl s2_9) (u2 rfl s3_9) (u2 rfl s7_9) (u2 rfl s8_9) (u2 rfl s9_9) (u2 rfl s10_9) (u2 rfl s11_9) up_h ?_; clear s10_9 s11_9 s1_9 s2_9 s3_9 s7_9 s8_9 s9_9; intro e_10 s1_10 s2_10 s3_10 s7_10 s8_10 s9_10 s10_10 s11_10 s35_10
  refine then_n <| aw_case s35_10 (fun hq_11 => ?_) (fun hq_11 => ?_)
  · replace hq_11 := bt hq_11; exfalso; omega
  replace hq_11 := bf hq_11
  refine aw_skip <| then_n <| aw_seq <| aw_seq <| at_ <| ar (ro_move s11_10) rfl <| ar (ro_neq up_h ev_c) rfl <| ae9 (u2 rfl s1_10) (u2 rfl s2_10) (u2 rfl s3_10) (u2 rfl s7_10) (u2 rfl s8_10) (u2 rfl s9_10) (u2 rfl s10_10) (u2 rfl s11_10) up_h ?_; clear s10_10 s11_10 s1_10 s2_10 s35_10 s3_10 s7_10 s8_10 s9_10; intro e_12 s1_12 s2_12 s3_12 s7_12 s8_12 s9_12 s10_12 s11_12 s39_12
  refine then_n <| aw_case s39_12 (fun hq_13 => ?_) (fun hq_13 => ?_)
  ·replace hq_13 := bnt hq_13
   refine aw_seq <| at_ <| ar (ro_move s8_12) rfl <| ar (ro_move (up_m rfl s11_12)) rfl <| ar (ro_eql (up_m rfl up_h) up_h) rfl ?_
   refine ar (ro_move up_h) rfl <| al_case up_h (fun hb_14 hq_14 => ?_) (fun hb_14 hq_14 => ?_)
   ·replace hq_14 := bt hq_14
    refine al_ro' (ro_move (u4 rfl s10_12)) ⟨_, rfl, hb_14⟩ rfl ?_
    refine al_ro' (ro_move (up_m rfl (u4 rfl s11_12))) ⟨_, rfl, (up_m rfl hb_14)⟩ rfl ?_
    refine al_ro' (ro_eql (up_m rfl up_h) up_h) ⟨_, rfl, (u2 rfl hb_14)⟩ rfl ?_
    refine ar (ro_pickT (up_m rfl (u2 rfl hb_14)) up_h) rfl <| ar (ro_move up_h) rfl <| al_case up_h (fun hb_15 hq_15 => ?_) (fun hb_15 hq_15 => ?_)
    ·replace hq_15 := bt hq_15
     refine al_ro' (ro_move (up_m rfl (u8 rfl s7_12))) ⟨_, rfl, hb_15⟩ rfl ?_
     refine al_ro' (ro_eql up_h ev_c) ⟨_, rfl, (up_m rfl hb_15)⟩ rfl ?_
     refine ar (ro_pickT (u2 rfl hb_15) up_h) rfl <| ar (ro_move up_h) rfl <| al_case up_h (fun hb_16 hq_16 => ?_) (fun hb_16 hq_16 => ?_)
     ·replace hq_16 := bt hq_16
      refine al_ro' (ro_move (up_m rfl (u4 rfl (u8 rfl s9_12)))) ⟨_, rfl, hb_16⟩ rfl ?_
      refine al_ro' (ro_eq (ro_len_row up_h rfl y56_sl49.1) (by simp only [lnS] <;> rfl)) ⟨_, rfl, (up_m rfl hb_16)⟩ rfl ?_
      refine al_ro' (ro_eql up_h ev_c) ⟨_, rfl, (u2 rfl hb_16)⟩ rfl ?_
      refine ar (ro_pickT (up_m rfl (u2 rfl hb_16)) up_h) rfl <| ar (ro_assign up_h) rfl <| ae1 up_h ?_; clear hb_14 hb_15 hb_16 s10_12 s11_12 s1_12 s2_12 s39_12 s3_12 s7_12 s8_12 s9_12; intro e_17 s6_17
      refine then_n <| aw_ret <| then_r <| ret1 (.inr rfl) (by kernel_rfl) (resV_tmp s6_17) (.ro _ rfl) ?_
      clear s6_17 mo0_1 ml_1
      first | rfl | simp_all
     · cases hq_16
    · replace hq_15 := bf hq_15; exfalso; omega
   · replace hq_14 := bf hq_14; exfalso; omega
  · replace hq_13 := bnf hq_13; exfalso; omega
set_option maxRecDepth 100000 in
set_option maxHeartbeats 4000000 in
theorem lineLimits_side (l : Lin) (hf : fewL l = true) (hg : (linM l).2 = 0) (sd j : Int) (hs : sidE sd ≠ 0) : FnOk Try.prog 4 [lnA l, mA sd, mA j] (fun q => q = tbA true) := by
  refine fnOk_of (fn := Try.f4) 89 (by kernel_rfl) rfl (by kernel_rfl) (Nat.le_of_ble_eq_true rfl) ?_
  intro e_0 m_0 hA hm_0
  have s0_0 : evA e_0 (.tmp 0) = _ := hA 0 _ rfl
  have s1_0 : evA e_0 (.tmp 1) = _ := hA 1 _ rfl
  have s2_0 : evA e_0 (.tmp 2) = _ := hA 2 _ rfl
  have ml_0 : m_0.length = 0 := by rw [hm_0]; rfl
  clear hA hm_0
  have hl := fewL_sho hf
  refine aw_seq <| at_ <| al_stm (st_box s0_0 rfl ml_0) trivial rfl (fun m_1 hm_1 => ?_)
  have mo0_1 := m_push hm_1 ml_0
  have ml_1 := m_push_l hm_1 ml_0
  have ml_1 : _ = 1 := ml_1
  clear hm_1
  refine ar (ro_assign ev_c) rfl <| ae3 (u2 rfl s1_0) (u2 rfl s2_0) (up_m rfl up_h) ?_; clear s0_0 s1_0 s2_0; intro e_2 s1_2 s2_2 s3_2
  refine then_n <| aw_seq <| aw_seq <| at_ <| ar (ro_call evL_nil rfl (awake_ok) y56_hcf12) rfl <| ar (ro_not up_h) rfl <| ae4 (u2 rfl s1_2) (u2 rfl s2_2) (u2 rfl s3_2) up_h ?_; clear s1_2 s2_2 s3_2; intro e_3 s1_3 s2_3 s3_3 s13_3
  refine then_n <| aw_case s13_3 (fun hq_4 => ?_) (fun hq_4 => ?_)
  · cases hq_4
  replace hq_4 := bf' hq_4
  refine aw_skip <| then_n <| aw_seq <| aw_seq <| at_ <| ar (ro_eq (ro_ld_ptr y56_ty26 rfl mo0_1 s3_3 (nle rfl)) (by simp only [pS, Value.cells, Nat.reduceAdd] <;> rfl)) rfl ?_
  refine ar (ro_call (evL_cons up_h evL_nil) rfl ((fewL_ok l).mono (fun q h => h.trans (by rw [hf]))) y56_hcf13) rfl ?_
  refine ar (ro_not up_h) rfl <| ae4 (up_m rfl (u2 rfl s1_3)) (up_m rfl (u2 rfl s2_3)) (up_m rfl (u2 rfl s3_3)) up_h ?_; clear s13_3 s1_3 s2_3 s3_3; intro e_5 s1_5 s2_5 s3_5 s16_5
  refine then_n <| aw_case s16_5 (fun hq_6 => ?_) (fun hq_6 => ?_)
  · cases hq_6
  replace hq_6 := bf' hq_6
  refine aw_skip <| then_n <| aw_seq <| at_ <| ar (ro_eq (ro_ld_ptr y56_ty26 rfl mo0_1 s3_5 (nle rfl)) (by simp only [pS, Value.cells, Nat.reduceAdd] <;> rfl)) rfl ?_
  refine ar (ro_call (evL_cons up_h evL_nil) rfl (yCopy_ok l hl) y56_hcf18) rfl <| ar (ro_move (u2 rfl s1_5)) rfl <| ar (ro_move (up_m rfl (u2 rfl s2_5))) rfl <| ar (ro_call (evL_cons (u2 rfl up_h) (evL_cons (up_m rfl up_h) (evL_cons up_h evL_nil))) rfl (limitAt_side l hl hg sd j hs) y56_hcf23) rfl <| ar (ro_move up_h) rfl <| ar (ro_extract up_h rfl) rfl <| ar (ro_extract (up_m rfl up_h) rfl) rfl <| ar (ro_assign (up_m rfl up_h)) rfl <| ar (ro_assign (up_m rfl up_h)) rfl <| ae5 (u2 rfl (u8 rfl s1_5)) (u2 rfl (u8 rfl s2_5)) (u2 rfl (u8 rfl s3_5)) (up_m rfl up_h) up_h ?_; clear s16_5 s1_5 s2_5 s3_5; intro e_7 s1_7 s2_7 s3_7 s7_7 s8_7
  refine then_n <| aw_seq <| at_ <| ar (ro_eq (ro_ld_ptr y56_ty26 rfl mo0_1 s3_7 (nle rfl)) (by simp only [pS, Value.cells, Nat.reduceAdd] <;> rfl)) rfl ?_
  refine ar (ro_call (evL_cons up_h evL_nil) rfl (yCopy_ok l hl) y56_hcf18) rfl <| ar (ro_move (u2 rfl s1_7)) rfl <| ar (ro_call (evL_cons (up_m rfl up_h) (evL_cons up_h evL_nil)) rfl (limitsOf_side l hl hg sd hs) y56_hcf24) rfl <| ar (ro_move up_h) rfl <| ar (ro_extract up_h rfl) rfl <| ar (ro_extract (up_m rfl up_h) rfl) rfl <| ar (ro_assign (up_m rfl up_h)) rfl <| ar (ro_assign (up_m rfl up_h)) rfl <| ae7 (up_m rfl (u8 rfl s1_7)) (up_m rfl (u8 rfl s2_7)) (up_m rfl (u8 rfl s3_7)) (up_m rfl (u8 rfl s7_7)) (up_m rfl (u8 rfl s8_7)) (up_m rfl up_h) up_h ?_; clear s1_7 s2_7 s3_7 s7_7 s8_7; intro e_8 s1_8 s2_8 s3_8 s7_8 s8_8 s9_8 s10_8
  refine then_n <| aw_seq <| at_ <| ar (ro_eq (ro_ld_ptr y56_ty26 rfl mo0_1 s3_8 (nle rfl)) (by simp only [pS, Value.cells, Nat.reduceAdd] <;> rfl)) rfl ?_
  refine ar (ro_call (evL_cons up_h evL_nil) rfl (lineErr_ok l hl) y56_hcf14) rfl <| ar (ro_assign up_h) rfl <| ae8 (up_m rfl (u2 rfl s1_8)) (up_m rfl (u2 rfl s2_8)) (up_m rfl (u2 rfl s3_8)) (up_m rfl (u2 rfl s7_8)) (up_m rfl (u2 rfl s8_8)) (up_m rfl (u2 rfl s9_8)) (up_m rfl (u2 rfl s10_8)) up_h ?_; clear s10_8 s1_8 s2_8 s3_8 s7_8 s8_8 s9_8; intro e_9 s1_9 s2_9 s3_9 s7_9 s8_9 s9_9 s10_9 s11_9
  refine then_n <| aw_seq <| aw_seq <| at_ <| ar (ro_move s11_9) rfl <| ar (ro_eql up_h ev_c) rfl ?_
  refine ae9 (u2 rfl s1_9) (u2 rfl s2_9) (u2 rfl s3_9) (u2 rfl s7_9) (u2 rfl s8_9) (u2 rfl s9_9) (u2 rfl s10_9) (u2 rfl s11_9) up_h ?_; clear s10_9 s11_9 s1_9 s2_9 s3_9 s7_9 s8_9 s9_9; intro e_10 s1_10 s2_10 s3_10 s7_10 s8_10 s9_10 s10_10 s11_10 s35_10
  refine then_n <| aw_case s35_10 (fun hq_11 => ?_) (fun hq_11 => ?_)
  ·replace hq_11 := bt hq_11
   refine at_ <| ar (ro_move s1_10) rfl <| ar (ro_call (evL_cons up_h evL_nil) rfl (rSideErr_ok _) y56_hcf25) rfl <| ar (ro_assign up_h) rfl <| ae8 (up_m rfl (u2 rfl s1_10)) (up_m rfl (u2 rfl s2_10)) (up_m rfl (u2 rfl s3_10)) (up_m rfl (u2 rfl s7_10)) (up_m rfl (u2 rfl s8_10)) (up_m rfl (u2 rfl s9_10)) (up_m rfl (u2 rfl s10_10)) up_h ?_; clear s10_10 s11_10 s1_10 s2_10 s35_10 s3_10 s7_10 s8_10 s9_10; intro e_12 s1_12 s2_12 s3_12 s7_12 s8_12 s9_12 s10_12 s11_12
   refine then_n <| aw_seq <| aw_seq <| at_ <| ar (ro_move s11_12) rfl <| ar (ro_neq up_h ev_c) rfl <| ae9 (u2 rfl s1_12) (u2 rfl s2_12) (u2 rfl s3_12) (u2 rfl s7_12) (u2 rfl s8_12) (u2 rfl s9_12) (u2 rfl s10_12) (u2 rfl s11_12) up_h ?_; clear s10_12 s11_12 s1_12 s2_12 s3_12 s7_12 s8_12 s9_12; intro e_13 s1_13 s2_13 s3_13 s7_13 s8_13 s9_13 s10_13 s11_13 s39_13
   refine then_n <| aw_case s39_13 (fun hq_14 => ?_) (fun hq_14 => ?_)
   ·replace hq_14 := bnt hq_14
    refine aw_seq <| at_ <| ar (ro_move s8_13) rfl <| ar (ro_move (up_m rfl s11_13)) rfl <| ar (ro_eql (up_m rfl up_h) up_h) rfl ?_
    refine ar (ro_move up_h) rfl <| al_case up_h (fun hb_15 hq_15 => ?_) (fun hb_15 hq_15 => ?_)
    ·replace hq_15 := bt hq_15
     refine al_ro' (ro_move (u4 rfl s10_13)) ⟨_, rfl, hb_15⟩ rfl ?_
     refine al_ro' (ro_move (up_m rfl (u4 rfl s11_13))) ⟨_, rfl, (up_m rfl hb_15)⟩ rfl ?_
     refine al_ro' (ro_eql (up_m rfl up_h) up_h) ⟨_, rfl, (u2 rfl hb_15)⟩ rfl ?_
     refine ar (ro_pickT (up_m rfl (u2 rfl hb_15)) up_h) rfl <| ar (ro_move up_h) rfl <| al_case up_h (fun hb_16 hq_16 => ?_) (fun hb_16 hq_16 => ?_)
     ·replace hq_16 := bt hq_16
      refine al_ro' (ro_move (up_m rfl (u8 rfl s7_13))) ⟨_, rfl, hb_16⟩ rfl ?_
      refine al_ro' (ro_eql up_h ev_c) ⟨_, rfl, (up_m rfl hb_16)⟩ rfl ?_
      refine ar (ro_pickT (u2 rfl hb_16) up_h) rfl <| ar (ro_move up_h) rfl <| al_case up_h (fun hb_17 hq_17 => ?_) (fun hb_17 hq_17 => ?_)
      ·replace hq_17 := bt hq_17
       refine al_ro' (ro_move (up_m rfl (u4 rfl (u8 rfl s9_13)))) ⟨_, rfl, hb_17⟩ rfl ?_
       refine al_ro' (ro_eq (ro_len_row up_h rfl y56_sl49.1) (by simp only [lnS] <;> rfl)) ⟨_, rfl, (up_m rfl hb_17)⟩ rfl ?_
       refine al_ro' (ro_eql up_h ev_c) ⟨_, rfl, (u2 rfl hb_17)⟩ rfl ?_
       refine ar (ro_pickT (up_m rfl (u2 rfl hb_17)) up_h) rfl <| ar (ro_assign up_h) rfl <| ae1 up_h ?_; clear hb_15 hb_16 hb_17 s10_13 s11_13 s1_13 s2_13 s39_13 s3_13 s7_13 s8_13 s9_13; intro e_18 s6_18
       refine then_n <| aw_ret <| then_r <| ret1 (.inr rfl) (by kernel_rfl) (resV_tmp s6_18) (.ro _ rfl) ?_
       clear s6_18 mo0_1 ml_1
       first | rfl | simp_all
      · cases hq_17
     · replace hq_16 := bf hq_16; exfalso; omega
    · replace hq_15 := bf hq_15; exfalso; omega
   · replace hq_14 := bnf hq_14; exfalso; omega
  · replace hq_11 := bf hq_11; exfalso; omega
set_option maxRecDepth 100000 in
set_option maxHeartbeats 4000000 in
theorem lineLimits_miss (l : Lin) (hf : fewL l = true) (hg : (linM l).2 = 0) (sd j : Int) (hs : sidE sd = 0) (hm : misE j 1 (l.js.length - 2) ≠ 0) : FnOk Try.prog 4 [lnA l, mA sd, mA j] (fun q => q = tbA true) := by
  refine fnOk_of (fn := Try.f4) 89 (by kernel_rfl) rfl (by kernel_rfl) (Nat.le_of_ble_eq_true rfl) ?_
  intro e_0 m_0 hA hm_0
  have s0_0 : evA e_0 (.tmp 0) = _ := hA 0 _ rfl
  have s1_0 : evA e_0 (.tmp 1) = _ := hA 1 _ rfl
  have s2_0 : evA e_0 (.tmp 2) = _ := hA 2 _ rfl
  have ml_0 : m_0.length = 0 := by rw [hm_0]; rfl
  clear hA hm_0
  have hl := fewL_sho hf; have hr := rgt_of hg; have hs2 := sidE_z.1 hs; have hjs := hr.js; have hn1 := hr.n1; have hn0 := hr.n0
  refine aw_seq <| at_ <| al_stm (st_box s0_0 rfl ml_0) trivial rfl (fun m_1 hm_1 => ?_)
  have mo0_1 := m_push hm_1 ml_0
  have ml_1 := m_push_l hm_1 ml_0
  have ml_1 : _ = 1 := ml_1
  clear hm_1
  refine ar (ro_assign ev_c) rfl <| ae3 (u2 rfl s1_0) (u2 rfl s2_0) (up_m rfl up_h) ?_; clear s0_0 s1_0 s2_0; intro e_2 s1_2 s2_2 s3_2
  refine then_n <| aw_seq <| aw_seq <| at_ <| ar (ro_call evL_nil rfl (awake_ok) y56_hcf12) rfl <| ar (ro_not up_h) rfl <| ae4 (u2 rfl s1_2) (u2 rfl s2_2) (u2 rfl s3_2) up_h ?_; clear s1_2 s2_2 s3_2; intro e_3 s1_3 s2_3 s3_3 s13_3
  refine then_n <| aw_case s13_3 (fun hq_4 => ?_) (fun hq_4 => ?_)
  · cases hq_4
  replace hq_4 := bf' hq_4
  refine aw_skip <| then_n <| aw_seq <| aw_seq <| at_ <| ar (ro_eq (ro_ld_ptr y56_ty26 rfl mo0_1 s3_3 (nle rfl)) (by simp only [pS, Value.cells, Nat.reduceAdd] <;> rfl)) rfl ?_
  refine ar (ro_call (evL_cons up_h evL_nil) rfl ((fewL_ok l).mono (fun q h => h.trans (by rw [hf]))) y56_hcf13) rfl ?_
  refine ar (ro_not up_h) rfl <| ae4 (up_m rfl (u2 rfl s1_3)) (up_m rfl (u2 rfl s2_3)) (up_m rfl (u2 rfl s3_3)) up_h ?_; clear s13_3 s1_3 s2_3 s3_3; intro e_5 s1_5 s2_5 s3_5 s16_5
  refine then_n <| aw_case s16_5 (fun hq_6 => ?_) (fun hq_6 => ?_)
  · cases hq_6
  replace hq_6 := bf' hq_6
  refine aw_skip <| then_n <| aw_seq <| at_ <| ar (ro_eq (ro_ld_ptr y56_ty26 rfl mo0_1 s3_5 (nle rfl)) (by simp only [pS, Value.cells, Nat.reduceAdd] <;> rfl)) rfl ?_
  refine ar (ro_call (evL_cons up_h evL_nil) rfl (yCopy_ok l hl) y56_hcf18) rfl <| ar (ro_move (u2 rfl s1_5)) rfl <| ar (ro_move (up_m rfl (u2 rfl s2_5))) rfl <| ar (ro_call (evL_cons (u2 rfl up_h) (evL_cons (up_m rfl up_h) (evL_cons up_h evL_nil))) rfl (limitAt_miss l hl hg sd j hs hm) y56_hcf23) rfl <| ar (ro_move up_h) rfl <| ar (ro_extract up_h rfl) rfl <| ar (ro_extract (up_m rfl up_h) rfl) rfl <| ar (ro_assign (up_m rfl up_h)) rfl <| ar (ro_assign (up_m rfl up_h)) rfl <| ae5 (u2 rfl (u8 rfl s1_5)) (u2 rfl (u8 rfl s2_5)) (u2 rfl (u8 rfl s3_5)) (up_m rfl up_h) up_h ?_; clear s16_5 s1_5 s2_5 s3_5; intro e_7 s1_7 s2_7 s3_7 s7_7 s8_7
  refine then_n <| aw_seq <| at_ <| ar (ro_eq (ro_ld_ptr y56_ty26 rfl mo0_1 s3_7 (nle rfl)) (by simp only [pS, Value.cells, Nat.reduceAdd] <;> rfl)) rfl ?_
  refine ar (ro_call (evL_cons up_h evL_nil) rfl (yCopy_ok l hl) y56_hcf18) rfl <| ar (ro_move (u2 rfl s1_7)) rfl <| ar (ro_call (evL_cons (up_m rfl up_h) (evL_cons up_h evL_nil)) rfl (limitsOf_good l hl hg sd hs) y56_hcf24) rfl <| ar (ro_move up_h) rfl <| ar (ro_extract up_h rfl) rfl <| ar (ro_extract (up_m rfl up_h) rfl) rfl <| ar (ro_assign (up_m rfl up_h)) rfl <| ar (ro_assign (up_m rfl up_h)) rfl <| ae7 (up_m rfl (u8 rfl s1_7)) (up_m rfl (u8 rfl s2_7)) (up_m rfl (u8 rfl s3_7)) (up_m rfl (u8 rfl s7_7)) (up_m rfl (u8 rfl s8_7)) (up_m rfl up_h) up_h ?_; clear s1_7 s2_7 s3_7 s7_7 s8_7; intro e_8 s1_8 s2_8 s3_8 s7_8 s8_8 s9_8 s10_8
  refine then_n <| aw_seq <| at_ <| ar (ro_eq (ro_ld_ptr y56_ty26 rfl mo0_1 s3_8 (nle rfl)) (by simp only [pS, Value.cells, Nat.reduceAdd] <;> rfl)) rfl ?_
  refine ar (ro_call (evL_cons up_h evL_nil) rfl (lineErr_ok l hl) y56_hcf14) rfl <| ar (ro_assign up_h) rfl <| ae8 (up_m rfl (u2 rfl s1_8)) (up_m rfl (u2 rfl s2_8)) (up_m rfl (u2 rfl s3_8)) (up_m rfl (u2 rfl s7_8)) (up_m rfl (u2 rfl s8_8)) (up_m rfl (u2 rfl s9_8)) (up_m rfl (u2 rfl s10_8)) up_h ?_; clear s10_8 s1_8 s2_8 s3_8 s7_8 s8_8 s9_8; intro e_9 s1_9 s2_9 s3_9 s7_9 s8_9 s9_9 s10_9 s11_9
  refine then_n <| aw_seq <| aw_seq <| at_ <| ar (ro_move s11_9) rfl <| ar (ro_eql up_h ev_c) rfl ?_
  refine ae9 (u2 rfl s1_9) (u2 rfl s2_9) (u2 rfl s3_9) (u2 rfl s7_9) (u2 rfl s8_9) (u2 rfl s9_9) (u2 rfl s10_9) (u2 rfl s11_9) up_h ?_; clear s10_9 s11_9 s1_9 s2_9 s3_9 s7_9 s8_9 s9_9; intro e_10 s1_10 s2_10 s3_10 s7_10 s8_10 s9_10 s10_10 s11_10 s35_10
  refine then_n <| aw_case s35_10 (fun hq_11 => ?_) (fun hq_11 => ?_)
  ·replace hq_11 := bt hq_11
   refine at_ <| ar (ro_move s1_10) rfl <| ar (ro_call (evL_cons up_h evL_nil) rfl (rSideErr_ok _) y56_hcf25) rfl <| ar (ro_assign up_h) rfl <| ae8 (up_m rfl (u2 rfl s1_10)) (up_m rfl (u2 rfl s2_10)) (up_m rfl (u2 rfl s3_10)) (up_m rfl (u2 rfl s7_10)) (up_m rfl (u2 rfl s8_10)) (up_m rfl (u2 rfl s9_10)) (up_m rfl (u2 rfl s10_10)) up_h ?_; clear s10_10 s11_10 s1_10 s2_10 s35_10 s3_10 s7_10 s8_10 s9_10; intro e_12 s1_12 s2_12 s3_12 s7_12 s8_12 s9_12 s10_12 s11_12
   refine then_n <| aw_seq <| aw_seq <| at_ <| ar (ro_move s11_12) rfl <| ar (ro_neq up_h ev_c) rfl <| ae9 (u2 rfl s1_12) (u2 rfl s2_12) (u2 rfl s3_12) (u2 rfl s7_12) (u2 rfl s8_12) (u2 rfl s9_12) (u2 rfl s10_12) (u2 rfl s11_12) up_h ?_; clear s10_12 s11_12 s1_12 s2_12 s3_12 s7_12 s8_12 s9_12; intro e_13 s1_13 s2_13 s3_13 s7_13 s8_13 s9_13 s10_13 s11_13 s39_13
   refine then_n <| aw_case s39_13 (fun hq_14 => ?_) (fun hq_14 => ?_)
   · replace hq_14 := bnt hq_14; exfalso; omega
   replace hq_14 := bnf hq_14
   refine aw_skip <| then_n <| aw_seq <| aw_seq <| at_ <| ar (ro_move s10_13) rfl <| ar (ro_neq up_h ev_c) rfl <| ar (ro_move up_h) rfl <| al_case up_h (fun hb_22 hq_22 => ?_) (fun hb_22 hq_22 => ?_)
   · cases hq_22
   replace hq_22 := bnf hq_22
   refine al_ro' (ro_move (up_m rfl (u2 rfl s9_13))) ⟨_, rfl, hb_22⟩ rfl ?_
   refine al_ro' (ro_eq (ro_ld_ptr y56_ty26 rfl mo0_1 (u4 rfl s3_13) (nle rfl)) (by simp only [pS, Value.cells, Nat.reduceAdd] <;> rfl)) ⟨_, rfl, (up_m rfl hb_22)⟩ rfl ?_
   refine al_ro' (ro_move (up_m rfl (u4 rfl s1_13))) ⟨_, rfl, (u2 rfl hb_22)⟩ rfl ?_
   refine al_ro' (ro_call (evL_cons (up_m rfl up_h) (evL_cons up_h evL_nil)) rfl (rLimitsOf_ok l hr sd hs2) y56_hcf27) ⟨_, rfl, (up_m rfl (u2 rfl hb_22))⟩ rfl ?_
   refine al_ro' (ro_call (evL_cons (up_m rfl (u2 rfl up_h)) (evL_cons up_h evL_nil)) rfl ((bIntsY_ok _ _ (by rw [limL_len]; omega) (by rw [limL_len]; omega)).mono (fun q h => show q = tbA true from h.trans (by simp))) y56_hcf26) ⟨_, rfl, (u4 rfl hb_22)⟩ rfl ?_
   refine al_ro' (ro_not up_h) ⟨_, rfl, (up_m rfl (u4 rfl hb_22))⟩ rfl ?_
   refine ar (ro_pickF (u2 rfl (u4 rfl hb_22)) up_h) rfl <| ae6 (u2 rfl (u8 rfl s1_13)) (u2 rfl (u8 rfl s2_13)) (u2 rfl (u8 rfl s3_13)) (u2 rfl (u8 rfl s7_13)) (u2 rfl (u8 rfl s8_13)) up_h ?_; clear hb_22 s10_13 s11_13 s1_13 s2_13 s39_13 s3_13 s7_13 s8_13 s9_13; intro e_26 s1_26 s2_26 s3_26 s7_26 s8_26 s66_26
   refine then_n <| aw_case s66_26 (fun hq_27 => ?_) (fun hq_27 => ?_)
   · cases hq_27
   replace hq_27 := bf' hq_27
   refine aw_skip <| then_n <| aw_seq <| aw_seq <| at_ <| ar (ro_eq (ro_ld_ptr y56_ty26 rfl mo0_1 s3_26 (nle rfl)) (by simp only [pS, Value.cells, Nat.reduceAdd] <;> rfl)) rfl ?_
   refine ar (ro_move (up_m rfl s2_26)) rfl <| ar (ro_call (evL_cons (up_m rfl up_h) (evL_cons up_h evL_nil)) rfl (innerErr_ok l hr j) y56_hcf28) rfl <| ar (ro_assign up_h) rfl <| ae6 (u4 rfl s1_26) (u4 rfl s2_26) (u4 rfl s3_26) (u4 rfl s7_26) (u4 rfl s8_26) up_h ?_; clear s1_26 s2_26 s3_26 s66_26 s7_26 s8_26; intro e_29 s1_29 s2_29 s3_29 s7_29 s8_29 s11_29
   refine then_n <| aw_seq <| at_ <| ar (ro_move s11_29) rfl <| ar (ro_neq up_h ev_c) rfl <| ae7 (u2 rfl s1_29) (u2 rfl s2_29) (u2 rfl s3_29) (u2 rfl s7_29) (u2 rfl s8_29) (u2 rfl s11_29) up_h ?_; clear s11_29 s1_29 s2_29 s3_29 s7_29 s8_29; intro e_30 s1_30 s2_30 s3_30 s7_30 s8_30 s11_30 s71_30
   refine then_n <| aw_case s71_30 (fun hq_31 => ?_) (fun hq_31 => ?_)
   ·replace hq_31 := bnt hq_31
    refine aw_seq <| at_ <| ar (ro_move s8_30) rfl <| ar (ro_move (up_m rfl s11_30)) rfl <| ar (ro_eql (up_m rfl up_h) up_h) rfl ?_
    refine ar (ro_move up_h) rfl <| al_case up_h (fun hb_32 hq_32 => ?_) (fun hb_32 hq_32 => ?_)
    ·replace hq_32 := bt hq_32
     refine al_ro' (ro_move (u4 rfl s7_30)) ⟨_, rfl, hb_32⟩ rfl ?_
     refine al_ro' (ro_eql up_h ev_c) ⟨_, rfl, (up_m rfl hb_32)⟩ rfl ?_
     refine ar (ro_pickT (u2 rfl hb_32) up_h) rfl <| ar (ro_assign up_h) rfl <| ae1 up_h ?_; clear hb_32 s11_30 s1_30 s2_30 s3_30 s71_30 s7_30 s8_30; intro e_33 s6_33
     refine then_n <| aw_ret <| then_r <| ret1 (.inr rfl) (by kernel_rfl) (resV_tmp s6_33) (.ro _ rfl) ?_
     clear s6_33 mo0_1 ml_1
     first | rfl | simp_all
    · replace hq_32 := bf hq_32; exfalso; omega
   · replace hq_31 := bnf hq_31; exfalso; omega
  · replace hq_11 := bf hq_11; exfalso; omega
set_option maxRecDepth 100000 in
set_option maxHeartbeats 4000000 in
theorem lineLimits_in (l : Lin) (hf : fewL l = true) (hg : (linM l).2 = 0) (sd j : Int) (hs : sidE sd = 0) (hm : misE j 1 (l.js.length - 2) = 0) : FnOk Try.prog 4 [lnA l, mA sd, mA j] (fun q => q = tbA true) := by
  refine fnOk_of (fn := Try.f4) 89 (by kernel_rfl) rfl (by kernel_rfl) (Nat.le_of_ble_eq_true rfl) ?_
  intro e_0 m_0 hA hm_0
  have s0_0 : evA e_0 (.tmp 0) = _ := hA 0 _ rfl
  have s1_0 : evA e_0 (.tmp 1) = _ := hA 1 _ rfl
  have s2_0 : evA e_0 (.tmp 2) = _ := hA 2 _ rfl
  have ml_0 : m_0.length = 0 := by rw [hm_0]; rfl
  clear hA hm_0
  have hl := fewL_sho hf; have hr := rgt_of hg; have hs2 := sidE_z.1 hs; have hjs := hr.js; have hn1 := hr.n1; have hn0 := hr.n0; have hm2 := misE_z.1 hm; have la := rLimitAt_ok l hr sd hs2 j.toNat (by omega); rw [show ((j.toNat : Nat) : Int) = j by omega] at la
  refine aw_seq <| at_ <| al_stm (st_box s0_0 rfl ml_0) trivial rfl (fun m_1 hm_1 => ?_)
  have mo0_1 := m_push hm_1 ml_0
  have ml_1 := m_push_l hm_1 ml_0
  have ml_1 : _ = 1 := ml_1
  clear hm_1
  refine ar (ro_assign ev_c) rfl <| ae3 (u2 rfl s1_0) (u2 rfl s2_0) (up_m rfl up_h) ?_; clear s0_0 s1_0 s2_0; intro e_2 s1_2 s2_2 s3_2
  refine then_n <| aw_seq <| aw_seq <| at_ <| ar (ro_call evL_nil rfl (awake_ok) y56_hcf12) rfl <| ar (ro_not up_h) rfl <| ae4 (u2 rfl s1_2) (u2 rfl s2_2) (u2 rfl s3_2) up_h ?_; clear s1_2 s2_2 s3_2; intro e_3 s1_3 s2_3 s3_3 s13_3
  refine then_n <| aw_case s13_3 (fun hq_4 => ?_) (fun hq_4 => ?_)
  · cases hq_4
  replace hq_4 := bf' hq_4
  refine aw_skip <| then_n <| aw_seq <| aw_seq <| at_ <| ar (ro_eq (ro_ld_ptr y56_ty26 rfl mo0_1 s3_3 (nle rfl)) (by simp only [pS, Value.cells, Nat.reduceAdd] <;> rfl)) rfl ?_
  refine ar (ro_call (evL_cons up_h evL_nil) rfl ((fewL_ok l).mono (fun q h => h.trans (by rw [hf]))) y56_hcf13) rfl ?_
  refine ar (ro_not up_h) rfl <| ae4 (up_m rfl (u2 rfl s1_3)) (up_m rfl (u2 rfl s2_3)) (up_m rfl (u2 rfl s3_3)) up_h ?_; clear s13_3 s1_3 s2_3 s3_3; intro e_5 s1_5 s2_5 s3_5 s16_5
  refine then_n <| aw_case s16_5 (fun hq_6 => ?_) (fun hq_6 => ?_)
  · cases hq_6
  replace hq_6 := bf' hq_6
  refine aw_skip <| then_n <| aw_seq <| at_ <| ar (ro_eq (ro_ld_ptr y56_ty26 rfl mo0_1 s3_5 (nle rfl)) (by simp only [pS, Value.cells, Nat.reduceAdd] <;> rfl)) rfl ?_
  refine ar (ro_call (evL_cons up_h evL_nil) rfl (yCopy_ok l hl) y56_hcf18) rfl <| ar (ro_move (u2 rfl s1_5)) rfl <| ar (ro_move (up_m rfl (u2 rfl s2_5))) rfl <| ar (ro_call (evL_cons (u2 rfl up_h) (evL_cons (up_m rfl up_h) (evL_cons up_h evL_nil))) rfl (limitAt_in l hl hg sd j hs hm) y56_hcf23) rfl <| ar (ro_move up_h) rfl <| ar (ro_extract up_h rfl) rfl <| ar (ro_extract (up_m rfl up_h) rfl) rfl <| ar (ro_assign (up_m rfl up_h)) rfl <| ar (ro_assign (up_m rfl up_h)) rfl <| ae5 (u2 rfl (u8 rfl s1_5)) (u2 rfl (u8 rfl s2_5)) (u2 rfl (u8 rfl s3_5)) (up_m rfl up_h) up_h ?_; clear s16_5 s1_5 s2_5 s3_5; intro e_7 s1_7 s2_7 s3_7 s7_7 s8_7
  refine then_n <| aw_seq <| at_ <| ar (ro_eq (ro_ld_ptr y56_ty26 rfl mo0_1 s3_7 (nle rfl)) (by simp only [pS, Value.cells, Nat.reduceAdd] <;> rfl)) rfl ?_
  refine ar (ro_call (evL_cons up_h evL_nil) rfl (yCopy_ok l hl) y56_hcf18) rfl <| ar (ro_move (u2 rfl s1_7)) rfl <| ar (ro_call (evL_cons (up_m rfl up_h) (evL_cons up_h evL_nil)) rfl (limitsOf_good l hl hg sd hs) y56_hcf24) rfl <| ar (ro_move up_h) rfl <| ar (ro_extract up_h rfl) rfl <| ar (ro_extract (up_m rfl up_h) rfl) rfl <| ar (ro_assign (up_m rfl up_h)) rfl <| ar (ro_assign (up_m rfl up_h)) rfl <| ae7 (up_m rfl (u8 rfl s1_7)) (up_m rfl (u8 rfl s2_7)) (up_m rfl (u8 rfl s3_7)) (up_m rfl (u8 rfl s7_7)) (up_m rfl (u8 rfl s8_7)) (up_m rfl up_h) up_h ?_; clear s1_7 s2_7 s3_7 s7_7 s8_7; intro e_8 s1_8 s2_8 s3_8 s7_8 s8_8 s9_8 s10_8
  refine then_n <| aw_seq <| at_ <| ar (ro_eq (ro_ld_ptr y56_ty26 rfl mo0_1 s3_8 (nle rfl)) (by simp only [pS, Value.cells, Nat.reduceAdd] <;> rfl)) rfl ?_
  refine ar (ro_call (evL_cons up_h evL_nil) rfl (lineErr_ok l hl) y56_hcf14) rfl <| ar (ro_assign up_h) rfl <| ae8 (up_m rfl (u2 rfl s1_8)) (up_m rfl (u2 rfl s2_8)) (up_m rfl (u2 rfl s3_8)) (up_m rfl (u2 rfl s7_8)) (up_m rfl (u2 rfl s8_8)) (up_m rfl (u2 rfl s9_8)) (up_m rfl (u2 rfl s10_8)) up_h ?_; clear s10_8 s1_8 s2_8 s3_8 s7_8 s8_8 s9_8; intro e_9 s1_9 s2_9 s3_9 s7_9 s8_9 s9_9 s10_9 s11_9
  refine then_n <| aw_seq <| aw_seq <| at_ <| ar (ro_move s11_9) rfl <| ar (ro_eql up_h ev_c) rfl ?_
  refine ae9 (u2 rfl s1_9) (u2 rfl s2_9) (u2 rfl s3_9) (u2 rfl s7_9) (u2 rfl s8_9) (u2 rfl s9_9) (u2 rfl s10_9) (u2 rfl s11_9) up_h ?_; clear s10_9 s11_9 s1_9 s2_9 s3_9 s7_9 s8_9 s9_9; intro e_10 s1_10 s2_10 s3_10 s7_10 s8_10 s9_10 s10_10 s11_10 s35_10
  refine then_n <| aw_case s35_10 (fun hq_11 => ?_) (fun hq_11 => ?_)
  ·replace hq_11 := bt hq_11
   refine at_ <| ar (ro_move s1_10) rfl <| ar (ro_call (evL_cons up_h evL_nil) rfl (rSideErr_ok _) y56_hcf25) rfl <| ar (ro_assign up_h) rfl <| ae8 (up_m rfl (u2 rfl s1_10)) (up_m rfl (u2 rfl s2_10)) (up_m rfl (u2 rfl s3_10)) (up_m rfl (u2 rfl s7_10)) (up_m rfl (u2 rfl s8_10)) (up_m rfl (u2 rfl s9_10)) (up_m rfl (u2 rfl s10_10)) up_h ?_; clear s10_10 s11_10 s1_10 s2_10 s35_10 s3_10 s7_10 s8_10 s9_10; intro e_12 s1_12 s2_12 s3_12 s7_12 s8_12 s9_12 s10_12 s11_12
   refine then_n <| aw_seq <| aw_seq <| at_ <| ar (ro_move s11_12) rfl <| ar (ro_neq up_h ev_c) rfl <| ae9 (u2 rfl s1_12) (u2 rfl s2_12) (u2 rfl s3_12) (u2 rfl s7_12) (u2 rfl s8_12) (u2 rfl s9_12) (u2 rfl s10_12) (u2 rfl s11_12) up_h ?_; clear s10_12 s11_12 s1_12 s2_12 s3_12 s7_12 s8_12 s9_12; intro e_13 s1_13 s2_13 s3_13 s7_13 s8_13 s9_13 s10_13 s11_13 s39_13
   refine then_n <| aw_case s39_13 (fun hq_14 => ?_) (fun hq_14 => ?_)
   · replace hq_14 := bnt hq_14; exfalso; omega
   replace hq_14 := bnf hq_14
   refine aw_skip <| then_n <| aw_seq <| aw_seq <| at_ <| ar (ro_move s10_13) rfl <| ar (ro_neq up_h ev_c) rfl <| ar (ro_move up_h) rfl <| al_case up_h (fun hb_22 hq_22 => ?_) (fun hb_22 hq_22 => ?_)
   · cases hq_22
   replace hq_22 := bnf hq_22
   refine al_ro' (ro_move (up_m rfl (u2 rfl s9_13))) ⟨_, rfl, hb_22⟩ rfl ?_
   refine al_ro' (ro_eq (ro_ld_ptr y56_ty26 rfl mo0_1 (u4 rfl s3_13) (nle rfl)) (by simp only [pS, Value.cells, Nat.reduceAdd] <;> rfl)) ⟨_, rfl, (up_m rfl hb_22)⟩ rfl ?_
   refine al_ro' (ro_move (up_m rfl (u4 rfl s1_13))) ⟨_, rfl, (u2 rfl hb_22)⟩ rfl ?_
   refine al_ro' (ro_call (evL_cons (up_m rfl up_h) (evL_cons up_h evL_nil)) rfl (rLimitsOf_ok l hr sd hs2) y56_hcf27) ⟨_, rfl, (up_m rfl (u2 rfl hb_22))⟩ rfl ?_
   refine al_ro' (ro_call (evL_cons (up_m rfl (u2 rfl up_h)) (evL_cons up_h evL_nil)) rfl ((bIntsY_ok _ _ (by rw [limL_len]; omega) (by rw [limL_len]; omega)).mono (fun q h => show q = tbA true from h.trans (by simp))) y56_hcf26) ⟨_, rfl, (u4 rfl hb_22)⟩ rfl ?_
   refine al_ro' (ro_not up_h) ⟨_, rfl, (up_m rfl (u4 rfl hb_22))⟩ rfl ?_
   refine ar (ro_pickF (u2 rfl (u4 rfl hb_22)) up_h) rfl <| ae6 (u2 rfl (u8 rfl s1_13)) (u2 rfl (u8 rfl s2_13)) (u2 rfl (u8 rfl s3_13)) (u2 rfl (u8 rfl s7_13)) (u2 rfl (u8 rfl s8_13)) up_h ?_; clear hb_22 s10_13 s11_13 s1_13 s2_13 s39_13 s3_13 s7_13 s8_13 s9_13; intro e_26 s1_26 s2_26 s3_26 s7_26 s8_26 s66_26
   refine then_n <| aw_case s66_26 (fun hq_27 => ?_) (fun hq_27 => ?_)
   · cases hq_27
   replace hq_27 := bf' hq_27
   refine aw_skip <| then_n <| aw_seq <| aw_seq <| at_ <| ar (ro_eq (ro_ld_ptr y56_ty26 rfl mo0_1 s3_26 (nle rfl)) (by simp only [pS, Value.cells, Nat.reduceAdd] <;> rfl)) rfl ?_
   refine ar (ro_move (up_m rfl s2_26)) rfl <| ar (ro_call (evL_cons (up_m rfl up_h) (evL_cons up_h evL_nil)) rfl (innerErr_ok l hr j) y56_hcf28) rfl <| ar (ro_assign up_h) rfl <| ae6 (u4 rfl s1_26) (u4 rfl s2_26) (u4 rfl s3_26) (u4 rfl s7_26) (u4 rfl s8_26) up_h ?_; clear s1_26 s2_26 s3_26 s66_26 s7_26 s8_26; intro e_29 s1_29 s2_29 s3_29 s7_29 s8_29 s11_29
   refine then_n <| aw_seq <| at_ <| ar (ro_move s11_29) rfl <| ar (ro_neq up_h ev_c) rfl <| ae7 (u2 rfl s1_29) (u2 rfl s2_29) (u2 rfl s3_29) (u2 rfl s7_29) (u2 rfl s8_29) (u2 rfl s11_29) up_h ?_; clear s11_29 s1_29 s2_29 s3_29 s7_29 s8_29; intro e_30 s1_30 s2_30 s3_30 s7_30 s8_30 s11_30 s71_30
   refine then_n <| aw_case s71_30 (fun hq_31 => ?_) (fun hq_31 => ?_)
   · replace hq_31 := bnt hq_31; exfalso; omega
   replace hq_31 := bnf hq_31
   refine aw_skip <| then_n <| aw_seq <| at_ <| ar (ro_move s8_30) rfl <| ar (ro_eql up_h ev_c) rfl ?_
   refine ar (ro_move up_h) rfl <| al_case up_h (fun hb_35 hq_35 => ?_) (fun hb_35 hq_35 => ?_)
   ·replace hq_35 := bt hq_35
    refine al_ro' (ro_move (up_m rfl (u2 rfl s7_30))) ⟨_, rfl, hb_35⟩ rfl ?_
    refine al_ro' (ro_eq (ro_ld_ptr y56_ty26 rfl mo0_1 (u4 rfl s3_30) (nle rfl)) (by simp only [pS, Value.cells, Nat.reduceAdd] <;> rfl)) ⟨_, rfl, (up_m rfl hb_35)⟩ rfl ?_
    refine al_ro' (ro_move (up_m rfl (u4 rfl s1_30))) ⟨_, rfl, (u2 rfl hb_35)⟩ rfl ?_
    refine al_ro' (ro_move (u2 rfl (u4 rfl s2_30))) ⟨_, rfl, (up_m rfl (u2 rfl hb_35))⟩ rfl ?_
    refine al_ro' (ro_call (evL_cons (u2 rfl up_h) (evL_cons (up_m rfl up_h) (evL_cons up_h evL_nil))) rfl (la) y56_hcf29) ⟨_, rfl, (u4 rfl hb_35)⟩ rfl ?_
    refine al_ro' (ro_eql (u4 rfl up_h) up_h) ⟨_, rfl, (up_m rfl (u4 rfl hb_35))⟩ rfl ?_
    refine ar (ro_pickT (u2 rfl (u4 rfl hb_35)) up_h) rfl <| ar (ro_assign up_h) rfl <| ae1 up_h ?_; clear hb_35 s11_30 s1_30 s2_30 s3_30 s71_30 s7_30 s8_30; intro e_36 s6_36
    refine then_n <| aw_ret <| ret1 (.inr rfl) (by kernel_rfl) (resV_tmp s6_36) (.ro _ rfl) ?_
    clear s6_36 mo0_1 ml_1
    first | rfl | simp_all
   · cases hq_35
  · replace hq_11 := bf hq_11; exfalso; omega
theorem lineLimits_ok (l : Lin) (sd j : Int) : FnOk Try.prog 4 [lnA l, mA sd, mA j] (fun q => q = tbA true) := by
  cases hf : fewL l with
  | false => exact lineLimits_many l hf sd j
  | true =>
    by_cases hg : (linM l).2 = 0
    · by_cases hs : sidE sd = 0
      · by_cases hm : misE j 1 (l.js.length - 2) = 0
        · exact lineLimits_in l hf hg sd j hs hm
        · exact lineLimits_miss l hf hg sd j hs hm
      · exact lineLimits_side l hf hg sd j hs
    · exact lineLimits_bad l hf hg sd j
end Go.Proofs.Ytonjcljnpcmenaa
