/- Lemmas for the statement. -/
import Derived.Test.YtjhcfpdgldpicaaT0
import Derived.Test.YtjhcfpdgldpicaaM13
namespace Go.Proofs.Ytjhcfpdgldpicaa
open Go Go.RowKit Go.Proofs
set_option linter.unusedSimpArgs false
set_option linter.unusedVariables false
theorem y87_fl36_0 : FldIs Try.prog 36 0 0 false 1 := by unfold FldIs; kernel_rfl
theorem y87_fl36_1 : FldIs Try.prog 36 1 1 false 1 := by unfold FldIs; kernel_rfl
theorem y87_hcf10 : ∀ args w, (callFunc 10 args).run Try.prog w = .ok (.enter 10 args) w := fun _ _ => by kernel_rfl
theorem y87_hcf11 : ∀ args w, (callFunc 11 args).run Try.prog w = .ok (.enter 11 args) w := fun _ _ => by kernel_rfl
theorem y87_hcf12 : ∀ args w, (callFunc 12 args).run Try.prog w = .ok (.enter 12 args) w := fun _ _ => by kernel_rfl
theorem y87_hcf13 : ∀ args w, (callFunc 13 args).run Try.prog w = .ok (.enter 13 args) w := fun _ _ => by kernel_rfl
theorem y87_hcf14 : ∀ args w, (callFunc 14 args).run Try.prog w = .ok (.enter 14 args) w := fun _ _ => by kernel_rfl
theorem y87_hcf5 : ∀ args w, (callFunc 5 args).run Try.prog w = .ok (.enter 5 args) w := fun _ _ => by kernel_rfl
theorem y87_hcf6 : ∀ args w, (callFunc 6 args).run Try.prog w = .ok (.enter 6 args) w := fun _ _ => by kernel_rfl
theorem y87_hcf7 : ∀ args w, (callFunc 7 args).run Try.prog w = .ok (.enter 7 args) w := fun _ _ => by kernel_rfl
theorem y87_hcf8 : ∀ args w, (callFunc 8 args).run Try.prog w = .ok (.enter 8 args) w := fun _ _ => by kernel_rfl
theorem y87_hcf9 : ∀ args w, (callFunc 9 args).run Try.prog w = .ok (.enter 9 args) w := fun _ _ => by kernel_rfl
theorem y87_sl23 : SlIs Try.prog 23 69 2 16 (.agg #[.int .i64 0, .int .i64 0]) := ⟨by kernel_rfl, by kernel_rfl, by kernel_rfl⟩
theorem y87_sl40 : SlIs Try.prog 40 3 1 8 (.int .i64 0) := ⟨by kernel_rfl, by kernel_rfl, by kernel_rfl⟩
theorem y87_ty23 : TyIs Try.prog 23 false 1 := ⟨by kernel_rfl, by kernel_rfl⟩
theorem y87_ty26 : TyIs Try.prog 26 true 4 := ⟨by kernel_rfl, by kernel_rfl⟩
theorem y87_ty3 : TyIs Try.prog 3 false 1 := ⟨by kernel_rfl, by kernel_rfl⟩
set_option maxRecDepth 100000 in
set_option maxHeartbeats 4000000 in
theorem lineTurned_many (l : Lin) (hf : fewL l = false) (sd : Int) : FnOk Try.prog 3 [lnA l, mA sd] (fun q => q = tbA true) := by
 refine fnOk_of (fn := Try.f3) 162 (by kernel_rfl) rfl (by kernel_rfl) (Nat.le_of_ble_eq_true rfl) ?_
 intro e_0 m_0 hA hm_0
 have s0_0 : evA e_0 (.tmp 0) = _ := hA 0 _ rfl
 have s1_0 : evA e_0 (.tmp 1) = _ := hA 1 _ rfl
 have ml_0 : m_0.length = 0 := by rw [hm_0]; rfl
 clear hA hm_0
 refine aw_seq <| at_ <| al_stm (st_box s0_0 rfl ml_0) trivial rfl (fun m_1 hm_1 => ?_)
 have mo0_1 := m_push hm_1 ml_0
 have ml_1 := m_push_l hm_1 ml_0
 have ml_1 : _ = 1 := ml_1
 clear hm_1
 refine ar (ro_assign ev_c) rfl <| ae2 (u2 rfl s1_0) (up_m rfl up_h) ?_; clear s0_0 s1_0; intro e_2 s1_2 s2_2
 refine then_n <| aw_seq <| aw_seq <| at_ <| ar (ro_call evL_nil rfl (awake_ok) y87_hcf5) rfl <| ar (ro_not up_h) rfl <| ae3 (u2 rfl s1_2) (u2 rfl s2_2) up_h ?_; clear s1_2 s2_2; intro e_3 s1_3 s2_3 s21_3
 refine then_n <| aw_case s21_3 (fun hq_4 => ?_) (fun hq_4 => ?_)
 ·cases hq_4
 replace hq_4 := bf' hq_4
 refine aw_skip <| then_n <| aw_seq <| aw_seq <| at_ <| ar (ro_eq (ro_ld_ptr y87_ty26 rfl mo0_1 s2_3 (nle rfl)) (by simp only [pS, Value.cells, Nat.reduceAdd] <;> rfl)) rfl ?_
 refine ar (ro_call (evL_cons up_h evL_nil) rfl ((fewL_ok l).mono (fun q h => show q = tbA false from h.trans (by rw [hf]))) y87_hcf6) rfl ?_
 refine ar (ro_not up_h) rfl <| ae3 (up_m rfl (u2 rfl s1_3)) (up_m rfl (u2 rfl s2_3)) up_h ?_; clear s1_3 s21_3 s2_3; intro e_5 s1_5 s2_5 s24_5
 refine then_n <| aw_case s24_5 (fun hq_6 => ?_) (fun hq_6 => ?_)
 ·replace hq_6 := bt' hq_6
  refine aw_seq <| at_ <| ar (ro_assign ev_c) rfl <| ae1 up_h ?_; clear s1_5 s24_5 s2_5; intro e_7 s4_7
  refine then_n <| aw_ret <| then_r <| ret1 (.inr rfl) (by kernel_rfl) (resV_tmp s4_7) (.ro _ rfl) ?_
  clear s4_7 mo0_1 ml_1
  first | rfl | (simp_all; done)
 ·cases hq_6
set_option maxRecDepth 100000 in
set_option maxHeartbeats 4000000 in
theorem lineTurned_bad (l : Lin) (hf : fewL l = true) (hb : (linM l).2 ≠ 0) (sd : Int) : FnOk Try.prog 3 [lnA l, mA sd] (fun q => q = tbA true) := by
 refine fnOk_of (fn := Try.f3) 162 (by kernel_rfl) rfl (by kernel_rfl) (Nat.le_of_ble_eq_true rfl) ?_
 intro e_0 m_0 hA hm_0
 have s0_0 : evA e_0 (.tmp 0) = _ := hA 0 _ rfl
 have s1_0 : evA e_0 (.tmp 1) = _ := hA 1 _ rfl
 have ml_0 : m_0.length = 0 := by rw [hm_0]; rfl
 clear hA hm_0
 have hl := fewL_sho hf
 refine aw_seq <| at_ <| al_stm (st_box s0_0 rfl ml_0) trivial rfl (fun m_1 hm_1 => ?_)
 have mo0_1 := m_push hm_1 ml_0
 have ml_1 := m_push_l hm_1 ml_0
 have ml_1 : _ = 1 := ml_1
 clear hm_1
 refine ar (ro_assign ev_c) rfl <| ae2 (u2 rfl s1_0) (up_m rfl up_h) ?_; clear s0_0 s1_0; intro e_2 s1_2 s2_2
 refine then_n <| aw_seq <| aw_seq <| at_ <| ar (ro_call evL_nil rfl (awake_ok) y87_hcf5) rfl <| ar (ro_not up_h) rfl <| ae3 (u2 rfl s1_2) (u2 rfl s2_2) up_h ?_; clear s1_2 s2_2; intro e_3 s1_3 s2_3 s21_3
 refine then_n <| aw_case s21_3 (fun hq_4 => ?_) (fun hq_4 => ?_)
 ·cases hq_4
 replace hq_4 := bf' hq_4
 refine aw_skip <| then_n <| aw_seq <| aw_seq <| at_ <| ar (ro_eq (ro_ld_ptr y87_ty26 rfl mo0_1 s2_3 (nle rfl)) (by simp only [pS, Value.cells, Nat.reduceAdd] <;> rfl)) rfl ?_
 refine ar (ro_call (evL_cons up_h evL_nil) rfl ((fewL_ok l).mono (fun q h => show q = tbA true from h.trans (by rw [hf]))) y87_hcf6) rfl ?_
 refine ar (ro_not up_h) rfl <| ae3 (up_m rfl (u2 rfl s1_3)) (up_m rfl (u2 rfl s2_3)) up_h ?_; clear s1_3 s21_3 s2_3; intro e_5 s1_5 s2_5 s24_5
 refine then_n <| aw_case s24_5 (fun hq_6 => ?_) (fun hq_6 => ?_)
 ·cases hq_6
 replace hq_6 := bf' hq_6
 refine aw_skip <| then_n <| aw_seq <| at_ <| ar (ro_eq (ro_ld_ptr y87_ty26 rfl mo0_1 s2_5 (nle rfl)) (by simp only [pS, Value.cells, Nat.reduceAdd] <;> rfl)) rfl ?_
 refine ar (ro_call (evL_cons up_h evL_nil) rfl (yCopy_ok l hl) y87_hcf8) rfl <| ar (ro_call (evL_cons up_h evL_nil) rfl (reversed_bad l hl hb) y87_hcf7) rfl <| ar (ro_move up_h) rfl <| ar (ro_extract up_h rfl) rfl <| ar (ro_extract (up_m rfl up_h) rfl) rfl <| al_stm (st_alloc qaz26 rfl ml_1) trivial rfl (fun m_7 hm_7 => ?_)
 have mo1_7 := m_push hm_7 ml_1
 simp only [pS, Value.cells, Nat.reduceAdd] at mo1_7
 have mo0_7 := m_push_o hm_7 mo0_1
 have ml_7 := m_push_l hm_7 ml_1
 have ml_7 : _ = 2 := ml_7
 clear hm_7 mo0_1
 refine al_stm (st_store up_h (u2 rfl up_h) rfl rfl mo1_7 qsz26 rfl (nle rfl)) trivial rfl (fun m_8 hm_8 => ?_)
 have mo1_8 := m_set hm_8 mo1_7
 simp only [pS, Value.cells, Nat.reduceAdd] at mo1_8
 have mo0_8 := m_set_o hm_8 mo0_7 (by decide)
 have ml_8 := m_set_l hm_8 ml_7
 clear hm_8 mo1_7 mo0_7
 refine ar (ro_assign (up_n (up_m rfl up_h))) rfl <| ae4 (up_m rfl (up_n (up_m rfl (u2 rfl (u4 rfl s1_5))))) (up_m rfl (up_n (up_m rfl (u2 rfl (u4 rfl s2_5))))) (up_m rfl (up_n up_h)) up_h ?_; clear s1_5 s24_5 s2_5; intro e_9 s1_9 s2_9 s5_9 s6_9
 refine then_n <| aw_seq <| aw_seq <| at_ <| ar (ro_eq (ro_ld_ptr y87_ty26 rfl mo0_8 s2_9 (nle rfl)) (by simp only [pS, Value.cells, Nat.reduceAdd] <;> rfl)) rfl ?_
 refine ar (ro_call (evL_cons up_h evL_nil) rfl (lineErr_ok l hl) y87_hcf9) rfl <| ar (ro_assign up_h) rfl <| ae5 (up_m rfl (u2 rfl s1_9)) (up_m rfl (u2 rfl s2_9)) (up_m rfl (u2 rfl s5_9)) (up_m rfl (u2 rfl s6_9)) up_h ?_; clear s1_9 s2_9 s5_9 s6_9; intro e_10 s1_10 s2_10 s5_10 s6_10 s7_10
 refine then_n <| aw_seq <| at_ <| ar (ro_move s7_10) rfl <| ar (ro_neq up_h ev_c) rfl <| ae6 (u2 rfl s1_10) (u2 rfl s2_10) (u2 rfl s5_10) (u2 rfl s6_10) (u2 rfl s7_10) up_h ?_; clear s1_10 s2_10 s5_10 s6_10 s7_10; intro e_11 s1_11 s2_11 s5_11 s6_11 s7_11 s34_11
 refine then_n <| aw_case s34_11 (fun hq_12 => ?_) (fun hq_12 => ?_)
 ·replace hq_12 := bnt hq_12
  refine aw_seq <| at_ <| ar (ro_move s6_11) rfl <| ar (ro_move (up_m rfl s7_11)) rfl <| ar (ro_eql (up_m rfl up_h) up_h) rfl ?_
  refine ar (ro_move up_h) rfl <| al_case up_h (fun hb_13 hq_13 => ?_) (fun hb_13 hq_13 => ?_)
  ·replace hq_13 := bt hq_13
   refine al_ro' (ro_eq (ro_ld_ptr y87_ty26 rfl mo1_8 (u4 rfl s5_11) (nle rfl)) (by simp only [pS, Value.cells, Nat.reduceAdd] <;> rfl)) ⟨_, rfl, hb_13⟩ rfl ?_
   refine al_ro' (ro_build evP_nil qbz26 qbu26 qbp26 rfl) ⟨_, rfl, (up_m rfl hb_13)⟩ rfl ?_
   refine al_ro' (ro_call (evL_cons (up_m rfl up_h) (evL_cons up_h evL_nil)) rfl (same_none) y87_hcf10) ⟨_, rfl, (u2 rfl hb_13)⟩ rfl ?_
   refine ar (ro_pickT (up_m rfl (u2 rfl hb_13)) up_h) rfl <| ar (ro_assign up_h) rfl <| ae1 up_h ?_; clear hb_13 s1_11 s2_11 s34_11 s5_11 s6_11 s7_11; intro e_14 s4_14
   refine then_n <| aw_ret <| then_r <| ret1 (.inr rfl) (by kernel_rfl) (resV_tmp s4_14) (.ro _ rfl) ?_
   clear s4_14 mo1_8 mo0_8 ml_8
   first | rfl | (simp_all; done) | omega
  ·replace hq_13 := bf hq_13; exfalso; omega
 ·replace hq_12 := bnf hq_12; exfalso; omega
set_option maxRecDepth 100000 in
set_option maxHeartbeats 4000000 in
theorem lineTurned_side (l : Lin) (hf : fewL l = true) (hg : (linM l).2 = 0) (sd : Int) (hs : sidE sd ≠ 0) : FnOk Try.prog 3 [lnA l, mA sd] (fun q => q = tbA true) := by
 refine fnOk_of (fn := Try.f3) 162 (by kernel_rfl) rfl (by kernel_rfl) (Nat.le_of_ble_eq_true rfl) ?_
 intro e_0 m_0 hA hm_0
 have s0_0 : evA e_0 (.tmp 0) = _ := hA 0 _ rfl
 have s1_0 : evA e_0 (.tmp 1) = _ := hA 1 _ rfl
 have ml_0 : m_0.length = 0 := by rw [hm_0]; rfl
 clear hA hm_0
 have hl := fewL_sho hf; have hr := rgt_of hg; have hn1 := hr.n1; have hn0 := hr.n0; have hjs := hr.js; have hml := revL_sho hl; have hmr := revL_rgt hr; have hmg := rgt_to hmr; have hmb := revL_bs l
 refine aw_seq <| at_ <| al_stm (st_box s0_0 rfl ml_0) trivial rfl (fun m_1 hm_1 => ?_)
 have mo0_1 := m_push hm_1 ml_0
 have ml_1 := m_push_l hm_1 ml_0
 have ml_1 : _ = 1 := ml_1
 clear hm_1
 refine ar (ro_assign ev_c) rfl <| ae2 (u2 rfl s1_0) (up_m rfl up_h) ?_; clear s0_0 s1_0; intro e_2 s1_2 s2_2
 refine then_n <| aw_seq <| aw_seq <| at_ <| ar (ro_call evL_nil rfl (awake_ok) y87_hcf5) rfl <| ar (ro_not up_h) rfl <| ae3 (u2 rfl s1_2) (u2 rfl s2_2) up_h ?_; clear s1_2 s2_2; intro e_3 s1_3 s2_3 s21_3
 refine then_n <| aw_case s21_3 (fun hq_4 => ?_) (fun hq_4 => ?_)
 ·cases hq_4
 replace hq_4 := bf' hq_4
 refine aw_skip <| then_n <| aw_seq <| aw_seq <| at_ <| ar (ro_eq (ro_ld_ptr y87_ty26 rfl mo0_1 s2_3 (nle rfl)) (by simp only [pS, Value.cells, Nat.reduceAdd] <;> rfl)) rfl ?_
 refine ar (ro_call (evL_cons up_h evL_nil) rfl ((fewL_ok l).mono (fun q h => show q = tbA true from h.trans (by rw [hf]))) y87_hcf6) rfl ?_
 refine ar (ro_not up_h) rfl <| ae3 (up_m rfl (u2 rfl s1_3)) (up_m rfl (u2 rfl s2_3)) up_h ?_; clear s1_3 s21_3 s2_3; intro e_5 s1_5 s2_5 s24_5
 refine then_n <| aw_case s24_5 (fun hq_6 => ?_) (fun hq_6 => ?_)
 ·cases hq_6
 replace hq_6 := bf' hq_6
 refine aw_skip <| then_n <| aw_seq <| at_ <| ar (ro_eq (ro_ld_ptr y87_ty26 rfl mo0_1 s2_5 (nle rfl)) (by simp only [pS, Value.cells, Nat.reduceAdd] <;> rfl)) rfl ?_
 refine ar (ro_call (evL_cons up_h evL_nil) rfl (yCopy_ok l hl) y87_hcf8) rfl <| ar (ro_call (evL_cons up_h evL_nil) rfl (reversed_good l hl hg) y87_hcf7) rfl <| ar (ro_move up_h) rfl <| ar (ro_extract up_h rfl) rfl <| ar (ro_extract (up_m rfl up_h) rfl) rfl <| al_stm (st_alloc qaz26 rfl ml_1) trivial rfl (fun m_7 hm_7 => ?_)
 have mo1_7 := m_push hm_7 ml_1
 simp only [pS, Value.cells, Nat.reduceAdd] at mo1_7
 have mo0_7 := m_push_o hm_7 mo0_1
 have ml_7 := m_push_l hm_7 ml_1
 have ml_7 : _ = 2 := ml_7
 clear hm_7 mo0_1
 refine al_stm (st_store up_h (u2 rfl up_h) rfl rfl mo1_7 qsz26 rfl (nle rfl)) trivial rfl (fun m_8 hm_8 => ?_)
 have mo1_8 := m_set hm_8 mo1_7
 simp only [pS, Value.cells, Nat.reduceAdd] at mo1_8
 have mo0_8 := m_set_o hm_8 mo0_7 (by decide)
 have ml_8 := m_set_l hm_8 ml_7
 clear hm_8 mo1_7 mo0_7
 refine ar (ro_assign (up_n (up_m rfl up_h))) rfl <| ae4 (up_m rfl (up_n (up_m rfl (u2 rfl (u4 rfl s1_5))))) (up_m rfl (up_n (up_m rfl (u2 rfl (u4 rfl s2_5))))) (up_m rfl (up_n up_h)) up_h ?_; clear s1_5 s24_5 s2_5; intro e_9 s1_9 s2_9 s5_9 s6_9
 refine then_n <| aw_seq <| aw_seq <| at_ <| ar (ro_eq (ro_ld_ptr y87_ty26 rfl mo0_8 s2_9 (nle rfl)) (by simp only [pS, Value.cells, Nat.reduceAdd] <;> rfl)) rfl ?_
 refine ar (ro_call (evL_cons up_h evL_nil) rfl ((lineErr_ok l hl).mono (fun q h => show q = mA 0 from h.trans (by rw [hg]))) y87_hcf9) rfl ?_
 refine ar (ro_assign up_h) rfl <| ae5 (up_m rfl (u2 rfl s1_9)) (up_m rfl (u2 rfl s2_9)) (up_m rfl (u2 rfl s5_9)) (up_m rfl (u2 rfl s6_9)) up_h ?_; clear s1_9 s2_9 s5_9 s6_9; intro e_10 s1_10 s2_10 s5_10 s6_10 s7_10
 refine then_n <| aw_seq <| at_ <| ar (ro_move s7_10) rfl <| ar (ro_neq up_h ev_c) rfl <| ae6 (u2 rfl s1_10) (u2 rfl s2_10) (u2 rfl s5_10) (u2 rfl s6_10) (u2 rfl s7_10) up_h ?_; clear s1_10 s2_10 s5_10 s6_10 s7_10; intro e_11 s1_11 s2_11 s5_11 s6_11 s7_11 s34_11
 refine then_n <| aw_case s34_11 (fun hq_12 => ?_) (fun hq_12 => ?_)
 ·cases hq_12
 replace hq_12 := bnf hq_12
 refine aw_skip <| then_n <| aw_seq <| aw_seq <| aw_draw 9 (by kernel_rfl) (by kernel_rfl) (by kernel_rfl) (by kernel_rfl) ?_
 refine dr (ro_move s6_11) rfl <| dr (ro_neq up_h ev_c) rfl <| dr (ro_move up_h) rfl <| ds_case up_h (fun hb_13 hq_13 => ?_) (fun hb_13 hq_13 => ?_)
 ·cases hq_13
 replace hq_13 := bnf hq_13
 refine ds_ro' (ro_eq (ro_ld_ptr y87_ty26 rfl mo1_8 (up_m rfl (u2 rfl s5_11)) (nle rfl)) (by simp only [pS, Value.cells, Nat.reduceAdd] <;> rfl)) ⟨_, rfl, hb_13⟩ rfl ?_
 refine ds_ro' (ro_eq (ro_ld_ptr y87_ty26 rfl mo0_8 (u4 rfl s2_11) (nle rfl)) (by simp only [pS, Value.cells, Nat.reduceAdd] <;> rfl)) ⟨_, rfl, (up_m rfl hb_13)⟩ rfl ?_
 refine ds_ro' (ro_call (evL_cons up_h evL_nil) rfl (rReversed_ok l hl hr) y87_hcf11) ⟨_, rfl, (u2 rfl hb_13)⟩ rfl ?_
 refine ds_ro' (ro_call (evL_cons (u2 rfl up_h) (evL_cons up_h evL_nil)) rfl (same_refl (revL l) hml) y87_hcf10) ⟨_, rfl, (up_m rfl (u2 rfl hb_13))⟩ rfl ?_
 refine ds_ro' (ro_not up_h) ⟨_, rfl, (u4 rfl hb_13)⟩ rfl ?_
 refine dr (ro_pickF (up_m rfl (u4 rfl hb_13)) up_h) rfl <| ds_nil <| ae4 (up_m rfl (u8 rfl s1_11)) (up_m rfl (u8 rfl s2_11)) (up_m rfl (u8 rfl s5_11)) up_h ?_; clear hb_13 s1_11 s2_11 s34_11 s5_11 s6_11 s7_11; intro e_17 s1_17 s2_17 s5_17 s51_17
 refine then_n <| aw_case s51_17 (fun hq_18 => ?_) (fun hq_18 => ?_)
 ·cases hq_18
 replace hq_18 := bf' hq_18
 refine aw_skip <| then_n <| aw_seq <| at_ <| ar (ro_eq (ro_ld_ptr y87_ty26 rfl mo1_8 s5_17 (nle rfl)) (by simp only [pS, Value.cells, Nat.reduceAdd] <;> rfl)) rfl ?_
 refine ar (ro_call (evL_cons up_h evL_nil) rfl (yCopy_ok (revL l) hml) y87_hcf8) rfl <| ar (ro_call (evL_cons up_h evL_nil) rfl ((reversed_good (revL l) hml hmg).mono (fun q h => show q = .tuple [lnA l, mA 0] from h.trans (by rw [revL2]))) y87_hcf7) rfl ?_
 refine ar (ro_move up_h) rfl <| ar (ro_extract up_h rfl) rfl <| ar (ro_extract (up_m rfl up_h) rfl) rfl <| al_stm (st_alloc qaz26 rfl ml_8) trivial rfl (fun m_20 hm_20 => ?_)
 have mo2_20 := m_push hm_20 ml_8
 simp only [pS, Value.cells, Nat.reduceAdd] at mo2_20
 have mo1_20 := m_push_o hm_20 mo1_8
 have mo0_20 := m_push_o hm_20 mo0_8
 have ml_20 := m_push_l hm_20 ml_8
 have ml_20 : _ = 3 := ml_20
 clear hm_20 mo1_8 mo0_8
 refine al_stm (st_store up_h (u2 rfl up_h) rfl rfl mo2_20 qsz26 rfl (nle rfl)) trivial rfl (fun m_21 hm_21 => ?_)
 have mo2_21 := m_set hm_21 mo2_20
 simp only [pS, Value.cells, Nat.reduceAdd] at mo2_21
 have mo1_21 := m_set_o hm_21 mo1_20 (by decide)
 have mo0_21 := m_set_o hm_21 mo0_20 (by decide)
 have ml_21 := m_set_l hm_21 ml_20
 clear hm_21 mo2_20 mo1_20 mo0_20
 refine ar (ro_assign (up_n (up_m rfl up_h))) rfl <| ae5 (up_m rfl (up_n (up_m rfl (u2 rfl (u4 rfl s1_17))))) (up_m rfl (up_n (up_m rfl (u2 rfl (u4 rfl s2_17))))) (up_m rfl (up_n (up_m rfl (u2 rfl (u4 rfl s5_17))))) (up_m rfl (up_n up_h)) up_h ?_; clear s1_17 s2_17 s51_17 s5_17; intro e_22 s1_22 s2_22 s5_22 s8_22 s9_22
 refine then_n <| aw_seq <| aw_seq <| at_ <| ar (ro_move s9_22) rfl <| ar (ro_neq up_h ev_c) rfl <| ar (ro_move up_h) rfl <| al_case up_h (fun hb_23 hq_23 => ?_) (fun hb_23 hq_23 => ?_)
 ·cases hq_23
 replace hq_23 := bnf hq_23
 refine al_ro' (ro_eq (ro_ld_ptr y87_ty26 rfl mo2_21 (up_m rfl (u2 rfl s8_22)) (nle rfl)) (by simp only [pS, Value.cells, Nat.reduceAdd] <;> rfl)) ⟨_, rfl, hb_23⟩ rfl ?_
 refine al_ro' (ro_eq (ro_ld_ptr y87_ty26 rfl mo0_21 (u4 rfl s2_22) (nle rfl)) (by simp only [pS, Value.cells, Nat.reduceAdd] <;> rfl)) ⟨_, rfl, (up_m rfl hb_23)⟩ rfl ?_
 refine al_ro' (ro_call (evL_cons (up_m rfl up_h) (evL_cons up_h evL_nil)) rfl (same_refl l hl) y87_hcf10) ⟨_, rfl, (u2 rfl hb_23)⟩ rfl ?_
 refine al_ro' (ro_not up_h) ⟨_, rfl, (up_m rfl (u2 rfl hb_23))⟩ rfl ?_
 refine ar (ro_pickF (u4 rfl hb_23) up_h) rfl <| ae4 (u8 rfl s1_22) (u8 rfl s2_22) (u8 rfl s5_22) up_h ?_; clear hb_23 s1_22 s2_22 s5_22 s8_22 s9_22; intro e_27 s1_27 s2_27 s5_27 s65_27
 refine then_n <| aw_case s65_27 (fun hq_28 => ?_) (fun hq_28 => ?_)
 ·cases hq_28
 replace hq_28 := bf' hq_28
 refine aw_skip <| then_n <| aw_seq <| aw_seq <| at_ <| ar (ro_assign ev_c) rfl <| ae4 (up_m rfl s1_27) (up_m rfl s2_27) (up_m rfl s5_27) up_h ?_; clear s1_27 s2_27 s5_27 s65_27; intro e_30 s1_30 s2_30 s5_30 s10_30
 refine then_n <| aw_block <| aw_loop (S := Int) (fun i e mem => (evA e (.tmp 10) = .v (.int .i64 i)) ∧ (evA e (.tmp 1) = evA e_30 (.tmp 1)) ∧ (evA e (.tmp 2) = evA e_30 (.tmp 2)) ∧ (evA e (.tmp 5) = evA e_30 (.tmp 5)) ∧ (mem[2]? = m_21[2]?) ∧ (mem[1]? = m_21[1]?) ∧ (mem[0]? = m_21[0]?) ∧ (∃ n, mem.length = n ∧ 3 ≤ n) ∧ ((0 ≤ i ∧ i ≤ l.bs.length))) (fun i => (l.bs.length - i).toNat) _ ⟨s10_30, rfl, rfl, rfl, rfl, rfl, rfl, ⟨_, ml_21, Nat.le_refl _⟩, ?_⟩ ?_
 ·(exact ⟨by omega, by omega⟩)
 ·rintro i e_31 m_31 ⟨s10_31, k1_31, k2_31, k5_31, mk2_31, mk1_31, mk0_31, ⟨n_31, ml_31, hn_31⟩, hinv⟩
  have s1_31 := k1_31.trans s1_30
  have s2_31 := k2_31.trans s2_30
  have s5_31 := k5_31.trans s5_30
  have mo2_31 := mk2_31.trans mo2_21
  have mo1_31 := mk1_31.trans mo1_21
  have mo0_31 := mk0_31.trans mo0_21
  (obtain ⟨p1, p2⟩ := hinv)
  refine aw_seq <| aw_seq <| at_ <| ar (ro_move s10_31) rfl <| ar (ro_fld_ptr qfl26_2 rfl (up_m rfl s2_31)) rfl <| ar (ro_eq (ro_ld_ptr y87_ty23 rfl mo0_31 up_h (nle rfl)) (by simp only [pS, Value.cells, Nat.reduceAdd] <;> rfl)) rfl ?_
  refine ar (ro_eq (ro_len_row up_h rfl y87_sl23.1) (by simp only [lnS] <;> rfl)) rfl ?_
  refine ar (ro_lss (up_m rfl (u2 rfl up_h)) up_h) rfl <| ae5 (up_m rfl (u4 rfl s1_31)) (up_m rfl (u4 rfl s2_31)) (up_m rfl (u4 rfl s5_31)) (up_m rfl (u4 rfl s10_31)) up_h ?_; clear s10_31 s1_31 s2_31 s5_31; intro e_32 s1_32 s2_32 s5_32 s10_32 s70_32
  refine then_n <| aw_case s70_32 (fun hq_33 => ?_) (fun hq_33 => ?_)
  ·replace hq_33 := bt hq_33
   refine aw_skip <| then_n <| aw_seq <| aw_block <| aw_seq ?_
   have gm1 : misE i 0 (l.bs.length - 1) = 0 := misE_z.2 (by omega); have gm2 : misE ((l.bs.length : Int) - 1 - i) 0 ((revL l).bs.length - 1) = 0 := misE_z.2 (by omega); have gr := gra_rev hr (i := i.toNat) (by omega); have gb := gra_bd hr (i := i.toNat) (by omega)
   refine at_ <| ar (ro_eq (ro_ld_ptr y87_ty26 rfl mo0_31 s2_32 (nle rfl)) (by simp only [pS, Value.cells, Nat.reduceAdd] <;> rfl)) rfl ?_
   refine ar (ro_call (evL_cons up_h evL_nil) rfl (yCopy_ok l hl) y87_hcf8) rfl <| ar (ro_move (u2 rfl s10_32)) rfl <| ar (ro_call (evL_cons (up_m rfl up_h) (evL_cons up_h evL_nil)) rfl (gradientOf_in l hl hg i gm1) y87_hcf12) rfl <| ar (ro_move up_h) rfl <| ar (ro_extract up_h rfl) rfl <| ar (ro_extract (up_m rfl up_h) rfl) rfl <| al_stm (st_alloc qaz36 rfl ml_31) trivial rfl (fun m_34 hm_34 => ?_)
   have mon_31_34 := m_push hm_34 ml_31
   simp only [pS, Value.cells, Nat.reduceAdd] at mon_31_34
   have mo2_34 := m_push_o hm_34 mo2_31
   have mo1_34 := m_push_o hm_34 mo1_31
   have mo0_34 := m_push_o hm_34 mo0_31
   have ml_34 := m_push_l hm_34 ml_31
   clear hm_34 mo2_31 mo1_31 mo0_31
   refine al_stm (st_store up_h (u2 rfl up_h) rfl rfl mon_31_34 qsz36 rfl (nle rfl)) trivial rfl (fun m_35 hm_35 => ?_)
   have mon_31_35 := m_set hm_35 mon_31_34
   simp only [pS, Value.cells, Nat.reduceAdd] at mon_31_35
   have mo2_35 := m_set_o hm_35 mo2_34 (by omega)
   have mo1_35 := m_set_o hm_35 mo1_34 (by omega)
   have mo0_35 := m_set_o hm_35 mo0_34 (by omega)
   have ml_35 := m_set_l hm_35 ml_34
   clear hm_35 mon_31_34 mo2_34 mo1_34 mo0_34
   refine ar (ro_assign (up_n (up_m rfl up_h))) rfl <| ae6 (up_m rfl (up_n (u8 rfl s1_32))) (up_m rfl (up_n (u8 rfl s2_32))) (up_m rfl (up_n (u8 rfl s5_32))) (up_m rfl (up_n (u8 rfl s10_32))) (up_m rfl (up_n up_h)) up_h ?_; clear s10_32 s1_32 s2_32 s5_32 s70_32; intro e_36 s1_36 s2_36 s5_36 s10_36 s11_36 s12_36
   refine then_n <| aw_seq <| aw_drawK 14 1 ml_35 (by kernel_rfl) (by kernel_rfl) (by kernel_rfl) (by kernel_rfl) (fun m_37 hm_37 => ?_)
   have mon_31_37 := m_room_o hm_37 mon_31_35
   have mo2_37 := m_room_o hm_37 mo2_35
   have mo1_37 := m_room_o hm_37 mo1_35
   have mo0_37 := m_room_o hm_37 mo0_35
   have mon_31_1_37 : m_37[n_31 + 1]? = _ := m_room_g hm_37 ml_35 0 rfl rfl
   have ml_37 : _ = n_31 + 1 + 1 := m_room_l (K := 1) hm_37 ml_35
   clear hm_37 mon_31_35 mo2_35 mo1_35 mo0_35 ml_35
   refine dh_ld (1) (fun M_ hM_ => (ro_eq (ro_ld_ptr y87_ty26 rfl (agr hM_ mo1_37 (by simp)) s5_36 (nle rfl)) (by simp only [pS, Value.cells, Nat.reduceAdd] <;> rfl))) trivial trivial ?_
   refine dh_ro (fun M_ hM_ => (ro_call (evL_cons up_h evL_nil) rfl (yCopy_ok (revL l) hml) y87_hcf8)) trivial ?_
   refine dh_ro (fun M_ hM_ => (ro_fld_ptr qfl26_2 rfl (u2 rfl s2_36))) trivial ?_
   refine dh_ld (0) (fun M_ hM_ => (ro_eq (ro_ld_ptr y87_ty23 rfl (agr hM_ mo0_37 (by simp)) up_h (nle rfl)) (by simp only [pS, Value.cells, Nat.reduceAdd] <;> rfl))) trivial trivial ?_
   refine dh_ro (fun M_ hM_ => (ro_eq (ro_len_row up_h rfl y87_sl23.1) (by simp only [lnS] <;> rfl))) trivial ?_
   (refine dh_ro (fun M_ hM_ => (ro_sub' up_h ev_c ?_)) trivial ?_; · (unfold In64; omega))
   refine dh_ro (fun M_ hM_ => (ro_move (u2 rfl (u4 rfl s10_36)))) trivial ?_
   (refine dh_ro (fun M_ hM_ => (ro_sub' (up_m rfl up_h) up_h ?_)) trivial ?_; · (unfold In64; omega))
   refine dh_ro (fun M_ hM_ => (ro_call (evL_cons (u2 rfl (u4 rfl up_h)) (evL_cons up_h evL_nil)) rfl ((gradientOf_in (revL l) hml hmg ((l.bs.length : Int) - 1 - i) gm2).mono (fun q h => show q = .tuple [frA (-(graX l i.toNat)) (graY l i.toNat), mA 0] from h.trans (by rw [show ((l.bs.length : Int) - 1 - i).toNat = l.bs.length - 1 - i.toNat by omega, gr.1, gr.2]))) y87_hcf12)) trivial ?_
   refine dh_ro (fun M_ hM_ => (ro_move up_h)) trivial ?_
   refine dh_ro (fun M_ hM_ => (ro_extract up_h rfl)) trivial ?_
   refine dh_ro (fun M_ hM_ => (ro_extract (up_m rfl up_h) rfl)) trivial ?_
   refine dh_nw (n_31 + 1) (fun M_ hM_ => (nw_alloc qaz36 rfl)) trivial mon_31_1_37 rfl trivial ⟨.inl (by simp <;> omega), ⟨.inl (by simp <;> omega), trivial⟩⟩ (fun m_38 hm_38 => ?_)
   have mon_31_1_38 := m_set hm_38 mon_31_1_37
   simp only [pS, Value.cells, Nat.reduceAdd] at mon_31_1_38
   have mon_31_38 := m_set_o hm_38 mon_31_37 (by omega)
   have mo2_38 := m_set_o hm_38 mo2_37 (by omega)
   have mo1_38 := m_set_o hm_38 mo1_37 (by omega)
   have mo0_38 := m_set_o hm_38 mo0_37 (by omega)
   have ml_38 := m_set_l hm_38 ml_37
   clear hm_38 mon_31_37 mo2_37 mo1_37 mo0_37 mon_31_1_37
   refine dh_set (n_31 + 1) (fun M_ hM_ => (se_store up_h (u2 rfl up_h) rfl rfl (agr hM_ mon_31_1_38 (by simp)) qsz36 rfl (nle rfl))) trivial ⟨.inr (wt_one 13 12 (by kernel_rfl)), trivial⟩ ⟨.inl (by simp <;> omega), ⟨.inl (by simp <;> omega), ⟨.inr (wt_one 13 12 (by kernel_rfl)), trivial⟩⟩⟩ (fun m_39 hm_39 => ?_)
   have mon_31_1_39 := m_set hm_39 mon_31_1_38
   simp only [pS, Value.cells, Nat.reduceAdd] at mon_31_1_39
   have mon_31_39 := m_set_o hm_39 mon_31_38 (by omega)
   have mo2_39 := m_set_o hm_39 mo2_38 (by omega)
   have mo1_39 := m_set_o hm_39 mo1_38 (by omega)
   have mo0_39 := m_set_o hm_39 mo0_38 (by omega)
   have ml_39 := m_set_l hm_39 ml_38
   clear hm_39 mon_31_1_38 mon_31_38 mo2_38 mo1_38 mo0_38
   refine dh_nil rfl ?_
   refine ar (ro_assign (up_n (up_m rfl up_h))) rfl <| ae8 (up_m rfl (up_n (up_m rfl (u4 rfl (u8 rfl s1_36))))) (up_m rfl (up_n (up_m rfl (u4 rfl (u8 rfl s2_36))))) (up_m rfl (up_n (up_m rfl (u4 rfl (u8 rfl s5_36))))) (up_m rfl (up_n (up_m rfl (u4 rfl (u8 rfl s10_36))))) (up_m rfl (up_n (up_m rfl (u4 rfl (u8 rfl s11_36))))) (up_m rfl (up_n (up_m rfl (u4 rfl (u8 rfl s12_36))))) (up_m rfl (up_n up_h)) up_h ?_; clear s10_36 s11_36 s12_36 s1_36 s2_36 s5_36; intro e_40 s1_40 s2_40 s5_40 s10_40 s11_40 s12_40 s13_40 s14_40
   refine then_n <| aw_seq <| at_ <| ar (ro_move s12_40) rfl <| ar (ro_neq up_h ev_c) rfl <| ar (ro_move up_h) rfl <| al_case up_h (fun hb_41 hq_41 => ?_) (fun hb_41 hq_41 => ?_)
   ·cases hq_41
   replace hq_41 := bnf hq_41
   refine al_ro' (ro_move (up_m rfl (u2 rfl s14_40))) ⟨_, rfl, hb_41⟩ rfl ?_
   refine al_ro' (ro_neq up_h ev_c) ⟨_, rfl, (up_m rfl hb_41)⟩ rfl ?_
   refine ar (ro_pickF (u2 rfl hb_41) up_h) rfl <| ar (ro_move up_h) rfl <| al_case up_h (fun hb_45 hq_45 => ?_) (fun hb_45 hq_45 => ?_)
   ·cases hq_45
   replace hq_45 := bnf hq_45
   refine al_ro' (ro_fld_ptr y87_fl36_1 rfl (up_m rfl (u2 rfl (u4 rfl s11_40)))) ⟨_, rfl, hb_45⟩ rfl ?_
   refine al_ro' (ro_eq (ro_ld_ptr y87_ty3 rfl mon_31_39 up_h (nle rfl)) (by simp only [pS, Value.cells, Nat.reduceAdd] <;> rfl)) ⟨_, rfl, (up_m rfl hb_45)⟩ rfl ?_
   refine al_ro' (ro_fld_ptr y87_fl36_1 rfl (up_m rfl (u8 rfl s13_40))) ⟨_, rfl, (u2 rfl hb_45)⟩ rfl ?_
   refine al_ro' (ro_eq (ro_ld_ptr y87_ty3 rfl mon_31_1_39 up_h (nle rfl)) (by simp only [pS, Value.cells, Nat.reduceAdd] <;> rfl)) ⟨_, rfl, (up_m rfl (u2 rfl hb_45))⟩ rfl ?_
   refine al_ro' (ro_neq (u2 rfl up_h) up_h) ⟨_, rfl, (u4 rfl hb_45)⟩ rfl ?_
   refine ar (ro_pickF (up_m rfl (u4 rfl hb_45)) up_h) rfl <| ar (ro_move up_h) rfl <| al_case up_h (fun hb_49 hq_49 => ?_) (fun hb_49 hq_49 => ?_)
   ·replace hq_49 := bnt hq_49; exfalso; omega
   replace hq_49 := bnf hq_49
   refine al_ro' (ro_fld_ptr y87_fl36_0 rfl (u2 rfl (u4 rfl (u8 rfl s11_40)))) ⟨_, rfl, hb_49⟩ rfl ?_
   refine al_ro' (ro_eq (ro_ld_ptr y87_ty3 rfl mon_31_39 up_h (nle rfl)) (by simp only [pS, Value.cells, Nat.reduceAdd] <;> rfl)) ⟨_, rfl, (up_m rfl hb_49)⟩ rfl ?_
   refine al_ro' (ro_fld_ptr y87_fl36_0 rfl (u16 rfl s13_40)) ⟨_, rfl, (u2 rfl hb_49)⟩ rfl ?_
   refine al_ro' (ro_eq (ro_ld_ptr y87_ty3 rfl mon_31_1_39 up_h (nle rfl)) (by simp only [pS, Value.cells, Nat.reduceAdd] <;> rfl)) ⟨_, rfl, (up_m rfl (u2 rfl hb_49))⟩ rfl ?_
   (refine al_ro' (ro_neg' up_h ?_) ⟨_, rfl, (u4 rfl hb_49)⟩ rfl ?_; · (unfold In64; omega))
   refine al_ro' (ro_neq (up_m rfl (u2 rfl up_h)) up_h) ⟨_, rfl, (up_m rfl (u4 rfl hb_49))⟩ rfl ?_
   refine ar (ro_pickF (u2 rfl (u4 rfl hb_49)) up_h) rfl <| ae5 (up_m rfl (u4 rfl (u16 rfl s1_40))) (up_m rfl (u4 rfl (u16 rfl s2_40))) (up_m rfl (u4 rfl (u16 rfl s5_40))) (up_m rfl (u4 rfl (u16 rfl s10_40))) up_h ?_; clear hb_41 hb_45 hb_49 s10_40 s11_40 s12_40 s13_40 s14_40 s1_40 s2_40 s5_40; intro e_53 s1_53 s2_53 s5_53 s10_53 s112_53
   refine then_n <| aw_case s112_53 (fun hq_54 => ?_) (fun hq_54 => ?_)
   ·replace hq_54 := bnt hq_54; exfalso; omega
   replace hq_54 := bnf hq_54
   refine aw_skip <| block_n <| then_n <| at_ <| ar (ro_move s10_53) rfl ?_
   (refine ar (ro_add' up_h ev_c ?_) rfl ?_; · (unfold In64; omega))
   refine ar (ro_assign up_h) rfl <| ae4 (up_m rfl (u2 rfl s1_53)) (up_m rfl (u2 rfl s2_53)) (up_m rfl (u2 rfl s5_53)) up_h ?_; clear s10_53 s112_53 s1_53 s2_53 s5_53; intro e_56 s1_56 s2_56 s5_56 s10_56
   refine then_n <| ⟨_, ⟨s10_56, (s1_56.trans s1_30.symm), (s2_56.trans s2_30.symm), (s5_56.trans s5_30.symm), (mo2_39.trans mo2_21.symm), (mo1_39.trans mo1_21.symm), (mo0_39.trans mo0_21.symm), ⟨_, ml_39, by omega⟩, ?_⟩, ?_⟩
   ·(exact ⟨by omega, by omega⟩)
   ·((try dsimp only); omega)
  replace hq_33 := bf hq_33
  refine aw_exit <| then_x <| then_x <| block_hit <| then_n <| aw_seq <| aw_seq <| at_ <| ar (ro_move s1_32) rfl <| ar (ro_call (evL_cons up_h evL_nil) rfl (rSideErr_ok sd) y87_hcf13) rfl <| ar (ro_neq up_h ev_c) rfl <| ae4 (up_m rfl (u2 rfl s1_32)) (up_m rfl (u2 rfl s2_32)) (up_m rfl (u2 rfl s5_32)) up_h ?_; clear s10_32 s1_32 s2_32 s5_32 s70_32; intro e_57 s1_57 s2_57 s5_57 s115_57
  refine then_n <| aw_case s115_57 (fun hq_58 => ?_) (fun hq_58 => ?_)
  ·replace hq_58 := bnt hq_58
   refine aw_seq <| at_ <| ar (ro_assign ev_c) rfl <| ae1 up_h ?_; clear s115_57 s1_57 s2_57 s5_57; intro e_59 s4_59
   refine then_n <| aw_ret <| then_r <| ret1 (.inr rfl) (by kernel_rfl) (resV_tmp s4_59) (.ro _ rfl) ?_
   clear s4_59 mo2_31 mo1_31 mo0_31 ml_31
   first | rfl | (simp_all; done) | omega
  ·replace hq_58 := bnf hq_58; exfalso; omega
set_option maxRecDepth 100000 in
set_option maxHeartbeats 4000000 in
theorem lineTurned_in (l : Lin) (hf : fewL l = true) (hg : (linM l).2 = 0) (sd : Int) (hs : sidE sd = 0) (A B : List Int) (hA : A = limL l sd (l.js.length - 2)) (hB : B = limL (revL l) sd (l.js.length - 2)) : FnOk Try.prog 3 [lnA l, mA sd] (fun q => q = tbA true) := by
 refine fnOk_of (fn := Try.f3) 162 (by kernel_rfl) rfl (by kernel_rfl) (Nat.le_of_ble_eq_true rfl) ?_
 intro e_0 m_0 hA hm_0
 have s0_0 : evA e_0 (.tmp 0) = _ := hA 0 _ rfl
 have s1_0 : evA e_0 (.tmp 1) = _ := hA 1 _ rfl
 have ml_0 : m_0.length = 0 := by rw [hm_0]; rfl
 clear hA hm_0
 have hl := fewL_sho hf; have hr := rgt_of hg; have hn1 := hr.n1; have hn0 := hr.n0; have hjs := hr.js; have hml := revL_sho hl; have hmr := revL_rgt hr; have hmg := rgt_to hmr; have hmb := revL_bs l; have hal : A.length = l.js.length - 2 := (by rw [hA, limL_len]); have hbl : B.length = l.js.length - 2 := (by rw [hB, limL_len])
 refine aw_seq <| at_ <| al_stm (st_box s0_0 rfl ml_0) trivial rfl (fun m_1 hm_1 => ?_)
 have mo0_1 := m_push hm_1 ml_0
 have ml_1 := m_push_l hm_1 ml_0
 have ml_1 : _ = 1 := ml_1
 clear hm_1
 refine ar (ro_assign ev_c) rfl <| ae2 (u2 rfl s1_0) (up_m rfl up_h) ?_; clear s0_0 s1_0; intro e_2 s1_2 s2_2
 refine then_n <| aw_seq <| aw_seq <| at_ <| ar (ro_call evL_nil rfl (awake_ok) y87_hcf5) rfl <| ar (ro_not up_h) rfl <| ae3 (u2 rfl s1_2) (u2 rfl s2_2) up_h ?_; clear s1_2 s2_2; intro e_3 s1_3 s2_3 s21_3
 refine then_n <| aw_case s21_3 (fun hq_4 => ?_) (fun hq_4 => ?_)
 ·cases hq_4
 replace hq_4 := bf' hq_4
 refine aw_skip <| then_n <| aw_seq <| aw_seq <| at_ <| ar (ro_eq (ro_ld_ptr y87_ty26 rfl mo0_1 s2_3 (nle rfl)) (by simp only [pS, Value.cells, Nat.reduceAdd] <;> rfl)) rfl ?_
 refine ar (ro_call (evL_cons up_h evL_nil) rfl ((fewL_ok l).mono (fun q h => show q = tbA true from h.trans (by rw [hf]))) y87_hcf6) rfl ?_
 refine ar (ro_not up_h) rfl <| ae3 (up_m rfl (u2 rfl s1_3)) (up_m rfl (u2 rfl s2_3)) up_h ?_; clear s1_3 s21_3 s2_3; intro e_5 s1_5 s2_5 s24_5
 refine then_n <| aw_case s24_5 (fun hq_6 => ?_) (fun hq_6 => ?_)
 ·cases hq_6
 replace hq_6 := bf' hq_6
 refine aw_skip <| then_n <| aw_seq <| at_ <| ar (ro_eq (ro_ld_ptr y87_ty26 rfl mo0_1 s2_5 (nle rfl)) (by simp only [pS, Value.cells, Nat.reduceAdd] <;> rfl)) rfl ?_
 refine ar (ro_call (evL_cons up_h evL_nil) rfl (yCopy_ok l hl) y87_hcf8) rfl <| ar (ro_call (evL_cons up_h evL_nil) rfl (reversed_good l hl hg) y87_hcf7) rfl <| ar (ro_move up_h) rfl <| ar (ro_extract up_h rfl) rfl <| ar (ro_extract (up_m rfl up_h) rfl) rfl <| al_stm (st_alloc qaz26 rfl ml_1) trivial rfl (fun m_7 hm_7 => ?_)
 have mo1_7 := m_push hm_7 ml_1
 simp only [pS, Value.cells, Nat.reduceAdd] at mo1_7
 have mo0_7 := m_push_o hm_7 mo0_1
 have ml_7 := m_push_l hm_7 ml_1
 have ml_7 : _ = 2 := ml_7
 clear hm_7 mo0_1
 refine al_stm (st_store up_h (u2 rfl up_h) rfl rfl mo1_7 qsz26 rfl (nle rfl)) trivial rfl (fun m_8 hm_8 => ?_)
 have mo1_8 := m_set hm_8 mo1_7
 simp only [pS, Value.cells, Nat.reduceAdd] at mo1_8
 have mo0_8 := m_set_o hm_8 mo0_7 (by decide)
 have ml_8 := m_set_l hm_8 ml_7
 clear hm_8 mo1_7 mo0_7
 refine ar (ro_assign (up_n (up_m rfl up_h))) rfl <| ae4 (up_m rfl (up_n (up_m rfl (u2 rfl (u4 rfl s1_5))))) (up_m rfl (up_n (up_m rfl (u2 rfl (u4 rfl s2_5))))) (up_m rfl (up_n up_h)) up_h ?_; clear s1_5 s24_5 s2_5; intro e_9 s1_9 s2_9 s5_9 s6_9
 refine then_n <| aw_seq <| aw_seq <| at_ <| ar (ro_eq (ro_ld_ptr y87_ty26 rfl mo0_8 s2_9 (nle rfl)) (by simp only [pS, Value.cells, Nat.reduceAdd] <;> rfl)) rfl ?_
 refine ar (ro_call (evL_cons up_h evL_nil) rfl ((lineErr_ok l hl).mono (fun q h => show q = mA 0 from h.trans (by rw [hg]))) y87_hcf9) rfl ?_
 refine ar (ro_assign up_h) rfl <| ae5 (up_m rfl (u2 rfl s1_9)) (up_m rfl (u2 rfl s2_9)) (up_m rfl (u2 rfl s5_9)) (up_m rfl (u2 rfl s6_9)) up_h ?_; clear s1_9 s2_9 s5_9 s6_9; intro e_10 s1_10 s2_10 s5_10 s6_10 s7_10
 refine then_n <| aw_seq <| at_ <| ar (ro_move s7_10) rfl <| ar (ro_neq up_h ev_c) rfl <| ae6 (u2 rfl s1_10) (u2 rfl s2_10) (u2 rfl s5_10) (u2 rfl s6_10) (u2 rfl s7_10) up_h ?_; clear s1_10 s2_10 s5_10 s6_10 s7_10; intro e_11 s1_11 s2_11 s5_11 s6_11 s7_11 s34_11
 refine then_n <| aw_case s34_11 (fun hq_12 => ?_) (fun hq_12 => ?_)
 ·cases hq_12
 replace hq_12 := bnf hq_12
 refine aw_skip <| then_n <| aw_seq <| aw_seq <| aw_draw 9 (by kernel_rfl) (by kernel_rfl) (by kernel_rfl) (by kernel_rfl) ?_
 refine dr (ro_move s6_11) rfl <| dr (ro_neq up_h ev_c) rfl <| dr (ro_move up_h) rfl <| ds_case up_h (fun hb_13 hq_13 => ?_) (fun hb_13 hq_13 => ?_)
 ·cases hq_13
 replace hq_13 := bnf hq_13
 refine ds_ro' (ro_eq (ro_ld_ptr y87_ty26 rfl mo1_8 (up_m rfl (u2 rfl s5_11)) (nle rfl)) (by simp only [pS, Value.cells, Nat.reduceAdd] <;> rfl)) ⟨_, rfl, hb_13⟩ rfl ?_
 refine ds_ro' (ro_eq (ro_ld_ptr y87_ty26 rfl mo0_8 (u4 rfl s2_11) (nle rfl)) (by simp only [pS, Value.cells, Nat.reduceAdd] <;> rfl)) ⟨_, rfl, (up_m rfl hb_13)⟩ rfl ?_
 refine ds_ro' (ro_call (evL_cons up_h evL_nil) rfl (rReversed_ok l hl hr) y87_hcf11) ⟨_, rfl, (u2 rfl hb_13)⟩ rfl ?_
 refine ds_ro' (ro_call (evL_cons (u2 rfl up_h) (evL_cons up_h evL_nil)) rfl (same_refl (revL l) hml) y87_hcf10) ⟨_, rfl, (up_m rfl (u2 rfl hb_13))⟩ rfl ?_
 refine ds_ro' (ro_not up_h) ⟨_, rfl, (u4 rfl hb_13)⟩ rfl ?_
 refine dr (ro_pickF (up_m rfl (u4 rfl hb_13)) up_h) rfl <| ds_nil <| ae4 (up_m rfl (u8 rfl s1_11)) (up_m rfl (u8 rfl s2_11)) (up_m rfl (u8 rfl s5_11)) up_h ?_; clear hb_13 s1_11 s2_11 s34_11 s5_11 s6_11 s7_11; intro e_17 s1_17 s2_17 s5_17 s51_17
 refine then_n <| aw_case s51_17 (fun hq_18 => ?_) (fun hq_18 => ?_)
 ·cases hq_18
 replace hq_18 := bf' hq_18
 refine aw_skip <| then_n <| aw_seq <| at_ <| ar (ro_eq (ro_ld_ptr y87_ty26 rfl mo1_8 s5_17 (nle rfl)) (by simp only [pS, Value.cells, Nat.reduceAdd] <;> rfl)) rfl ?_
 refine ar (ro_call (evL_cons up_h evL_nil) rfl (yCopy_ok (revL l) hml) y87_hcf8) rfl <| ar (ro_call (evL_cons up_h evL_nil) rfl ((reversed_good (revL l) hml hmg).mono (fun q h => show q = .tuple [lnA l, mA 0] from h.trans (by rw [revL2]))) y87_hcf7) rfl ?_
 refine ar (ro_move up_h) rfl <| ar (ro_extract up_h rfl) rfl <| ar (ro_extract (up_m rfl up_h) rfl) rfl <| al_stm (st_alloc qaz26 rfl ml_8) trivial rfl (fun m_20 hm_20 => ?_)
 have mo2_20 := m_push hm_20 ml_8
 simp only [pS, Value.cells, Nat.reduceAdd] at mo2_20
 have mo1_20 := m_push_o hm_20 mo1_8
 have mo0_20 := m_push_o hm_20 mo0_8
 have ml_20 := m_push_l hm_20 ml_8
 have ml_20 : _ = 3 := ml_20
 clear hm_20 mo1_8 mo0_8
 refine al_stm (st_store up_h (u2 rfl up_h) rfl rfl mo2_20 qsz26 rfl (nle rfl)) trivial rfl (fun m_21 hm_21 => ?_)
 have mo2_21 := m_set hm_21 mo2_20
 simp only [pS, Value.cells, Nat.reduceAdd] at mo2_21
 have mo1_21 := m_set_o hm_21 mo1_20 (by decide)
 have mo0_21 := m_set_o hm_21 mo0_20 (by decide)
 have ml_21 := m_set_l hm_21 ml_20
 clear hm_21 mo2_20 mo1_20 mo0_20
 refine ar (ro_assign (up_n (up_m rfl up_h))) rfl <| ae5 (up_m rfl (up_n (up_m rfl (u2 rfl (u4 rfl s1_17))))) (up_m rfl (up_n (up_m rfl (u2 rfl (u4 rfl s2_17))))) (up_m rfl (up_n (up_m rfl (u2 rfl (u4 rfl s5_17))))) (up_m rfl (up_n up_h)) up_h ?_; clear s1_17 s2_17 s51_17 s5_17; intro e_22 s1_22 s2_22 s5_22 s8_22 s9_22
 refine then_n <| aw_seq <| aw_seq <| at_ <| ar (ro_move s9_22) rfl <| ar (ro_neq up_h ev_c) rfl <| ar (ro_move up_h) rfl <| al_case up_h (fun hb_23 hq_23 => ?_) (fun hb_23 hq_23 => ?_)
 ·cases hq_23
 replace hq_23 := bnf hq_23
 refine al_ro' (ro_eq (ro_ld_ptr y87_ty26 rfl mo2_21 (up_m rfl (u2 rfl s8_22)) (nle rfl)) (by simp only [pS, Value.cells, Nat.reduceAdd] <;> rfl)) ⟨_, rfl, hb_23⟩ rfl ?_
 refine al_ro' (ro_eq (ro_ld_ptr y87_ty26 rfl mo0_21 (u4 rfl s2_22) (nle rfl)) (by simp only [pS, Value.cells, Nat.reduceAdd] <;> rfl)) ⟨_, rfl, (up_m rfl hb_23)⟩ rfl ?_
 refine al_ro' (ro_call (evL_cons (up_m rfl up_h) (evL_cons up_h evL_nil)) rfl (same_refl l hl) y87_hcf10) ⟨_, rfl, (u2 rfl hb_23)⟩ rfl ?_
 refine al_ro' (ro_not up_h) ⟨_, rfl, (up_m rfl (u2 rfl hb_23))⟩ rfl ?_
 refine ar (ro_pickF (u4 rfl hb_23) up_h) rfl <| ae4 (u8 rfl s1_22) (u8 rfl s2_22) (u8 rfl s5_22) up_h ?_; clear hb_23 s1_22 s2_22 s5_22 s8_22 s9_22; intro e_27 s1_27 s2_27 s5_27 s65_27
 refine then_n <| aw_case s65_27 (fun hq_28 => ?_) (fun hq_28 => ?_)
 ·cases hq_28
 replace hq_28 := bf' hq_28
 refine aw_skip <| then_n <| aw_seq <| aw_seq <| at_ <| ar (ro_assign ev_c) rfl <| ae4 (up_m rfl s1_27) (up_m rfl s2_27) (up_m rfl s5_27) up_h ?_; clear s1_27 s2_27 s5_27 s65_27; intro e_30 s1_30 s2_30 s5_30 s10_30
 refine then_n <| aw_block <| aw_loop (S := Int) (fun i e mem => (evA e (.tmp 10) = .v (.int .i64 i)) ∧ (evA e (.tmp 1) = evA e_30 (.tmp 1)) ∧ (evA e (.tmp 2) = evA e_30 (.tmp 2)) ∧ (evA e (.tmp 5) = evA e_30 (.tmp 5)) ∧ (mem[2]? = m_21[2]?) ∧ (mem[1]? = m_21[1]?) ∧ (mem[0]? = m_21[0]?) ∧ (∃ n, mem.length = n ∧ 3 ≤ n) ∧ ((0 ≤ i ∧ i ≤ l.bs.length))) (fun i => (l.bs.length - i).toNat) _ ⟨s10_30, rfl, rfl, rfl, rfl, rfl, rfl, ⟨_, ml_21, Nat.le_refl _⟩, ?_⟩ ?_
 ·(exact ⟨by omega, by omega⟩)
 ·rintro i e_31 m_31 ⟨s10_31, k1_31, k2_31, k5_31, mk2_31, mk1_31, mk0_31, ⟨n_31, ml_31, hn_31⟩, hinv⟩
  have s1_31 := k1_31.trans s1_30
  have s2_31 := k2_31.trans s2_30
  have s5_31 := k5_31.trans s5_30
  have mo2_31 := mk2_31.trans mo2_21
  have mo1_31 := mk1_31.trans mo1_21
  have mo0_31 := mk0_31.trans mo0_21
  (obtain ⟨p1, p2⟩ := hinv)
  refine aw_seq <| aw_seq <| at_ <| ar (ro_move s10_31) rfl <| ar (ro_fld_ptr qfl26_2 rfl (up_m rfl s2_31)) rfl <| ar (ro_eq (ro_ld_ptr y87_ty23 rfl mo0_31 up_h (nle rfl)) (by simp only [pS, Value.cells, Nat.reduceAdd] <;> rfl)) rfl ?_
  refine ar (ro_eq (ro_len_row up_h rfl y87_sl23.1) (by simp only [lnS] <;> rfl)) rfl ?_
  refine ar (ro_lss (up_m rfl (u2 rfl up_h)) up_h) rfl <| ae5 (up_m rfl (u4 rfl s1_31)) (up_m rfl (u4 rfl s2_31)) (up_m rfl (u4 rfl s5_31)) (up_m rfl (u4 rfl s10_31)) up_h ?_; clear s10_31 s1_31 s2_31 s5_31; intro e_32 s1_32 s2_32 s5_32 s10_32 s70_32
  refine then_n <| aw_case s70_32 (fun hq_33 => ?_) (fun hq_33 => ?_)
  ·replace hq_33 := bt hq_33
   refine aw_skip <| then_n <| aw_seq <| aw_block <| aw_seq ?_
   have gm1 : misE i 0 (l.bs.length - 1) = 0 := misE_z.2 (by omega); have gm2 : misE ((l.bs.length : Int) - 1 - i) 0 ((revL l).bs.length - 1) = 0 := misE_z.2 (by omega); have gr := gra_rev hr (i := i.toNat) (by omega); have gb := gra_bd hr (i := i.toNat) (by omega)
   refine at_ <| ar (ro_eq (ro_ld_ptr y87_ty26 rfl mo0_31 s2_32 (nle rfl)) (by simp only [pS, Value.cells, Nat.reduceAdd] <;> rfl)) rfl ?_
   refine ar (ro_call (evL_cons up_h evL_nil) rfl (yCopy_ok l hl) y87_hcf8) rfl <| ar (ro_move (u2 rfl s10_32)) rfl <| ar (ro_call (evL_cons (up_m rfl up_h) (evL_cons up_h evL_nil)) rfl (gradientOf_in l hl hg i gm1) y87_hcf12) rfl <| ar (ro_move up_h) rfl <| ar (ro_extract up_h rfl) rfl <| ar (ro_extract (up_m rfl up_h) rfl) rfl <| al_stm (st_alloc qaz36 rfl ml_31) trivial rfl (fun m_34 hm_34 => ?_)
   have mon_31_34 := m_push hm_34 ml_31
   simp only [pS, Value.cells, Nat.reduceAdd] at mon_31_34
   have mo2_34 := m_push_o hm_34 mo2_31
   have mo1_34 := m_push_o hm_34 mo1_31
   have mo0_34 := m_push_o hm_34 mo0_31
   have ml_34 := m_push_l hm_34 ml_31
   clear hm_34 mo2_31 mo1_31 mo0_31
   refine al_stm (st_store up_h (u2 rfl up_h) rfl rfl mon_31_34 qsz36 rfl (nle rfl)) trivial rfl (fun m_35 hm_35 => ?_)
   have mon_31_35 := m_set hm_35 mon_31_34
   simp only [pS, Value.cells, Nat.reduceAdd] at mon_31_35
   have mo2_35 := m_set_o hm_35 mo2_34 (by omega)
   have mo1_35 := m_set_o hm_35 mo1_34 (by omega)
   have mo0_35 := m_set_o hm_35 mo0_34 (by omega)
   have ml_35 := m_set_l hm_35 ml_34
   clear hm_35 mon_31_34 mo2_34 mo1_34 mo0_34
   refine ar (ro_assign (up_n (up_m rfl up_h))) rfl <| ae6 (up_m rfl (up_n (u8 rfl s1_32))) (up_m rfl (up_n (u8 rfl s2_32))) (up_m rfl (up_n (u8 rfl s5_32))) (up_m rfl (up_n (u8 rfl s10_32))) (up_m rfl (up_n up_h)) up_h ?_; clear s10_32 s1_32 s2_32 s5_32 s70_32; intro e_36 s1_36 s2_36 s5_36 s10_36 s11_36 s12_36
   refine then_n <| aw_seq <| aw_drawK 14 1 ml_35 (by kernel_rfl) (by kernel_rfl) (by kernel_rfl) (by kernel_rfl) (fun m_37 hm_37 => ?_)
   have mon_31_37 := m_room_o hm_37 mon_31_35
   have mo2_37 := m_room_o hm_37 mo2_35
   have mo1_37 := m_room_o hm_37 mo1_35
   have mo0_37 := m_room_o hm_37 mo0_35
   have mon_31_1_37 : m_37[n_31 + 1]? = _ := m_room_g hm_37 ml_35 0 rfl rfl
   have ml_37 : _ = n_31 + 1 + 1 := m_room_l (K := 1) hm_37 ml_35
   clear hm_37 mon_31_35 mo2_35 mo1_35 mo0_35 ml_35
   refine dh_ld (1) (fun M_ hM_ => (ro_eq (ro_ld_ptr y87_ty26 rfl (agr hM_ mo1_37 (by simp)) s5_36 (nle rfl)) (by simp only [pS, Value.cells, Nat.reduceAdd] <;> rfl))) trivial trivial ?_
   refine dh_ro (fun M_ hM_ => (ro_call (evL_cons up_h evL_nil) rfl (yCopy_ok (revL l) hml) y87_hcf8)) trivial ?_
   refine dh_ro (fun M_ hM_ => (ro_fld_ptr qfl26_2 rfl (u2 rfl s2_36))) trivial ?_
   refine dh_ld (0) (fun M_ hM_ => (ro_eq (ro_ld_ptr y87_ty23 rfl (agr hM_ mo0_37 (by simp)) up_h (nle rfl)) (by simp only [pS, Value.cells, Nat.reduceAdd] <;> rfl))) trivial trivial ?_
   refine dh_ro (fun M_ hM_ => (ro_eq (ro_len_row up_h rfl y87_sl23.1) (by simp only [lnS] <;> rfl))) trivial ?_
   (refine dh_ro (fun M_ hM_ => (ro_sub' up_h ev_c ?_)) trivial ?_; · (unfold In64; omega))
   refine dh_ro (fun M_ hM_ => (ro_move (u2 rfl (u4 rfl s10_36)))) trivial ?_
   (refine dh_ro (fun M_ hM_ => (ro_sub' (up_m rfl up_h) up_h ?_)) trivial ?_; · (unfold In64; omega))
   refine dh_ro (fun M_ hM_ => (ro_call (evL_cons (u2 rfl (u4 rfl up_h)) (evL_cons up_h evL_nil)) rfl ((gradientOf_in (revL l) hml hmg ((l.bs.length : Int) - 1 - i) gm2).mono (fun q h => show q = .tuple [frA (-(graX l i.toNat)) (graY l i.toNat), mA 0] from h.trans (by rw [show ((l.bs.length : Int) - 1 - i).toNat = l.bs.length - 1 - i.toNat by omega, gr.1, gr.2]))) y87_hcf12)) trivial ?_
   refine dh_ro (fun M_ hM_ => (ro_move up_h)) trivial ?_
   refine dh_ro (fun M_ hM_ => (ro_extract up_h rfl)) trivial ?_
   refine dh_ro (fun M_ hM_ => (ro_extract (up_m rfl up_h) rfl)) trivial ?_
   refine dh_nw (n_31 + 1) (fun M_ hM_ => (nw_alloc qaz36 rfl)) trivial mon_31_1_37 rfl trivial ⟨.inl (by simp <;> omega), ⟨.inl (by simp <;> omega), trivial⟩⟩ (fun m_38 hm_38 => ?_)
   have mon_31_1_38 := m_set hm_38 mon_31_1_37
   simp only [pS, Value.cells, Nat.reduceAdd] at mon_31_1_38
   have mon_31_38 := m_set_o hm_38 mon_31_37 (by omega)
   have mo2_38 := m_set_o hm_38 mo2_37 (by omega)
   have mo1_38 := m_set_o hm_38 mo1_37 (by omega)
   have mo0_38 := m_set_o hm_38 mo0_37 (by omega)
   have ml_38 := m_set_l hm_38 ml_37
   clear hm_38 mon_31_37 mo2_37 mo1_37 mo0_37 mon_31_1_37
   refine dh_set (n_31 + 1) (fun M_ hM_ => (se_store up_h (u2 rfl up_h) rfl rfl (agr hM_ mon_31_1_38 (by simp)) qsz36 rfl (nle rfl))) trivial ⟨.inr (wt_one 13 12 (by kernel_rfl)), trivial⟩ ⟨.inl (by simp <;> omega), ⟨.inl (by simp <;> omega), ⟨.inr (wt_one 13 12 (by kernel_rfl)), trivial⟩⟩⟩ (fun m_39 hm_39 => ?_)
   have mon_31_1_39 := m_set hm_39 mon_31_1_38
   simp only [pS, Value.cells, Nat.reduceAdd] at mon_31_1_39
   have mon_31_39 := m_set_o hm_39 mon_31_38 (by omega)
   have mo2_39 := m_set_o hm_39 mo2_38 (by omega)
   have mo1_39 := m_set_o hm_39 mo1_38 (by omega)
   have mo0_39 := m_set_o hm_39 mo0_38 (by omega)
   have ml_39 := m_set_l hm_39 ml_38
   clear hm_39 mon_31_1_38 mon_31_38 mo2_38 mo1_38 mo0_38
   refine dh_nil rfl ?_
   refine ar (ro_assign (up_n (up_m rfl up_h))) rfl <| ae8 (up_m rfl (up_n (up_m rfl (u4 rfl (u8 rfl s1_36))))) (up_m rfl (up_n (up_m rfl (u4 rfl (u8 rfl s2_36))))) (up_m rfl (up_n (up_m rfl (u4 rfl (u8 rfl s5_36))))) (up_m rfl (up_n (up_m rfl (u4 rfl (u8 rfl s10_36))))) (up_m rfl (up_n (up_m rfl (u4 rfl (u8 rfl s11_36))))) (up_m rfl (up_n (up_m rfl (u4 rfl (u8 rfl s12_36))))) (up_m rfl (up_n up_h)) up_h ?_; clear s10_36 s11_36 s12_36 s1_36 s2_36 s5_36; intro e_40 s1_40 s2_40 s5_40 s10_40 s11_40 s12_40 s13_40 s14_40
   refine then_n <| aw_seq <| at_ <| ar (ro_move s12_40) rfl <| ar (ro_neq up_h ev_c) rfl <| ar (ro_move up_h) rfl <| al_case up_h (fun hb_41 hq_41 => ?_) (fun hb_41 hq_41 => ?_)
   ·cases hq_41
   replace hq_41 := bnf hq_41
   refine al_ro' (ro_move (up_m rfl (u2 rfl s14_40))) ⟨_, rfl, hb_41⟩ rfl ?_
   refine al_ro' (ro_neq up_h ev_c) ⟨_, rfl, (up_m rfl hb_41)⟩ rfl ?_
   refine ar (ro_pickF (u2 rfl hb_41) up_h) rfl <| ar (ro_move up_h) rfl <| al_case up_h (fun hb_45 hq_45 => ?_) (fun hb_45 hq_45 => ?_)
   ·cases hq_45
   replace hq_45 := bnf hq_45
   refine al_ro' (ro_fld_ptr y87_fl36_1 rfl (up_m rfl (u2 rfl (u4 rfl s11_40)))) ⟨_, rfl, hb_45⟩ rfl ?_
   refine al_ro' (ro_eq (ro_ld_ptr y87_ty3 rfl mon_31_39 up_h (nle rfl)) (by simp only [pS, Value.cells, Nat.reduceAdd] <;> rfl)) ⟨_, rfl, (up_m rfl hb_45)⟩ rfl ?_
   refine al_ro' (ro_fld_ptr y87_fl36_1 rfl (up_m rfl (u8 rfl s13_40))) ⟨_, rfl, (u2 rfl hb_45)⟩ rfl ?_
   refine al_ro' (ro_eq (ro_ld_ptr y87_ty3 rfl mon_31_1_39 up_h (nle rfl)) (by simp only [pS, Value.cells, Nat.reduceAdd] <;> rfl)) ⟨_, rfl, (up_m rfl (u2 rfl hb_45))⟩ rfl ?_
   refine al_ro' (ro_neq (u2 rfl up_h) up_h) ⟨_, rfl, (u4 rfl hb_45)⟩ rfl ?_
   refine ar (ro_pickF (up_m rfl (u4 rfl hb_45)) up_h) rfl <| ar (ro_move up_h) rfl <| al_case up_h (fun hb_49 hq_49 => ?_) (fun hb_49 hq_49 => ?_)
   ·replace hq_49 := bnt hq_49; exfalso; omega
   replace hq_49 := bnf hq_49
   refine al_ro' (ro_fld_ptr y87_fl36_0 rfl (u2 rfl (u4 rfl (u8 rfl s11_40)))) ⟨_, rfl, hb_49⟩ rfl ?_
   refine al_ro' (ro_eq (ro_ld_ptr y87_ty3 rfl mon_31_39 up_h (nle rfl)) (by simp only [pS, Value.cells, Nat.reduceAdd] <;> rfl)) ⟨_, rfl, (up_m rfl hb_49)⟩ rfl ?_
   refine al_ro' (ro_fld_ptr y87_fl36_0 rfl (u16 rfl s13_40)) ⟨_, rfl, (u2 rfl hb_49)⟩ rfl ?_
   refine al_ro' (ro_eq (ro_ld_ptr y87_ty3 rfl mon_31_1_39 up_h (nle rfl)) (by simp only [pS, Value.cells, Nat.reduceAdd] <;> rfl)) ⟨_, rfl, (up_m rfl (u2 rfl hb_49))⟩ rfl ?_
   (refine al_ro' (ro_neg' up_h ?_) ⟨_, rfl, (u4 rfl hb_49)⟩ rfl ?_; · (unfold In64; omega))
   refine al_ro' (ro_neq (up_m rfl (u2 rfl up_h)) up_h) ⟨_, rfl, (up_m rfl (u4 rfl hb_49))⟩ rfl ?_
   refine ar (ro_pickF (u2 rfl (u4 rfl hb_49)) up_h) rfl <| ae5 (up_m rfl (u4 rfl (u16 rfl s1_40))) (up_m rfl (u4 rfl (u16 rfl s2_40))) (up_m rfl (u4 rfl (u16 rfl s5_40))) (up_m rfl (u4 rfl (u16 rfl s10_40))) up_h ?_; clear hb_41 hb_45 hb_49 s10_40 s11_40 s12_40 s13_40 s14_40 s1_40 s2_40 s5_40; intro e_53 s1_53 s2_53 s5_53 s10_53 s112_53
   refine then_n <| aw_case s112_53 (fun hq_54 => ?_) (fun hq_54 => ?_)
   ·replace hq_54 := bnt hq_54; exfalso; omega
   replace hq_54 := bnf hq_54
   refine aw_skip <| block_n <| then_n <| at_ <| ar (ro_move s10_53) rfl ?_
   (refine ar (ro_add' up_h ev_c ?_) rfl ?_; · (unfold In64; omega))
   refine ar (ro_assign up_h) rfl <| ae4 (up_m rfl (u2 rfl s1_53)) (up_m rfl (u2 rfl s2_53)) (up_m rfl (u2 rfl s5_53)) up_h ?_; clear s10_53 s112_53 s1_53 s2_53 s5_53; intro e_56 s1_56 s2_56 s5_56 s10_56
   refine then_n <| ⟨_, ⟨s10_56, (s1_56.trans s1_30.symm), (s2_56.trans s2_30.symm), (s5_56.trans s5_30.symm), (mo2_39.trans mo2_21.symm), (mo1_39.trans mo1_21.symm), (mo0_39.trans mo0_21.symm), ⟨_, ml_39, by omega⟩, ?_⟩, ?_⟩
   ·(exact ⟨by omega, by omega⟩)
   ·((try dsimp only); omega)
  replace hq_33 := bf hq_33
  refine aw_exit <| then_x <| then_x <| block_hit <| then_n <| aw_seq <| aw_seq <| at_ <| ar (ro_move s1_32) rfl <| ar (ro_call (evL_cons up_h evL_nil) rfl ((rSideErr_ok sd).mono (fun q h => show q = mA 0 from h.trans (by rw [hs]))) y87_hcf13) rfl ?_
  refine ar (ro_neq up_h ev_c) rfl <| ae4 (up_m rfl (u2 rfl s1_32)) (up_m rfl (u2 rfl s2_32)) (up_m rfl (u2 rfl s5_32)) up_h ?_; clear s10_32 s1_32 s2_32 s5_32 s70_32; intro e_57 s1_57 s2_57 s5_57 s115_57
  refine then_n <| aw_case s115_57 (fun hq_58 => ?_) (fun hq_58 => ?_)
  ·cases hq_58
  replace hq_58 := bnf hq_58
  refine aw_skip <| then_n <| aw_seq <| at_ <| ar (ro_eq (ro_ld_ptr y87_ty26 rfl mo0_31 s2_57 (nle rfl)) (by simp only [pS, Value.cells, Nat.reduceAdd] <;> rfl)) rfl ?_
  refine ar (ro_call (evL_cons up_h evL_nil) rfl (yCopy_ok l hl) y87_hcf8) rfl <| ar (ro_move (u2 rfl s1_57)) rfl <| ar (ro_call (evL_cons (up_m rfl up_h) (evL_cons up_h evL_nil)) rfl ((limitsOf_good l hl hg sd hs).mono (fun q h => show q = .tuple [.row 1 (A.map iE), mA 0] from h.trans (by rw [hA]))) y87_hcf14) rfl ?_
  refine ar (ro_move up_h) rfl <| ar (ro_extract up_h rfl) rfl <| ar (ro_extract (up_m rfl up_h) rfl) rfl <| ar (ro_assign (up_m rfl up_h)) rfl <| ar (ro_assign (up_m rfl up_h)) rfl <| ae4 (up_m rfl (u8 rfl s1_57)) (up_m rfl (u8 rfl s5_57)) (up_m rfl up_h) up_h ?_; clear s115_57 s1_57 s2_57 s5_57; intro e_60 s1_60 s5_60 s15_60 s16_60
  refine then_n <| aw_seq <| at_ <| ar (ro_eq (ro_ld_ptr y87_ty26 rfl mo1_31 s5_60 (nle rfl)) (by simp only [pS, Value.cells, Nat.reduceAdd] <;> rfl)) rfl ?_
  refine ar (ro_call (evL_cons up_h evL_nil) rfl (yCopy_ok (revL l) hml) y87_hcf8) rfl <| ar (ro_move (u2 rfl s1_60)) rfl <| ar (ro_call (evL_cons (up_m rfl up_h) (evL_cons up_h evL_nil)) rfl ((limitsOf_good (revL l) hml hmg sd hs).mono (fun q h => show q = .tuple [.row 1 (B.map iE), mA 0] from h.trans (by rw [hB, revL_js]))) y87_hcf14) rfl ?_
  refine ar (ro_move up_h) rfl <| ar (ro_extract up_h rfl) rfl <| ar (ro_extract (up_m rfl up_h) rfl) rfl <| ar (ro_assign (up_m rfl up_h)) rfl <| ar (ro_assign (up_m rfl up_h)) rfl <| ae4 (up_m rfl (u8 rfl s15_60)) (up_m rfl (u8 rfl s16_60)) (up_m rfl up_h) up_h ?_; clear s15_60 s16_60 s1_60 s5_60; intro e_61 s15_61 s16_61 s17_61 s18_61
  refine then_n <| aw_seq <| aw_seq <| at_ <| ar (ro_move s16_61) rfl <| ar (ro_neq up_h ev_c) rfl <| ar (ro_move up_h) rfl <| al_case up_h (fun hb_62 hq_62 => ?_) (fun hb_62 hq_62 => ?_)
  ·cases hq_62
  replace hq_62 := bnf hq_62
  refine al_ro' (ro_move (up_m rfl (u2 rfl s18_61))) ⟨_, rfl, hb_62⟩ rfl ?_
  refine al_ro' (ro_neq up_h ev_c) ⟨_, rfl, (up_m rfl hb_62)⟩ rfl ?_
  refine ar (ro_pickF (u2 rfl hb_62) up_h) rfl <| ar (ro_move up_h) rfl <| al_case up_h (fun hb_66 hq_66 => ?_) (fun hb_66 hq_66 => ?_)
  ·cases hq_66
  replace hq_66 := bnf hq_66
  refine al_ro' (ro_move (up_m rfl (u2 rfl (u4 rfl s15_61)))) ⟨_, rfl, hb_66⟩ rfl ?_
  refine al_ro' (ro_eq (ro_len_row up_h rfl y87_sl40.1) (by simp only [lnS] <;> rfl)) ⟨_, rfl, (up_m rfl hb_66)⟩ rfl ?_
  refine al_ro' (ro_move (up_m rfl (u8 rfl s17_61))) ⟨_, rfl, (u2 rfl hb_66)⟩ rfl ?_
  refine al_ro' (ro_eq (ro_len_row up_h rfl y87_sl40.1) (by simp only [lnS] <;> rfl)) ⟨_, rfl, (up_m rfl (u2 rfl hb_66))⟩ rfl ?_
  refine al_ro' (ro_neq (u2 rfl up_h) up_h) ⟨_, rfl, (u4 rfl hb_66)⟩ rfl ?_
  refine ar (ro_pickF (up_m rfl (u4 rfl hb_66)) up_h) rfl <| ae3 (up_m rfl (u4 rfl (u8 rfl s15_61))) (up_m rfl (u4 rfl (u8 rfl s17_61))) up_h ?_; clear hb_62 hb_66 s15_61 s16_61 s17_61 s18_61; intro e_70 s15_70 s17_70 s142_70
  refine then_n <| aw_case s142_70 (fun hq_71 => ?_) (fun hq_71 => ?_)
  ·replace hq_71 := bnt hq_71; exfalso; omega
  replace hq_71 := bnf hq_71
  refine aw_skip <| then_n <| aw_seq <| aw_seq <| at_ <| ar (ro_assign ev_c) rfl <| ae3 (up_m rfl s15_70) (up_m rfl s17_70) up_h ?_; clear s142_70 s15_70 s17_70; intro e_73 s15_73 s17_73 s19_73
  refine then_n <| aw_block <| aw_loop (S := Int) (fun k e mem => (evA e (.tmp 19) = .v (.int .i64 k)) ∧ (evA e (.tmp 15) = evA e_73 (.tmp 15)) ∧ (evA e (.tmp 17) = evA e_73 (.tmp 17)) ∧ (mem[2]? = m_31[2]?) ∧ (mem[1]? = m_31[1]?) ∧ (mem[0]? = m_31[0]?) ∧ (mem.length = n_31) ∧ ((0 ≤ k ∧ k ≤ A.length))) (fun k => (A.length - k).toNat) _ ⟨s19_73, rfl, rfl, rfl, rfl, rfl, ml_31, ?_⟩ ?_
  ·(exact ⟨by omega, by omega⟩)
  ·rintro k e_74 m_74 ⟨s19_74, k15_74, k17_74, mk2_74, mk1_74, mk0_74, ml_74, hinv⟩
   have s15_74 := k15_74.trans s15_73
   have s17_74 := k17_74.trans s17_73
   have mo2_74 := mk2_74.trans mo2_31
   have mo1_74 := mk1_74.trans mo1_31
   have mo0_74 := mk0_74.trans mo0_31
   (obtain ⟨k1, k2⟩ := hinv)
   refine aw_seq <| aw_seq <| at_ <| ar (ro_move s19_74) rfl <| ar (ro_move (up_m rfl s15_74)) rfl <| ar (ro_eq (ro_len_row up_h rfl y87_sl40.1) (by simp only [lnS] <;> rfl)) rfl ?_
   refine ar (ro_lss (u2 rfl up_h) up_h) rfl <| ae4 (u4 rfl s15_74) (u4 rfl s17_74) (u4 rfl s19_74) up_h ?_; clear s15_74 s17_74 s19_74; intro e_75 s15_75 s17_75 s19_75 s146_75
   refine then_n <| aw_case s146_75 (fun hq_76 => ?_) (fun hq_76 => ?_)
   ·replace hq_76 := bt hq_76
    refine aw_skip <| then_n <| aw_seq <| aw_block <| aw_seq ?_
    have hlm : B.getD ((B.length : Int) - 1 - k).toNat default = A.getD k.toNat default := (by rw [show ((B.length : Int) - 1 - k).toNat = l.js.length - 2 - 1 - k.toNat by omega, hA, hB]; exact limL_rev hr (by omega))
    refine aw_draw 13 (by kernel_rfl) (by kernel_rfl) (by kernel_rfl) (by kernel_rfl) ?_
    refine dr (ro_move s15_75) rfl <| dr (ro_move (up_m rfl s19_75)) rfl <| dr (ro_eq (ro_ix y87_sl40 (up_m rfl up_h) up_h (by omega) (by first | (refine idx_map ?_; first | omega | (simp only [lnS]; omega)) | (refine idx_mapI ?_; first | omega | (simp only [lnS]; omega)) | (refine idx_mapN ?_; first | omega | (simp only [lnS]; omega)) | rfl)) (by simp only [pS, Value.cells, Nat.reduceAdd] <;> rfl)) rfl ?_
    refine dr (ro_eq (ro_ld_ref y87_ty3 rfl up_h (nle rfl)) (by simp only [pS, Value.cells, Nat.reduceAdd] <;> rfl)) rfl ?_
    refine dr (ro_move (u4 rfl s17_75)) rfl <| dr (ro_move (up_m rfl (u4 rfl s17_75))) rfl <| dr (ro_eq (ro_len_row up_h rfl y87_sl40.1) (by simp only [lnS] <;> rfl)) rfl ?_
    (refine dr (ro_sub' up_h ev_c ?_) rfl ?_; · (unfold In64; omega))
    refine dr (ro_move (u8 rfl s19_75)) rfl ?_
    (refine dr (ro_sub' (up_m rfl up_h) up_h ?_) rfl ?_; · (unfold In64; omega))
    refine dr (ro_eq (ro_ix y87_sl40 (up_m rfl (u4 rfl up_h)) up_h (by omega) (by first | (refine idx_map ?_; first | omega | (simp only [lnS]; omega)) | (refine idx_mapI ?_; first | omega | (simp only [lnS]; omega)) | (refine idx_mapN ?_; first | omega | (simp only [lnS]; omega)) | rfl)) (by simp only [pS, Value.cells, Nat.reduceAdd] <;> rfl)) rfl ?_
    refine dr (ro_eq (ro_ld_ref y87_ty3 rfl up_h (nle rfl)) (by simp only [pS, Value.cells, Nat.reduceAdd] <;> rfl)) rfl ?_
    refine dr (ro_neq (u8 rfl up_h) up_h) rfl <| ds_nil <| ae4 (up_m rfl (u4 rfl (u8 rfl s15_75))) (up_m rfl (u4 rfl (u8 rfl s17_75))) (up_m rfl (u4 rfl (u8 rfl s19_75))) up_h ?_; clear s146_75 s15_75 s17_75 s19_75; intro e_77 s15_77 s17_77 s19_77 s161_77
    refine then_n <| aw_case s161_77 (fun hq_78 => ?_) (fun hq_78 => ?_)
    ·replace hq_78 := bnt hq_78; exfalso; omega
    replace hq_78 := bnf hq_78
    refine aw_skip <| block_n <| then_n <| at_ <| ar (ro_move s19_77) rfl ?_
    (refine ar (ro_add' up_h ev_c ?_) rfl ?_; · (unfold In64; omega))
    refine ar (ro_assign up_h) rfl <| ae3 (up_m rfl (u2 rfl s15_77)) (up_m rfl (u2 rfl s17_77)) up_h ?_; clear s15_77 s161_77 s17_77 s19_77; intro e_80 s15_80 s17_80 s19_80
    refine then_n <| ⟨_, ⟨s19_80, (s15_80.trans s15_73.symm), (s17_80.trans s17_73.symm), (mo2_74.trans mo2_31.symm), (mo1_74.trans mo1_31.symm), (mo0_74.trans mo0_31.symm), ml_74, ?_⟩, ?_⟩
    ·(exact ⟨by omega, by omega⟩)
    ·((try dsimp only); omega)
   replace hq_76 := bf hq_76
   refine aw_exit <| then_x <| then_x <| block_hit <| then_n <| aw_seq <| at_ <| ar (ro_assign ev_c) rfl <| ae1 up_h ?_; clear s146_75 s15_75 s17_75 s19_75; intro e_81 s4_81
   refine then_n <| aw_ret <| ret1 (.inr rfl) (by kernel_rfl) (resV_tmp s4_81) (.ro _ rfl) ?_
   clear s4_81 mo2_74 mo1_74 mo0_74 ml_74
   first | rfl | (simp_all; done) | omega
theorem lineTurned_ok (l : Lin) (sd : Int) : FnOk Try.prog 3 [lnA l, mA sd] (fun q => q = tbA true) := by
 cases hf : fewL l with
 | false => exact lineTurned_many l hf sd
 | true =>
  by_cases hg : (linM l).2 = 0
  ·by_cases hs : sidE sd = 0
   ·exact lineTurned_in l hf hg sd hs _ _ rfl rfl
   ·exact lineTurned_side l hf hg sd hs
  ·exact lineTurned_bad l hf hg sd
end Go.Proofs.Ytjhcfpdgldpicaa
