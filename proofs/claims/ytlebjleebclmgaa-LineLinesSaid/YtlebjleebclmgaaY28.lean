/- The law of chapter 1 on lines. No conditions on a program. -/
import Derived.Test.YtlebjleebclmgaaM7
namespace Go.Proofs.Ytlebjleebclmgaa
open Go Go.RowKit Go.Proofs
set_option linter.unusedSimpArgs false
set_option linter.unusedVariables false
theorem y28_az30 : (Try.prog.info? 30).bind (·.zero) = some (.agg #[.int .i64 0, .int .i64 0]) := by kernel_rfl
theorem y28_hcf10 : ∀ args w, (callFunc 10 args).run Try.prog w = .ok (.enter 10 args) w := fun _ _ => by kernel_rfl
theorem y28_hcf11 : ∀ args w, (callFunc 11 args).run Try.prog w = .ok (.enter 11 args) w := fun _ _ => by kernel_rfl
theorem y28_hcf12 : ∀ args w, (callFunc 12 args).run Try.prog w = .ok (.enter 12 args) w := fun _ _ => by kernel_rfl
theorem y28_hcf13 : ∀ args w, (callFunc 13 args).run Try.prog w = .ok (.enter 13 args) w := fun _ _ => by kernel_rfl
theorem y28_hcf14 : ∀ args w, (callFunc 14 args).run Try.prog w = .ok (.enter 14 args) w := fun _ _ => by kernel_rfl
theorem y28_hcf15 : ∀ args w, (callFunc 15 args).run Try.prog w = .ok (.enter 15 args) w := fun _ _ => by kernel_rfl
theorem y28_hcf6 : ∀ args w, (callFunc 6 args).run Try.prog w = .ok (.enter 6 args) w := fun _ _ => by kernel_rfl
theorem y28_hcf7 : ∀ args w, (callFunc 7 args).run Try.prog w = .ok (.enter 7 args) w := fun _ _ => by kernel_rfl
theorem y28_hcf8 : ∀ args w, (callFunc 8 args).run Try.prog w = .ok (.enter 8 args) w := fun _ _ => by kernel_rfl
theorem y28_hcf9 : ∀ args w, (callFunc 9 args).run Try.prog w = .ok (.enter 9 args) w := fun _ _ => by kernel_rfl
theorem y28_gq30 : Try.prog.eqGuardType Try.prog.depth 30 = false := by kernel_rfl
theorem y28_sq30 {a0 b0 : Int} {a1 b1 : Int} : EqV Try.prog 2 30 (.agg #[.int .i64 a0, .int .i64 a1]) (.agg #[.int .i64 b0, .int .i64 b1]) (decide (a0 = b0) && (decide (a1 = b1) && true)) := (eqs_struct [(3, 0), (3, 1)] (by kernel_rfl) (by kernel_rfl) (by kernel_rfl) (by kernel_rfl) (.cons (fun _ => by kernel_rfl) (fun _ => by kernel_rfl) (eqv_int (k := .i64) (k' := .i64) (by kernel_rfl) a0 b0) (.cons (fun _ => by kernel_rfl) (fun _ => by kernel_rfl) (eqv_int (k := .i64) (k' := .i64) (by kernel_rfl) a1 b1) .nil)))
theorem y28_sz30 : (Try.prog.info? 30).map (·.size) = some 2 := by kernel_rfl
theorem y28_ty26 : TyIs Try.prog 26 true 4 := ⟨by kernel_rfl, by kernel_rfl⟩
theorem y28_ty30 : TyIs Try.prog 30 true 2 := ⟨by kernel_rfl, by kernel_rfl⟩

set_option maxRecDepth 100000 in
set_option maxHeartbeats 4000000 in
theorem lineLines_many (l : Lin) (hf : fewL l = false) (j : Int) : FnOk Try.prog 3 [lnA l, mA j] (fun q => q = tbA true) := by
  refine fnOk_of (fn := Try.f3) 97 (by kernel_rfl) rfl (by kernel_rfl) (Nat.le_of_ble_eq_true rfl) ?_
  intro e_0 m_0 hA hm_0
  have s0_0 : evA e_0 (.tmp 0) = _ := hA 0 _ rfl
  have s1_0 : evA e_0 (.tmp 1) = _ := hA 1 _ rfl
  have ml_0 : m_0.length = 0 := by rw [hm_0]; rfl
  clear hA hm_0
  refine aw_seq ?_
  refine aw_text (by kernel_rfl) ?_
  refine al_stm (st_box s0_0 rfl ml_0) trivial rfl (fun m_1 hm_1 => ?_)
  have mo0_1 := m_push hm_1 ml_0
  (try simp only [packA_t, packA_f, iE, bE, setAt, cellsA, Value.cells, map_vc, map_vn, Nat.reduceAdd, qS] at mo0_1)
  have ml_1 := m_push_l hm_1 ml_0
  have ml_1 : _ = 1 := ml_1
  clear hm_1
  refine al_ro' (ro_assign ev_c) trivial rfl ?_
  refine al_end (fun e_2 he_2 => ?_)
  have s1_2 := ef 1 he_2 (u2 rfl s1_0)
  have s2_2 := ef 2 he_2 (up_m rfl up_h)
  clear he_2 s0_0 s1_0
  refine then_n ?_
  refine aw_seq ?_
  refine aw_seq ?_
  refine aw_text (by kernel_rfl) ?_
  refine al_ro' (ro_call evL_nil rfl (awake_ok) y28_hcf6) trivial rfl ?_
  refine al_ro' (ro_not up_h) trivial rfl ?_
  refine al_end (fun e_3 he_3 => ?_)
  have s1_3 := ef 1 he_3 (u2 rfl s1_2)
  have s2_3 := ef 2 he_3 (u2 rfl s2_2)
  have s14_3 := ef 14 he_3 up_h
  clear he_3 s1_2 s2_2
  refine then_n ?_
  refine aw_case s14_3 (fun hq_4 => ?_) (fun hq_4 => ?_)
  · (first | replace hq_4 := bnt hq_4 | replace hq_4 := bnf hq_4 | replace hq_4 := bt hq_4 | replace hq_4 := bf hq_4 | replace hq_4 := bt' hq_4 | replace hq_4 := bf' hq_4 | skip)
    first
    | (cases hq_4; done) | (exfalso; omega)
    | (
       refine aw_seq ?_
       refine aw_text (by kernel_rfl) ?_
       refine al_ro' (ro_assign ev_c) trivial rfl ?_
       refine al_end (fun e_5 he_5 => ?_)
       have s4_5 := ef 4 he_5 up_h
       clear he_5 s14_3 s1_3 s2_3
       refine then_n ?_
       refine aw_ret ?_
       refine then_r ?_
       refine ret1 (.inr rfl) (by kernel_rfl) (resV_tmp s4_5) (.ro _ rfl) ?_
       clear s4_5 mo0_1 ml_1
       rfl)
  · (first | replace hq_4 := bnt hq_4 | replace hq_4 := bnf hq_4 | replace hq_4 := bt hq_4 | replace hq_4 := bf hq_4 | replace hq_4 := bt' hq_4 | replace hq_4 := bf' hq_4 | skip)
    first
    | (cases hq_4; done) | (exfalso; omega)
    | (
       refine aw_skip ?_
       refine then_n ?_
       refine aw_seq ?_
       refine aw_seq ?_
       refine aw_text (by kernel_rfl) ?_
       refine al_ro' (ro_eq (ro_ld_ptr y28_ty26 rfl mo0_1 s2_3 (by first | exact Nat.le_of_ble_eq_true rfl | omega | (simp only [lnS] <;> omega) | (simp <;> omega))) (by first | (simp only [packA_t, packA_f, iE, bE, setAt, cellsA, Value.cells, map_vc, map_vn, Nat.reduceAdd, qS] <;> rfl) | rfl)) trivial rfl ?_
       refine al_ro' (ro_call (evL_cons up_h evL_nil) rfl ((fewL_ok l).mono (fun q h => h.trans (by rw [hf]))) y28_hcf7) trivial rfl ?_
       refine al_ro' (ro_not up_h) trivial rfl ?_
       refine al_end (fun e_6 he_6 => ?_)
       have s1_6 := ef 1 he_6 (up_m rfl (u2 rfl s1_3))
       have s2_6 := ef 2 he_6 (up_m rfl (u2 rfl s2_3))
       have s17_6 := ef 17 he_6 up_h
       clear he_6 s14_3 s1_3 s2_3
       refine then_n ?_
       refine aw_case s17_6 (fun hq_7 => ?_) (fun hq_7 => ?_)
       · (first | replace hq_7 := bnt hq_7 | replace hq_7 := bnf hq_7 | replace hq_7 := bt hq_7 | replace hq_7 := bf hq_7 | replace hq_7 := bt' hq_7 | replace hq_7 := bf' hq_7 | skip)
         first
         | (cases hq_7; done) | (exfalso; omega)
         | (
            refine aw_seq ?_
            refine aw_text (by kernel_rfl) ?_
            refine al_ro' (ro_assign ev_c) trivial rfl ?_
            refine al_end (fun e_8 he_8 => ?_)
            have s4_8 := ef 4 he_8 up_h
            clear he_8 s17_6 s1_6 s2_6
            refine then_n ?_
            refine aw_ret ?_
            refine then_r ?_
            refine ret1 (.inr rfl) (by kernel_rfl) (resV_tmp s4_8) (.ro _ rfl) ?_
            clear s4_8 mo0_1 ml_1
            rfl)
       · (first | replace hq_7 := bnt hq_7 | replace hq_7 := bnf hq_7 | replace hq_7 := bt hq_7 | replace hq_7 := bf hq_7 | replace hq_7 := bt' hq_7 | replace hq_7 := bf' hq_7 | skip)
         first
         | (cases hq_7; done) | (exfalso; omega)
         | (
            refine aw_skip ?_
            refine then_n ?_
            refine aw_seq ?_
            refine aw_text (by kernel_rfl) ?_
            refine al_ro' (ro_eq (ro_ld_ptr y28_ty26 rfl mo0_1 s2_6 (by first | exact Nat.le_of_ble_eq_true rfl | omega | (simp only [lnS] <;> omega) | (simp <;> omega))) (by first | (simp only [packA_t, packA_f, iE, bE, setAt, cellsA, Value.cells, map_vc, map_vn, Nat.reduceAdd, qS] <;> rfl) | rfl)) trivial rfl ?_
            refine al_ro' (ro_call (evL_cons up_h evL_nil) rfl (yCopy_ok l hf) y28_hcf9) trivial rfl ?_
            refine al_ro' (ro_call (evL_cons up_h evL_nil) rfl (yCheckLine_ok l hf) y28_hcf8) trivial rfl ?_
            refine al_ro' (ro_move up_h) trivial rfl ?_
            refine al_ro' (ro_extract up_h rfl) trivial rfl ?_
            refine al_ro' (ro_extract (up_m rfl up_h) rfl) trivial rfl ?_
            refine al_stm (st_alloc y28_az30 rfl ml_1) trivial rfl (fun m_9 hm_9 => ?_)
            have mo1_9 := m_push hm_9 ml_1
            (try simp only [packA_t, packA_f, iE, bE, setAt, cellsA, Value.cells, map_vc, map_vn, Nat.reduceAdd, qS] at mo1_9)
            have mo0_9 := m_push_o hm_9 mo0_1
            have ml_9 := m_push_l hm_9 ml_1
            have ml_9 : _ = 2 := ml_9
            clear hm_9 mo0_1
            refine al_stm (st_store up_h (u2 rfl up_h) rfl rfl mo1_9 y28_sz30 rfl (by first | exact Nat.le_of_ble_eq_true rfl | omega | (simp only [lnS] <;> omega) | (simp <;> omega))) trivial rfl (fun m_10 hm_10 => ?_)
            have mo1_10 := m_set hm_10 mo1_9
            (try simp only [packA_t, packA_f, iE, bE, setAt, cellsA, Value.cells, map_vc, map_vn, Nat.reduceAdd, qS] at mo1_10)
            have mo0_10 := m_set_o hm_10 mo0_9 (by decide)
            have ml_10 := m_set_l hm_10 ml_9
            clear hm_10 mo1_9 mo0_9
            refine al_ro' (ro_assign (up_n (up_m rfl up_h))) trivial rfl ?_
            refine al_end (fun e_11 he_11 => ?_)
            have s1_11 := ef 1 he_11 (up_m rfl (up_n (up_m rfl (u2 rfl (u4 rfl s1_6)))))
            have s2_11 := ef 2 he_11 (up_m rfl (up_n (up_m rfl (u2 rfl (u4 rfl s2_6)))))
            have s5_11 := ef 5 he_11 (up_m rfl (up_n up_h))
            have s6_11 := ef 6 he_11 up_h
            clear he_11 s17_6 s1_6 s2_6
            refine then_n ?_
            refine aw_seq ?_
            refine aw_text (by kernel_rfl) ?_
            refine al_ro' (ro_eq (ro_ld_ptr y28_ty26 rfl mo0_10 s2_11 (by first | exact Nat.le_of_ble_eq_true rfl | omega | (simp only [lnS] <;> omega) | (simp <;> omega))) (by first | (simp only [packA_t, packA_f, iE, bE, setAt, cellsA, Value.cells, map_vc, map_vn, Nat.reduceAdd, qS] <;> rfl) | rfl)) trivial rfl ?_
            refine al_ro' (ro_call (evL_cons up_h evL_nil) rfl (yCopy_ok l hf) y28_hcf9) trivial rfl ?_
            refine al_ro' (ro_call (evL_cons up_h evL_nil) rfl (lengthOf_bad l hf hf) y28_hcf10) trivial rfl ?_
            refine al_ro' (ro_move up_h) trivial rfl ?_
            refine al_ro' (ro_extract up_h rfl) trivial rfl ?_
            refine al_ro' (ro_extract (up_m rfl up_h) rfl) trivial rfl ?_
            refine al_ro' (ro_assign (up_m rfl up_h)) trivial rfl ?_
            refine al_ro' (ro_assign (up_m rfl up_h)) trivial rfl ?_
            refine al_end (fun e_12 he_12 => ?_)
            have s1_12 := ef 1 he_12 (u8 rfl s1_11)
            have s2_12 := ef 2 he_12 (u8 rfl s2_11)
            have s5_12 := ef 5 he_12 (u8 rfl s5_11)
            have s6_12 := ef 6 he_12 (u8 rfl s6_11)
            have s7_12 := ef 7 he_12 (up_m rfl up_h)
            have s8_12 := ef 8 he_12 up_h
            clear he_12 s1_11 s2_11 s5_11 s6_11
            refine then_n ?_
            refine aw_seq ?_
            refine aw_text (by kernel_rfl) ?_
            refine al_ro' (ro_eq (ro_ld_ptr y28_ty26 rfl mo0_10 s2_12 (by first | exact Nat.le_of_ble_eq_true rfl | omega | (simp only [lnS] <;> omega) | (simp <;> omega))) (by first | (simp only [packA_t, packA_f, iE, bE, setAt, cellsA, Value.cells, map_vc, map_vn, Nat.reduceAdd, qS] <;> rfl) | rfl)) trivial rfl ?_
            refine al_ro' (ro_call (evL_cons up_h evL_nil) rfl (yCopy_ok l hf) y28_hcf9) trivial rfl ?_
            refine al_ro' (ro_move (u2 rfl s1_12)) trivial rfl ?_
            refine al_ro' (ro_call (evL_cons (up_m rfl up_h) (evL_cons up_h evL_nil)) rfl (placeOf_bad l hf hf j) y28_hcf11) trivial rfl ?_
            refine al_ro' (ro_move up_h) trivial rfl ?_
            refine al_ro' (ro_extract up_h rfl) trivial rfl ?_
            refine al_ro' (ro_extract (up_m rfl up_h) rfl) trivial rfl ?_
            refine al_ro' (ro_assign (up_m rfl up_h)) trivial rfl ?_
            refine al_ro' (ro_assign (up_m rfl up_h)) trivial rfl ?_
            refine al_end (fun e_13 he_13 => ?_)
            have s1_13 := ef 1 he_13 (up_m rfl (u8 rfl s1_12))
            have s2_13 := ef 2 he_13 (up_m rfl (u8 rfl s2_12))
            have s5_13 := ef 5 he_13 (up_m rfl (u8 rfl s5_12))
            have s6_13 := ef 6 he_13 (up_m rfl (u8 rfl s6_12))
            have s7_13 := ef 7 he_13 (up_m rfl (u8 rfl s7_12))
            have s8_13 := ef 8 he_13 (up_m rfl (u8 rfl s8_12))
            have s9_13 := ef 9 he_13 (up_m rfl up_h)
            have s10_13 := ef 10 he_13 up_h
            clear he_13 s1_12 s2_12 s5_12 s6_12 s7_12 s8_12
            refine then_n ?_
            refine aw_seq ?_
            refine aw_text (by kernel_rfl) ?_
            refine al_ro' (ro_eq (ro_ld_ptr y28_ty26 rfl mo0_10 s2_13 (by first | exact Nat.le_of_ble_eq_true rfl | omega | (simp only [lnS] <;> omega) | (simp <;> omega))) (by first | (simp only [packA_t, packA_f, iE, bE, setAt, cellsA, Value.cells, map_vc, map_vn, Nat.reduceAdd, qS] <;> rfl) | rfl)) trivial rfl ?_
            refine al_ro' (ro_call (evL_cons up_h evL_nil) rfl (rCheckLine_ok l hf) y28_hcf12) trivial rfl ?_
            refine al_ro' (ro_move up_h) trivial rfl ?_
            refine al_ro' (ro_extract up_h rfl) trivial rfl ?_
            refine al_ro' (ro_extract (up_m rfl up_h) rfl) trivial rfl ?_
            refine al_stm (st_alloc y28_az30 rfl ml_10) trivial rfl (fun m_14 hm_14 => ?_)
            have mo2_14 := m_push hm_14 ml_10
            (try simp only [packA_t, packA_f, iE, bE, setAt, cellsA, Value.cells, map_vc, map_vn, Nat.reduceAdd, qS] at mo2_14)
            have mo1_14 := m_push_o hm_14 mo1_10
            have mo0_14 := m_push_o hm_14 mo0_10
            have ml_14 := m_push_l hm_14 ml_10
            have ml_14 : _ = 3 := ml_14
            clear hm_14 mo1_10 mo0_10
            refine al_stm (st_store up_h (u2 rfl up_h) rfl rfl mo2_14 y28_sz30 rfl (by first | exact Nat.le_of_ble_eq_true rfl | omega | (simp only [lnS] <;> omega) | (simp <;> omega))) trivial rfl (fun m_15 hm_15 => ?_)
            have mo2_15 := m_set hm_15 mo2_14
            (try simp only [packA_t, packA_f, iE, bE, setAt, cellsA, Value.cells, map_vc, map_vn, Nat.reduceAdd, qS] at mo2_15)
            have mo1_15 := m_set_o hm_15 mo1_14 (by decide)
            have mo0_15 := m_set_o hm_15 mo0_14 (by decide)
            have ml_15 := m_set_l hm_15 ml_14
            clear hm_15 mo2_14 mo1_14 mo0_14
            refine al_ro' (ro_assign (up_n (up_m rfl up_h))) trivial rfl ?_
            refine al_end (fun e_16 he_16 => ?_)
            have s1_16 := ef 1 he_16 (up_m rfl (up_n (u2 rfl (u4 rfl s1_13))))
            have s2_16 := ef 2 he_16 (up_m rfl (up_n (u2 rfl (u4 rfl s2_13))))
            have s5_16 := ef 5 he_16 (up_m rfl (up_n (u2 rfl (u4 rfl s5_13))))
            have s6_16 := ef 6 he_16 (up_m rfl (up_n (u2 rfl (u4 rfl s6_13))))
            have s7_16 := ef 7 he_16 (up_m rfl (up_n (u2 rfl (u4 rfl s7_13))))
            have s8_16 := ef 8 he_16 (up_m rfl (up_n (u2 rfl (u4 rfl s8_13))))
            have s9_16 := ef 9 he_16 (up_m rfl (up_n (u2 rfl (u4 rfl s9_13))))
            have s10_16 := ef 10 he_16 (up_m rfl (up_n (u2 rfl (u4 rfl s10_13))))
            have s11_16 := ef 11 he_16 (up_m rfl (up_n up_h))
            have s12_16 := ef 12 he_16 up_h
            clear he_16 s10_13 s1_13 s2_13 s5_13 s6_13 s7_13 s8_13 s9_13
            refine then_n ?_
            refine aw_seq ?_
            refine aw_seq ?_
            refine aw_text (by kernel_rfl) ?_
            refine al_ro' (ro_move s6_16) trivial rfl ?_
            refine al_ro' (ro_move (up_m rfl s12_16)) trivial rfl ?_
            refine al_ro' (ro_neq (up_m rfl up_h) up_h) trivial rfl ?_
            refine al_ro' (ro_move up_h) trivial rfl ?_
            refine al_case up_h (fun hb_17 hq_17 => ?_) (fun hb_17 hq_17 => ?_)
            · (first | replace hq_17 := bnt hq_17 | replace hq_17 := bnf hq_17 | replace hq_17 := bt hq_17 | replace hq_17 := bf hq_17 | replace hq_17 := bt' hq_17 | replace hq_17 := bf' hq_17 | skip)
              first
              | (cases hq_17; done) | (exfalso; omega)
              | (
                 refine al_skip' ⟨_, rfl, .inl hb_17⟩ rfl ?_
                 refine al_skip' ⟨_, rfl, .inl (up_m rfl hb_17)⟩ rfl ?_
                 refine al_skip' ⟨_, rfl, .inl (u2 rfl hb_17)⟩ rfl ?_
                 refine al_ro' (ro_pickT (up_m rfl (u2 rfl hb_17)) ev_c) trivial rfl ?_
                 refine al_end (fun e_18 he_18 => ?_)
                 have s1_18 := ef 1 he_18 (u8 rfl s1_16)
                 have s2_18 := ef 2 he_18 (u8 rfl s2_16)
                 have s7_18 := ef 7 he_18 (u8 rfl s7_16)
                 have s8_18 := ef 8 he_18 (u8 rfl s8_16)
                 have s9_18 := ef 9 he_18 (u8 rfl s9_16)
                 have s10_18 := ef 10 he_18 (u8 rfl s10_16)
                 have s12_18 := ef 12 he_18 (u8 rfl s12_16)
                 have s49_18 := ef 49 he_18 up_h
                 clear he_18 hb_17 s10_16 s11_16 s12_16 s1_16 s2_16 s5_16 s6_16 s7_16 s8_16 s9_16
                 refine then_n ?_
                 refine aw_true s49_18 ?_
                 refine aw_seq ?_
                 refine aw_text (by kernel_rfl) ?_
                 refine al_ro' (ro_assign ev_c) trivial rfl ?_
                 refine al_end (fun e_20 he_20 => ?_)
                 have s4_20 := ef 4 he_20 up_h
                 clear he_20 s10_18 s12_18 s1_18 s2_18 s49_18 s7_18 s8_18 s9_18
                 refine then_n ?_
                 refine aw_ret ?_
                 refine then_r ?_
                 refine ret1 (.inr rfl) (by kernel_rfl) (resV_tmp s4_20) (.ro _ rfl) ?_
                 clear s4_20 mo2_15 mo1_15 mo0_15 ml_15
                 rfl)
            · (first | replace hq_17 := bnt hq_17 | replace hq_17 := bnf hq_17 | replace hq_17 := bt hq_17 | replace hq_17 := bf hq_17 | replace hq_17 := bt' hq_17 | replace hq_17 := bf' hq_17 | skip)
              first
              | (cases hq_17; done) | (exfalso; omega)
              | (
                 refine al_ro' (ro_eq (ro_ld_ptr y28_ty30 rfl mo1_15 (u4 rfl s5_16) (by first | exact Nat.le_of_ble_eq_true rfl | omega | (simp only [lnS] <;> omega) | (simp <;> omega))) (by first | (simp only [packA_t, packA_f, iE, bE, setAt, cellsA, Value.cells, map_vc, map_vn, Nat.reduceAdd, qS] <;> rfl) | rfl)) ⟨_, rfl, hb_17⟩ rfl ?_
                 refine al_ro' (ro_eq (ro_ld_ptr y28_ty30 rfl mo2_15 (up_m rfl (u4 rfl s11_16)) (by first | exact Nat.le_of_ble_eq_true rfl | omega | (simp only [lnS] <;> omega) | (simp <;> omega))) (by first | (simp only [packA_t, packA_f, iE, bE, setAt, cellsA, Value.cells, map_vc, map_vn, Nat.reduceAdd, qS] <;> rfl) | rfl)) ⟨_, rfl, (up_m rfl hb_17)⟩ rfl ?_
                 refine al_ro' (ro_sqneq (up_m rfl up_h) up_h rfl rfl y28_gq30 y28_sq30 (by decide)) ⟨_, rfl, (u2 rfl hb_17)⟩ rfl ?_
                 refine al_ro' (ro_pickF (up_m rfl (u2 rfl hb_17)) up_h) trivial rfl ?_
                 refine al_end (fun e_21 he_21 => ?_)
                 have s1_21 := ef 1 he_21 (u8 rfl s1_16)
                 have s2_21 := ef 2 he_21 (u8 rfl s2_16)
                 have s7_21 := ef 7 he_21 (u8 rfl s7_16)
                 have s8_21 := ef 8 he_21 (u8 rfl s8_16)
                 have s9_21 := ef 9 he_21 (u8 rfl s9_16)
                 have s10_21 := ef 10 he_21 (u8 rfl s10_16)
                 have s12_21 := ef 12 he_21 (u8 rfl s12_16)
                 have s49_21 := ef 49 he_21 up_h
                 clear he_21 hb_17 s10_16 s11_16 s12_16 s1_16 s2_16 s5_16 s6_16 s7_16 s8_16 s9_16
                 refine then_n ?_
                 refine aw_case s49_21 (fun hq_22 => ?_) (fun hq_22 => ?_)
                 · (first | replace hq_22 := bnt hq_22 | replace hq_22 := bnf hq_22 | replace hq_22 := bt hq_22 | replace hq_22 := bf hq_22 | replace hq_22 := bt' hq_22 | replace hq_22 := bf' hq_22 | skip)
                   first
                   | (cases hq_22; done) | (exfalso; omega)
                   | (
                      refine aw_seq ?_
                      refine aw_text (by kernel_rfl) ?_
                      refine al_ro' (ro_assign ev_c) trivial rfl ?_
                      refine al_end (fun e_23 he_23 => ?_)
                      have s4_23 := ef 4 he_23 up_h
                      clear he_23 s10_21 s12_21 s1_21 s2_21 s49_21 s7_21 s8_21 s9_21
                      refine then_n ?_
                      refine aw_ret ?_
                      refine then_r ?_
                      refine ret1 (.inr rfl) (by kernel_rfl) (resV_tmp s4_23) (.ro _ rfl) ?_
                      clear s4_23 mo2_15 mo1_15 mo0_15 ml_15
                      rfl)
                 · (first | replace hq_22 := bnt hq_22 | replace hq_22 := bnf hq_22 | replace hq_22 := bt hq_22 | replace hq_22 := bf hq_22 | replace hq_22 := bt' hq_22 | replace hq_22 := bf' hq_22 | skip)
                   first
                   | (cases hq_22; done) | (exfalso; omega)
                   | (
                      refine aw_skip ?_
                      refine then_n ?_
                      refine aw_seq ?_
                      refine aw_seq ?_
                      refine aw_text (by kernel_rfl) ?_
                      refine al_ro' (ro_move s12_21) trivial rfl ?_
                      refine al_ro' (ro_neq up_h ev_c) trivial rfl ?_
                      refine al_end (fun e_24 he_24 => ?_)
                      have s1_24 := ef 1 he_24 (u2 rfl s1_21)
                      have s2_24 := ef 2 he_24 (u2 rfl s2_21)
                      have s7_24 := ef 7 he_24 (u2 rfl s7_21)
                      have s8_24 := ef 8 he_24 (u2 rfl s8_21)
                      have s9_24 := ef 9 he_24 (u2 rfl s9_21)
                      have s10_24 := ef 10 he_24 (u2 rfl s10_21)
                      have s12_24 := ef 12 he_24 (u2 rfl s12_21)
                      have s51_24 := ef 51 he_24 up_h
                      clear he_24 s10_21 s12_21 s1_21 s2_21 s49_21 s7_21 s8_21 s9_21
                      refine then_n ?_
                      refine aw_case s51_24 (fun hq_25 => ?_) (fun hq_25 => ?_)
                      · (first | replace hq_25 := bnt hq_25 | replace hq_25 := bnf hq_25 | replace hq_25 := bt hq_25 | replace hq_25 := bf hq_25 | replace hq_25 := bt' hq_25 | replace hq_25 := bf' hq_25 | skip)
                        first
                        | (cases hq_25; done) | (exfalso; omega)
                        | (
                           refine aw_seq ?_
                           refine aw_text (by kernel_rfl) ?_
                           refine al_ro' (ro_move s8_24) trivial rfl ?_
                           refine al_ro' (ro_move (up_m rfl s12_24)) trivial rfl ?_
                           refine al_ro' (ro_eql (up_m rfl up_h) up_h) trivial rfl ?_
                           refine al_ro' (ro_move up_h) trivial rfl ?_
                           refine al_case up_h (fun hb_26 hq_26 => ?_) (fun hb_26 hq_26 => ?_)
                           · (first | replace hq_26 := bnt hq_26 | replace hq_26 := bnf hq_26 | replace hq_26 := bt hq_26 | replace hq_26 := bf hq_26 | replace hq_26 := bt' hq_26 | replace hq_26 := bf' hq_26 | skip)
                             first
                             | (cases hq_26; done) | (exfalso; omega)
                             | (
                                refine al_ro' (ro_move (u4 rfl s10_24)) ⟨_, rfl, hb_26⟩ rfl ?_
                                refine al_ro' (ro_move (up_m rfl (u4 rfl s12_24))) ⟨_, rfl, (up_m rfl hb_26)⟩ rfl ?_
                                refine al_ro' (ro_eql (up_m rfl up_h) up_h) ⟨_, rfl, (u2 rfl hb_26)⟩ rfl ?_
                                refine al_ro' (ro_pickT (up_m rfl (u2 rfl hb_26)) up_h) trivial rfl ?_
                                refine al_ro' (ro_move up_h) trivial rfl ?_
                                refine al_case up_h (fun hb_27 hq_27 => ?_) (fun hb_27 hq_27 => ?_)
                                · (first | replace hq_27 := bnt hq_27 | replace hq_27 := bnf hq_27 | replace hq_27 := bt hq_27 | replace hq_27 := bf hq_27 | replace hq_27 := bt' hq_27 | replace hq_27 := bf' hq_27 | skip)
                                  first
                                  | (cases hq_27; done) | (exfalso; omega)
                                  | (
                                     refine al_ro' (ro_move (up_m rfl (u8 rfl s7_24))) ⟨_, rfl, hb_27⟩ rfl ?_
                                     refine al_ro' (ro_eql up_h ev_c) ⟨_, rfl, (up_m rfl hb_27)⟩ rfl ?_
                                     refine al_ro' (ro_pickT (u2 rfl hb_27) up_h) trivial rfl ?_
                                     refine al_ro' (ro_move up_h) trivial rfl ?_
                                     refine al_case up_h (fun hb_28 hq_28 => ?_) (fun hb_28 hq_28 => ?_)
                                     · (first | replace hq_28 := bnt hq_28 | replace hq_28 := bnf hq_28 | replace hq_28 := bt hq_28 | replace hq_28 := bf hq_28 | replace hq_28 := bt' hq_28 | replace hq_28 := bf' hq_28 | skip)
                                       first
                                       | (cases hq_28; done) | (exfalso; omega)
                                       | (
                                          refine al_ro' (ro_move (up_m rfl (u4 rfl (u8 rfl s9_24)))) ⟨_, rfl, hb_28⟩ rfl ?_
                                          refine al_ro' (ro_eql up_h ev_c) ⟨_, rfl, (up_m rfl hb_28)⟩ rfl ?_
                                          refine al_ro' (ro_pickT (u2 rfl hb_28) up_h) trivial rfl ?_
                                          refine al_ro' (ro_assign up_h) trivial rfl ?_
                                          refine al_end (fun e_29 he_29 => ?_)
                                          have s4_29 := ef 4 he_29 up_h
                                          clear he_29 hb_26 hb_27 hb_28 s10_24 s12_24 s1_24 s2_24 s51_24 s7_24 s8_24 s9_24
                                          refine then_n ?_
                                          refine aw_ret ?_
                                          refine then_r ?_
                                          refine ret1 (.inr rfl) (by kernel_rfl) (resV_tmp s4_29) (.ro _ rfl) ?_
                                          clear s4_29 mo2_15 mo1_15 mo0_15 ml_15
                                          rfl)
                                     · (first | replace hq_28 := bnt hq_28 | replace hq_28 := bnf hq_28 | replace hq_28 := bt hq_28 | replace hq_28 := bf hq_28 | replace hq_28 := bt' hq_28 | replace hq_28 := bf' hq_28 | skip)
                                       first
                                       | (cases hq_28; done) | (exfalso; omega)
                                       | (
                                          refine al_skip' ⟨_, rfl, .inl hb_28⟩ rfl ?_
                                          refine al_skip' ⟨_, rfl, .inl (up_m rfl hb_28)⟩ rfl ?_
                                          refine al_ro' (ro_pickF (u2 rfl hb_28) ev_c) trivial rfl ?_
                                          refine al_ro' (ro_assign up_h) trivial rfl ?_
                                          refine al_end (fun e_30 he_30 => ?_)
                                          have s4_30 := ef 4 he_30 up_h
                                          clear he_30 hb_26 hb_27 hb_28 s10_24 s12_24 s1_24 s2_24 s51_24 s7_24 s8_24 s9_24
                                          refine then_n ?_
                                          refine aw_ret ?_
                                          refine then_r ?_
                                          refine ret1 (.inr rfl) (by kernel_rfl) (resV_tmp s4_30) (.ro _ rfl) ?_
                                          clear s4_30 mo2_15 mo1_15 mo0_15 ml_15
                                          rfl))
                                · (first | replace hq_27 := bnt hq_27 | replace hq_27 := bnf hq_27 | replace hq_27 := bt hq_27 | replace hq_27 := bf hq_27 | replace hq_27 := bt' hq_27 | replace hq_27 := bf' hq_27 | skip)
                                  first
                                  | (cases hq_27; done) | (exfalso; omega)
                                  | (
                                     refine al_skip' ⟨_, rfl, .inl hb_27⟩ rfl ?_
                                     refine al_skip' ⟨_, rfl, .inl (up_m rfl hb_27)⟩ rfl ?_
                                     refine al_ro' (ro_pickF (u2 rfl hb_27) ev_c) trivial rfl ?_
                                     refine al_ro' (ro_move up_h) trivial rfl ?_
                                     refine al_skip' ⟨_, rfl, .inl up_h⟩ rfl ?_
                                     refine al_skip' ⟨_, rfl, .inl (up_m rfl up_h)⟩ rfl ?_
                                     refine al_ro' (ro_pickF (u2 rfl up_h) ev_c) trivial rfl ?_
                                     refine al_ro' (ro_assign up_h) trivial rfl ?_
                                     refine al_end (fun e_31 he_31 => ?_)
                                     have s4_31 := ef 4 he_31 up_h
                                     clear he_31 hb_26 hb_27 s10_24 s12_24 s1_24 s2_24 s51_24 s7_24 s8_24 s9_24
                                     refine then_n ?_
                                     refine aw_ret ?_
                                     refine then_r ?_
                                     refine ret1 (.inr rfl) (by kernel_rfl) (resV_tmp s4_31) (.ro _ rfl) ?_
                                     clear s4_31 mo2_15 mo1_15 mo0_15 ml_15
                                     rfl))
                           · (first | replace hq_26 := bnt hq_26 | replace hq_26 := bnf hq_26 | replace hq_26 := bt hq_26 | replace hq_26 := bf hq_26 | replace hq_26 := bt' hq_26 | replace hq_26 := bf' hq_26 | skip)
                             first
                             | (cases hq_26; done) | (exfalso; omega)
                             | (
                                refine al_skip' ⟨_, rfl, .inl hb_26⟩ rfl ?_
                                refine al_skip' ⟨_, rfl, .inl (up_m rfl hb_26)⟩ rfl ?_
                                refine al_skip' ⟨_, rfl, .inl (u2 rfl hb_26)⟩ rfl ?_
                                refine al_ro' (ro_pickF (up_m rfl (u2 rfl hb_26)) ev_c) trivial rfl ?_
                                refine al_ro' (ro_move up_h) trivial rfl ?_
                                refine al_skip' ⟨_, rfl, .inl up_h⟩ rfl ?_
                                refine al_skip' ⟨_, rfl, .inl (up_m rfl up_h)⟩ rfl ?_
                                refine al_ro' (ro_pickF (u2 rfl up_h) ev_c) trivial rfl ?_
                                refine al_ro' (ro_move up_h) trivial rfl ?_
                                refine al_skip' ⟨_, rfl, .inl up_h⟩ rfl ?_
                                refine al_skip' ⟨_, rfl, .inl (up_m rfl up_h)⟩ rfl ?_
                                refine al_ro' (ro_pickF (u2 rfl up_h) ev_c) trivial rfl ?_
                                refine al_ro' (ro_assign up_h) trivial rfl ?_
                                refine al_end (fun e_32 he_32 => ?_)
                                have s4_32 := ef 4 he_32 up_h
                                clear he_32 hb_26 s10_24 s12_24 s1_24 s2_24 s51_24 s7_24 s8_24 s9_24
                                refine then_n ?_
                                refine aw_ret ?_
                                refine then_r ?_
                                refine ret1 (.inr rfl) (by kernel_rfl) (resV_tmp s4_32) (.ro _ rfl) ?_
                                clear s4_32 mo2_15 mo1_15 mo0_15 ml_15
                                rfl))
                      · (first | replace hq_25 := bnt hq_25 | replace hq_25 := bnf hq_25 | replace hq_25 := bt hq_25 | replace hq_25 := bf hq_25 | replace hq_25 := bt' hq_25 | replace hq_25 := bf' hq_25 | skip)
                        first
                        | (cases hq_25; done) | (exfalso; omega)
                        | (
                           refine aw_skip ?_
                           refine then_n ?_
                           refine aw_seq ?_
                           refine aw_seq ?_
                           refine aw_text (by kernel_rfl) ?_
                           refine al_ro' (ro_move s8_24) trivial rfl ?_
                           refine al_ro' (ro_neq up_h ev_c) trivial rfl ?_
                           refine al_ro' (ro_move up_h) trivial rfl ?_
                           refine al_case up_h (fun hb_33 hq_33 => ?_) (fun hb_33 hq_33 => ?_)
                           · (first | replace hq_33 := bnt hq_33 | replace hq_33 := bnf hq_33 | replace hq_33 := bt hq_33 | replace hq_33 := bf hq_33 | replace hq_33 := bt' hq_33 | replace hq_33 := bf' hq_33 | skip)
                             first
                             | (cases hq_33; done) | (exfalso; omega)
                             | (
                                refine al_skip' ⟨_, rfl, .inl hb_33⟩ rfl ?_
                                refine al_skip' ⟨_, rfl, .inl (up_m rfl hb_33)⟩ rfl ?_
                                refine al_skip' ⟨_, rfl, .inl (u2 rfl hb_33)⟩ rfl ?_
                                refine al_skip' ⟨_, rfl, .inl (up_m rfl (u2 rfl hb_33))⟩ rfl ?_
                                refine al_ro' (ro_pickT (u4 rfl hb_33) ev_c) trivial rfl ?_
                                refine al_end (fun e_34 he_34 => ?_)
                                have s1_34 := ef 1 he_34 (u8 rfl s1_24)
                                have s2_34 := ef 2 he_34 (u8 rfl s2_24)
                                have s9_34 := ef 9 he_34 (u8 rfl s9_24)
                                have s10_34 := ef 10 he_34 (u8 rfl s10_24)
                                have s75_34 := ef 75 he_34 up_h
                                clear he_34 hb_33 s10_24 s12_24 s1_24 s2_24 s51_24 s7_24 s8_24 s9_24
                                refine then_n ?_
                                refine aw_true s75_34 ?_
                                refine aw_seq ?_
                                refine aw_text (by kernel_rfl) ?_
                                refine al_ro' (ro_assign ev_c) trivial rfl ?_
                                refine al_end (fun e_36 he_36 => ?_)
                                have s4_36 := ef 4 he_36 up_h
                                clear he_36 s10_34 s1_34 s2_34 s75_34 s9_34
                                refine then_n ?_
                                refine aw_ret ?_
                                refine then_r ?_
                                refine ret1 (.inr rfl) (by kernel_rfl) (resV_tmp s4_36) (.ro _ rfl) ?_
                                clear s4_36 mo2_15 mo1_15 mo0_15 ml_15
                                rfl)
                           · (first | replace hq_33 := bnt hq_33 | replace hq_33 := bnf hq_33 | replace hq_33 := bt hq_33 | replace hq_33 := bf hq_33 | replace hq_33 := bt' hq_33 | replace hq_33 := bf' hq_33 | skip)
                             first
                             | (cases hq_33; done) | (exfalso; omega)
                             | (
                                refine al_ro' (ro_move (up_m rfl (u2 rfl s7_24))) ⟨_, rfl, hb_33⟩ rfl ?_
                                refine al_ro' (ro_eq (ro_ld_ptr y28_ty26 rfl mo0_15 (u4 rfl s2_24) (by first | exact Nat.le_of_ble_eq_true rfl | omega | (simp only [lnS] <;> omega) | (simp <;> omega))) (by first | (simp only [packA_t, packA_f, iE, bE, setAt, cellsA, Value.cells, map_vc, map_vn, Nat.reduceAdd, qS] <;> rfl) | rfl)) ⟨_, rfl, (up_m rfl hb_33)⟩ rfl ?_
                                refine al_ro' (ro_call (evL_cons up_h evL_nil) rfl (rLengthOf_ok l hf hf) y28_hcf13) ⟨_, rfl, (u2 rfl hb_33)⟩ rfl ?_
                                refine al_ro' (ro_neq (u2 rfl up_h) up_h) ⟨_, rfl, (up_m rfl (u2 rfl hb_33))⟩ rfl ?_
                                refine al_ro' (ro_pickF (u4 rfl hb_33) up_h) trivial rfl ?_
                                refine al_end (fun e_37 he_37 => ?_)
                                have s1_37 := ef 1 he_37 (u8 rfl s1_24)
                                have s2_37 := ef 2 he_37 (u8 rfl s2_24)
                                have s9_37 := ef 9 he_37 (u8 rfl s9_24)
                                have s10_37 := ef 10 he_37 (u8 rfl s10_24)
                                have s75_37 := ef 75 he_37 up_h
                                clear he_37 hb_33 s10_24 s12_24 s1_24 s2_24 s51_24 s7_24 s8_24 s9_24
                                refine then_n ?_
                                refine aw_case s75_37 (fun hq_38 => ?_) (fun hq_38 => ?_)
                                · (first | replace hq_38 := bnt hq_38 | replace hq_38 := bnf hq_38 | replace hq_38 := bt hq_38 | replace hq_38 := bf hq_38 | replace hq_38 := bt' hq_38 | replace hq_38 := bf' hq_38 | skip)
                                  first
                                  | (cases hq_38; done) | (exfalso; omega)
                                  | (
                                     refine aw_seq ?_
                                     refine aw_text (by kernel_rfl) ?_
                                     refine al_ro' (ro_assign ev_c) trivial rfl ?_
                                     refine al_end (fun e_39 he_39 => ?_)
                                     have s4_39 := ef 4 he_39 up_h
                                     clear he_39 s10_37 s1_37 s2_37 s75_37 s9_37
                                     refine then_n ?_
                                     refine aw_ret ?_
                                     refine then_r ?_
                                     refine ret1 (.inr rfl) (by kernel_rfl) (resV_tmp s4_39) (.ro _ rfl) ?_
                                     clear s4_39 mo2_15 mo1_15 mo0_15 ml_15
                                     rfl)
                                · (first | replace hq_38 := bnt hq_38 | replace hq_38 := bnf hq_38 | replace hq_38 := bt hq_38 | replace hq_38 := bf hq_38 | replace hq_38 := bt' hq_38 | replace hq_38 := bf' hq_38 | skip)
                                  first
                                  | (cases hq_38; done) | (exfalso; omega)
                                  | (
                                     refine aw_skip ?_
                                     refine then_n ?_
                                     refine aw_seq ?_
                                     refine aw_seq ?_
                                     refine aw_text (by kernel_rfl) ?_
                                     refine al_ro' (ro_eq (ro_ld_ptr y28_ty26 rfl mo0_15 s2_37 (by first | exact Nat.le_of_ble_eq_true rfl | omega | (simp only [lnS] <;> omega) | (simp <;> omega))) (by first | (simp only [packA_t, packA_f, iE, bE, setAt, cellsA, Value.cells, map_vc, map_vn, Nat.reduceAdd, qS] <;> rfl) | rfl)) trivial rfl ?_
                                     refine al_ro' (ro_move (up_m rfl s1_37)) trivial rfl ?_
                                     refine al_ro' (ro_call (evL_cons (up_m rfl up_h) (evL_cons up_h evL_nil)) rfl (jointErr_ok l hf j) y28_hcf14) trivial rfl ?_
                                     refine al_ro' (ro_assign up_h) trivial rfl ?_
                                     refine al_end (fun e_40 he_40 => ?_)
                                     have s1_40 := ef 1 he_40 (u4 rfl s1_37)
                                     have s2_40 := ef 2 he_40 (u4 rfl s2_37)
                                     have s9_40 := ef 9 he_40 (u4 rfl s9_37)
                                     have s10_40 := ef 10 he_40 (u4 rfl s10_37)
                                     have s12_40 := ef 12 he_40 up_h
                                     clear he_40 s10_37 s1_37 s2_37 s75_37 s9_37
                                     refine then_n ?_
                                     refine aw_seq ?_
                                     refine aw_text (by kernel_rfl) ?_
                                     refine al_ro' (ro_move s12_40) trivial rfl ?_
                                     refine al_ro' (ro_neq up_h ev_c) trivial rfl ?_
                                     refine al_end (fun e_41 he_41 => ?_)
                                     have s1_41 := ef 1 he_41 (u2 rfl s1_40)
                                     have s2_41 := ef 2 he_41 (u2 rfl s2_40)
                                     have s9_41 := ef 9 he_41 (u2 rfl s9_40)
                                     have s10_41 := ef 10 he_41 (u2 rfl s10_40)
                                     have s12_41 := ef 12 he_41 (u2 rfl s12_40)
                                     have s80_41 := ef 80 he_41 up_h
                                     clear he_41 s10_40 s12_40 s1_40 s2_40 s9_40
                                     refine then_n ?_
                                     refine aw_case s80_41 (fun hq_42 => ?_) (fun hq_42 => ?_)
                                     · (first | replace hq_42 := bnt hq_42 | replace hq_42 := bnf hq_42 | replace hq_42 := bt hq_42 | replace hq_42 := bf hq_42 | replace hq_42 := bt' hq_42 | replace hq_42 := bf' hq_42 | skip)
                                       first
                                       | (cases hq_42; done) | (exfalso; omega)
                                       | (
                                          refine aw_seq ?_
                                          refine aw_text (by kernel_rfl) ?_
                                          refine al_ro' (ro_move s10_41) trivial rfl ?_
                                          refine al_ro' (ro_move (up_m rfl s12_41)) trivial rfl ?_
                                          refine al_ro' (ro_eql (up_m rfl up_h) up_h) trivial rfl ?_
                                          refine al_ro' (ro_move up_h) trivial rfl ?_
                                          refine al_case up_h (fun hb_43 hq_43 => ?_) (fun hb_43 hq_43 => ?_)
                                          · (first | replace hq_43 := bnt hq_43 | replace hq_43 := bnf hq_43 | replace hq_43 := bt hq_43 | replace hq_43 := bf hq_43 | replace hq_43 := bt' hq_43 | replace hq_43 := bf' hq_43 | skip)
                                            first
                                            | (cases hq_43; done) | (exfalso; omega)
                                            | (
                                               refine al_ro' (ro_move (u4 rfl s9_41)) ⟨_, rfl, hb_43⟩ rfl ?_
                                               refine al_ro' (ro_eql up_h ev_c) ⟨_, rfl, (up_m rfl hb_43)⟩ rfl ?_
                                               refine al_ro' (ro_pickT (u2 rfl hb_43) up_h) trivial rfl ?_
                                               refine al_ro' (ro_assign up_h) trivial rfl ?_
                                               refine al_end (fun e_44 he_44 => ?_)
                                               have s4_44 := ef 4 he_44 up_h
                                               clear he_44 hb_43 s10_41 s12_41 s1_41 s2_41 s80_41 s9_41
                                               refine then_n ?_
                                               refine aw_ret ?_
                                               refine then_r ?_
                                               refine ret1 (.inr rfl) (by kernel_rfl) (resV_tmp s4_44) (.ro _ rfl) ?_
                                               clear s4_44 mo2_15 mo1_15 mo0_15 ml_15
                                               rfl)
                                          · (first | replace hq_43 := bnt hq_43 | replace hq_43 := bnf hq_43 | replace hq_43 := bt hq_43 | replace hq_43 := bf hq_43 | replace hq_43 := bt' hq_43 | replace hq_43 := bf' hq_43 | skip)
                                            first
                                            | (cases hq_43; done) | (exfalso; omega)
                                            | (
                                               refine al_skip' ⟨_, rfl, .inl hb_43⟩ rfl ?_
                                               refine al_skip' ⟨_, rfl, .inl (up_m rfl hb_43)⟩ rfl ?_
                                               refine al_ro' (ro_pickF (u2 rfl hb_43) ev_c) trivial rfl ?_
                                               refine al_ro' (ro_assign up_h) trivial rfl ?_
                                               refine al_end (fun e_45 he_45 => ?_)
                                               have s4_45 := ef 4 he_45 up_h
                                               clear he_45 hb_43 s10_41 s12_41 s1_41 s2_41 s80_41 s9_41
                                               refine then_n ?_
                                               refine aw_ret ?_
                                               refine then_r ?_
                                               refine ret1 (.inr rfl) (by kernel_rfl) (resV_tmp s4_45) (.ro _ rfl) ?_
                                               clear s4_45 mo2_15 mo1_15 mo0_15 ml_15
                                               rfl))
                                     · (first | replace hq_42 := bnt hq_42 | replace hq_42 := bnf hq_42 | replace hq_42 := bt hq_42 | replace hq_42 := bf hq_42 | replace hq_42 := bt' hq_42 | replace hq_42 := bf' hq_42 | skip)
                                       first
                                       | (cases hq_42; done) | (exfalso; omega)
                                       | (
                                          refine aw_skip ?_
                                          refine then_n ?_
                                          refine aw_seq ?_
                                          refine aw_text (by kernel_rfl) ?_
                                          refine al_ro' (ro_move s10_41) trivial rfl ?_
                                          refine al_ro' (ro_eql up_h ev_c) trivial rfl ?_
                                          refine al_ro' (ro_move up_h) trivial rfl ?_
                                          refine al_case up_h (fun hb_46 hq_46 => ?_) (fun hb_46 hq_46 => ?_)
                                          · (first | replace hq_46 := bnt hq_46 | replace hq_46 := bnf hq_46 | replace hq_46 := bt hq_46 | replace hq_46 := bf hq_46 | replace hq_46 := bt' hq_46 | replace hq_46 := bf' hq_46 | skip)
                                            first
                                            | (cases hq_46; done) | (exfalso; omega)
                                            | (
                                               refine al_ro' (ro_move (up_m rfl (u2 rfl s9_41))) ⟨_, rfl, hb_46⟩ rfl ?_
                                               refine al_ro' (ro_eq (ro_ld_ptr y28_ty26 rfl mo0_15 (u4 rfl s2_41) (by first | exact Nat.le_of_ble_eq_true rfl | omega | (simp only [lnS] <;> omega) | (simp <;> omega))) (by first | (simp only [packA_t, packA_f, iE, bE, setAt, cellsA, Value.cells, map_vc, map_vn, Nat.reduceAdd, qS] <;> rfl) | rfl)) ⟨_, rfl, (up_m rfl hb_46)⟩ rfl ?_
                                               refine al_ro' (ro_move (up_m rfl (u4 rfl s1_41))) ⟨_, rfl, (u2 rfl hb_46)⟩ rfl ?_
                                               refine al_ro' (ro_call (evL_cons (up_m rfl up_h) (evL_cons up_h evL_nil)) rfl (rPlaceOf_ok l hf hf j hf) y28_hcf15) ⟨_, rfl, (up_m rfl (u2 rfl hb_46))⟩ rfl ?_
                                               refine al_ro' (ro_eql (up_m rfl (u2 rfl up_h)) up_h) ⟨_, rfl, (u4 rfl hb_46)⟩ rfl ?_
                                               refine al_ro' (ro_pickT (up_m rfl (u4 rfl hb_46)) up_h) trivial rfl ?_
                                               refine al_ro' (ro_assign up_h) trivial rfl ?_
                                               refine al_end (fun e_47 he_47 => ?_)
                                               have s4_47 := ef 4 he_47 up_h
                                               clear he_47 hb_46 s10_41 s12_41 s1_41 s2_41 s80_41 s9_41
                                               refine then_n ?_
                                               refine aw_ret ?_
                                               refine ret1 (.inr rfl) (by kernel_rfl) (resV_tmp s4_47) (.ro _ rfl) ?_
                                               clear s4_47 mo2_15 mo1_15 mo0_15 ml_15
                                               rfl)
                                          · (first | replace hq_46 := bnt hq_46 | replace hq_46 := bnf hq_46 | replace hq_46 := bt hq_46 | replace hq_46 := bf hq_46 | replace hq_46 := bt' hq_46 | replace hq_46 := bf' hq_46 | skip)
                                            first
                                            | (cases hq_46; done) | (exfalso; omega)
                                            | (
                                               refine al_skip' ⟨_, rfl, .inl hb_46⟩ rfl ?_
                                               refine al_skip' ⟨_, rfl, .inl (up_m rfl hb_46)⟩ rfl ?_
                                               refine al_skip' ⟨_, rfl, .inl (u2 rfl hb_46)⟩ rfl ?_
                                               refine al_skip' ⟨_, rfl, .inl (up_m rfl (u2 rfl hb_46))⟩ rfl ?_
                                               refine al_skip' ⟨_, rfl, .inl (u4 rfl hb_46)⟩ rfl ?_
                                               refine al_ro' (ro_pickF (up_m rfl (u4 rfl hb_46)) ev_c) trivial rfl ?_
                                               refine al_ro' (ro_assign up_h) trivial rfl ?_
                                               refine al_end (fun e_48 he_48 => ?_)
                                               have s4_48 := ef 4 he_48 up_h
                                               clear he_48 hb_46 s10_41 s12_41 s1_41 s2_41 s80_41 s9_41
                                               refine then_n ?_
                                               refine aw_ret ?_
                                               refine ret1 (.inr rfl) (by kernel_rfl) (resV_tmp s4_48) (.ro _ rfl) ?_
                                               clear s4_48 mo2_15 mo1_15 mo0_15 ml_15
                                               rfl)))))))))
set_option maxRecDepth 100000 in
set_option maxHeartbeats 4000000 in
theorem lineLines_bad (l : Lin) (hf : fewL l = true) (hb : (linM l).2 ≠ 0) (j : Int) : FnOk Try.prog 3 [lnA l, mA j] (fun q => q = tbA true) := by
  refine fnOk_of (fn := Try.f3) 97 (by kernel_rfl) rfl (by kernel_rfl) (Nat.le_of_ble_eq_true rfl) ?_
  intro e_0 m_0 hA hm_0
  have s0_0 : evA e_0 (.tmp 0) = _ := hA 0 _ rfl
  have s1_0 : evA e_0 (.tmp 1) = _ := hA 1 _ rfl
  have ml_0 : m_0.length = 0 := by rw [hm_0]; rfl
  clear hA hm_0
  have hl := fewL_sho hf
  refine aw_seq ?_
  refine aw_text (by kernel_rfl) ?_
  refine al_stm (st_box s0_0 rfl ml_0) trivial rfl (fun m_1 hm_1 => ?_)
  have mo0_1 := m_push hm_1 ml_0
  (try simp only [packA_t, packA_f, iE, bE, setAt, cellsA, Value.cells, map_vc, map_vn, Nat.reduceAdd, qS] at mo0_1)
  have ml_1 := m_push_l hm_1 ml_0
  have ml_1 : _ = 1 := ml_1
  clear hm_1
  refine al_ro' (ro_assign ev_c) trivial rfl ?_
  refine al_end (fun e_2 he_2 => ?_)
  have s1_2 := ef 1 he_2 (u2 rfl s1_0)
  have s2_2 := ef 2 he_2 (up_m rfl up_h)
  clear he_2 s0_0 s1_0
  refine then_n ?_
  refine aw_seq ?_
  refine aw_seq ?_
  refine aw_text (by kernel_rfl) ?_
  refine al_ro' (ro_call evL_nil rfl (awake_ok) y28_hcf6) trivial rfl ?_
  refine al_ro' (ro_not up_h) trivial rfl ?_
  refine al_end (fun e_3 he_3 => ?_)
  have s1_3 := ef 1 he_3 (u2 rfl s1_2)
  have s2_3 := ef 2 he_3 (u2 rfl s2_2)
  have s14_3 := ef 14 he_3 up_h
  clear he_3 s1_2 s2_2
  refine then_n ?_
  refine aw_case s14_3 (fun hq_4 => ?_) (fun hq_4 => ?_)
  · skip
    first
    | (cases hq_4; done) | ((first | replace hq_4 := bnt hq_4 | replace hq_4 := bnf hq_4 | replace hq_4 := bt hq_4 | replace hq_4 := bf hq_4 | replace hq_4 := bt' hq_4 | replace hq_4 := bf' hq_4 | skip); exfalso; omega) | first | (simp at hq_4; done) | (exact absurd (by simpa using hq_4) hb)
    | ((first | replace hq_4 := bnt hq_4 | replace hq_4 := bnf hq_4 | replace hq_4 := bt hq_4 | replace hq_4 := bf hq_4 | replace hq_4 := bt' hq_4 | replace hq_4 := bf' hq_4 | skip)
       refine aw_seq ?_
       refine aw_text (by kernel_rfl) ?_
       refine al_ro' (ro_assign ev_c) trivial rfl ?_
       refine al_end (fun e_5 he_5 => ?_)
       have s4_5 := ef 4 he_5 up_h
       clear he_5 s14_3 s1_3 s2_3
       refine then_n ?_
       refine aw_ret ?_
       refine then_r ?_
       refine ret1 (.inr rfl) (by kernel_rfl) (resV_tmp s4_5) (.ro _ rfl) ?_
       clear s4_5 mo0_1 ml_1
       simp_all)
  · skip
    first
    | (cases hq_4; done) | ((first | replace hq_4 := bnt hq_4 | replace hq_4 := bnf hq_4 | replace hq_4 := bt hq_4 | replace hq_4 := bf hq_4 | replace hq_4 := bt' hq_4 | replace hq_4 := bf' hq_4 | skip); exfalso; omega) | first | (simp at hq_4; done) | (exact absurd (by simpa using hq_4) hb)
    | ((first | replace hq_4 := bnt hq_4 | replace hq_4 := bnf hq_4 | replace hq_4 := bt hq_4 | replace hq_4 := bf hq_4 | replace hq_4 := bt' hq_4 | replace hq_4 := bf' hq_4 | skip)
       refine aw_skip ?_
       refine then_n ?_
       refine aw_seq ?_
       refine aw_seq ?_
       refine aw_text (by kernel_rfl) ?_
       refine al_ro' (ro_eq (ro_ld_ptr y28_ty26 rfl mo0_1 s2_3 (by first | exact Nat.le_of_ble_eq_true rfl | omega | (simp only [lnS] <;> omega) | (simp <;> omega))) (by first | (simp only [packA_t, packA_f, iE, bE, setAt, cellsA, Value.cells, map_vc, map_vn, Nat.reduceAdd, qS] <;> rfl) | rfl)) trivial rfl ?_
       refine al_ro' (ro_call (evL_cons up_h evL_nil) rfl ((fewL_ok l).mono (fun q h => h.trans (by rw [hf]))) y28_hcf7) trivial rfl ?_
       refine al_ro' (ro_not up_h) trivial rfl ?_
       refine al_end (fun e_6 he_6 => ?_)
       have s1_6 := ef 1 he_6 (up_m rfl (u2 rfl s1_3))
       have s2_6 := ef 2 he_6 (up_m rfl (u2 rfl s2_3))
       have s17_6 := ef 17 he_6 up_h
       clear he_6 s14_3 s1_3 s2_3
       refine then_n ?_
       refine aw_case s17_6 (fun hq_7 => ?_) (fun hq_7 => ?_)
       · skip
         first
         | (cases hq_7; done) | ((first | replace hq_7 := bnt hq_7 | replace hq_7 := bnf hq_7 | replace hq_7 := bt hq_7 | replace hq_7 := bf hq_7 | replace hq_7 := bt' hq_7 | replace hq_7 := bf' hq_7 | skip); exfalso; omega) | first | (simp at hq_7; done) | (exact absurd (by simpa using hq_7) hb)
         | ((first | replace hq_7 := bnt hq_7 | replace hq_7 := bnf hq_7 | replace hq_7 := bt hq_7 | replace hq_7 := bf hq_7 | replace hq_7 := bt' hq_7 | replace hq_7 := bf' hq_7 | skip)
            refine aw_seq ?_
            refine aw_text (by kernel_rfl) ?_
            refine al_ro' (ro_assign ev_c) trivial rfl ?_
            refine al_end (fun e_8 he_8 => ?_)
            have s4_8 := ef 4 he_8 up_h
            clear he_8 s17_6 s1_6 s2_6
            refine then_n ?_
            refine aw_ret ?_
            refine then_r ?_
            refine ret1 (.inr rfl) (by kernel_rfl) (resV_tmp s4_8) (.ro _ rfl) ?_
            clear s4_8 mo0_1 ml_1
            simp_all)
       · skip
         first
         | (cases hq_7; done) | ((first | replace hq_7 := bnt hq_7 | replace hq_7 := bnf hq_7 | replace hq_7 := bt hq_7 | replace hq_7 := bf hq_7 | replace hq_7 := bt' hq_7 | replace hq_7 := bf' hq_7 | skip); exfalso; omega) | first | (simp at hq_7; done) | (exact absurd (by simpa using hq_7) hb)
         | ((first | replace hq_7 := bnt hq_7 | replace hq_7 := bnf hq_7 | replace hq_7 := bt hq_7 | replace hq_7 := bf hq_7 | replace hq_7 := bt' hq_7 | replace hq_7 := bf' hq_7 | skip)
            refine aw_skip ?_
            refine then_n ?_
            refine aw_seq ?_
            refine aw_text (by kernel_rfl) ?_
            refine al_ro' (ro_eq (ro_ld_ptr y28_ty26 rfl mo0_1 s2_6 (by first | exact Nat.le_of_ble_eq_true rfl | omega | (simp only [lnS] <;> omega) | (simp <;> omega))) (by first | (simp only [packA_t, packA_f, iE, bE, setAt, cellsA, Value.cells, map_vc, map_vn, Nat.reduceAdd, qS] <;> rfl) | rfl)) trivial rfl ?_
            refine al_ro' (ro_call (evL_cons up_h evL_nil) rfl (yCopy_ok l hl) y28_hcf9) trivial rfl ?_
            refine al_ro' (ro_call (evL_cons up_h evL_nil) rfl (yCheckLine_ok l hl) y28_hcf8) trivial rfl ?_
            refine al_ro' (ro_move up_h) trivial rfl ?_
            refine al_ro' (ro_extract up_h rfl) trivial rfl ?_
            refine al_ro' (ro_extract (up_m rfl up_h) rfl) trivial rfl ?_
            refine al_stm (st_alloc y28_az30 rfl ml_1) trivial rfl (fun m_9 hm_9 => ?_)
            have mo1_9 := m_push hm_9 ml_1
            (try simp only [packA_t, packA_f, iE, bE, setAt, cellsA, Value.cells, map_vc, map_vn, Nat.reduceAdd, qS] at mo1_9)
            have mo0_9 := m_push_o hm_9 mo0_1
            have ml_9 := m_push_l hm_9 ml_1
            have ml_9 : _ = 2 := ml_9
            clear hm_9 mo0_1
            refine al_stm (st_store up_h (u2 rfl up_h) rfl rfl mo1_9 y28_sz30 rfl (by first | exact Nat.le_of_ble_eq_true rfl | omega | (simp only [lnS] <;> omega) | (simp <;> omega))) trivial rfl (fun m_10 hm_10 => ?_)
            have mo1_10 := m_set hm_10 mo1_9
            (try simp only [packA_t, packA_f, iE, bE, setAt, cellsA, Value.cells, map_vc, map_vn, Nat.reduceAdd, qS] at mo1_10)
            have mo0_10 := m_set_o hm_10 mo0_9 (by decide)
            have ml_10 := m_set_l hm_10 ml_9
            clear hm_10 mo1_9 mo0_9
            refine al_ro' (ro_assign (up_n (up_m rfl up_h))) trivial rfl ?_
            refine al_end (fun e_11 he_11 => ?_)
            have s1_11 := ef 1 he_11 (up_m rfl (up_n (up_m rfl (u2 rfl (u4 rfl s1_6)))))
            have s2_11 := ef 2 he_11 (up_m rfl (up_n (up_m rfl (u2 rfl (u4 rfl s2_6)))))
            have s5_11 := ef 5 he_11 (up_m rfl (up_n up_h))
            have s6_11 := ef 6 he_11 up_h
            clear he_11 s17_6 s1_6 s2_6
            refine then_n ?_
            refine aw_seq ?_
            refine aw_text (by kernel_rfl) ?_
            refine al_ro' (ro_eq (ro_ld_ptr y28_ty26 rfl mo0_10 s2_11 (by first | exact Nat.le_of_ble_eq_true rfl | omega | (simp only [lnS] <;> omega) | (simp <;> omega))) (by first | (simp only [packA_t, packA_f, iE, bE, setAt, cellsA, Value.cells, map_vc, map_vn, Nat.reduceAdd, qS] <;> rfl) | rfl)) trivial rfl ?_
            refine al_ro' (ro_call (evL_cons up_h evL_nil) rfl (yCopy_ok l hl) y28_hcf9) trivial rfl ?_
            refine al_ro' (ro_call (evL_cons up_h evL_nil) rfl (lengthOf_bad l hl hb) y28_hcf10) trivial rfl ?_
            refine al_ro' (ro_move up_h) trivial rfl ?_
            refine al_ro' (ro_extract up_h rfl) trivial rfl ?_
            refine al_ro' (ro_extract (up_m rfl up_h) rfl) trivial rfl ?_
            refine al_ro' (ro_assign (up_m rfl up_h)) trivial rfl ?_
            refine al_ro' (ro_assign (up_m rfl up_h)) trivial rfl ?_
            refine al_end (fun e_12 he_12 => ?_)
            have s1_12 := ef 1 he_12 (u8 rfl s1_11)
            have s2_12 := ef 2 he_12 (u8 rfl s2_11)
            have s5_12 := ef 5 he_12 (u8 rfl s5_11)
            have s6_12 := ef 6 he_12 (u8 rfl s6_11)
            have s7_12 := ef 7 he_12 (up_m rfl up_h)
            have s8_12 := ef 8 he_12 up_h
            clear he_12 s1_11 s2_11 s5_11 s6_11
            refine then_n ?_
            refine aw_seq ?_
            refine aw_text (by kernel_rfl) ?_
            refine al_ro' (ro_eq (ro_ld_ptr y28_ty26 rfl mo0_10 s2_12 (by first | exact Nat.le_of_ble_eq_true rfl | omega | (simp only [lnS] <;> omega) | (simp <;> omega))) (by first | (simp only [packA_t, packA_f, iE, bE, setAt, cellsA, Value.cells, map_vc, map_vn, Nat.reduceAdd, qS] <;> rfl) | rfl)) trivial rfl ?_
            refine al_ro' (ro_call (evL_cons up_h evL_nil) rfl (yCopy_ok l hl) y28_hcf9) trivial rfl ?_
            refine al_ro' (ro_move (u2 rfl s1_12)) trivial rfl ?_
            refine al_ro' (ro_call (evL_cons (up_m rfl up_h) (evL_cons up_h evL_nil)) rfl (placeOf_bad l hl hb j) y28_hcf11) trivial rfl ?_
            refine al_ro' (ro_move up_h) trivial rfl ?_
            refine al_ro' (ro_extract up_h rfl) trivial rfl ?_
            refine al_ro' (ro_extract (up_m rfl up_h) rfl) trivial rfl ?_
            refine al_ro' (ro_assign (up_m rfl up_h)) trivial rfl ?_
            refine al_ro' (ro_assign (up_m rfl up_h)) trivial rfl ?_
            refine al_end (fun e_13 he_13 => ?_)
            have s1_13 := ef 1 he_13 (up_m rfl (u8 rfl s1_12))
            have s2_13 := ef 2 he_13 (up_m rfl (u8 rfl s2_12))
            have s5_13 := ef 5 he_13 (up_m rfl (u8 rfl s5_12))
            have s6_13 := ef 6 he_13 (up_m rfl (u8 rfl s6_12))
            have s7_13 := ef 7 he_13 (up_m rfl (u8 rfl s7_12))
            have s8_13 := ef 8 he_13 (up_m rfl (u8 rfl s8_12))
            have s9_13 := ef 9 he_13 (up_m rfl up_h)
            have s10_13 := ef 10 he_13 up_h
            clear he_13 s1_12 s2_12 s5_12 s6_12 s7_12 s8_12
            refine then_n ?_
            refine aw_seq ?_
            refine aw_text (by kernel_rfl) ?_
            refine al_ro' (ro_eq (ro_ld_ptr y28_ty26 rfl mo0_10 s2_13 (by first | exact Nat.le_of_ble_eq_true rfl | omega | (simp only [lnS] <;> omega) | (simp <;> omega))) (by first | (simp only [packA_t, packA_f, iE, bE, setAt, cellsA, Value.cells, map_vc, map_vn, Nat.reduceAdd, qS] <;> rfl) | rfl)) trivial rfl ?_
            refine al_ro' (ro_call (evL_cons up_h evL_nil) rfl (rCheckLine_ok l hl) y28_hcf12) trivial rfl ?_
            refine al_ro' (ro_move up_h) trivial rfl ?_
            refine al_ro' (ro_extract up_h rfl) trivial rfl ?_
            refine al_ro' (ro_extract (up_m rfl up_h) rfl) trivial rfl ?_
            refine al_stm (st_alloc y28_az30 rfl ml_10) trivial rfl (fun m_14 hm_14 => ?_)
            have mo2_14 := m_push hm_14 ml_10
            (try simp only [packA_t, packA_f, iE, bE, setAt, cellsA, Value.cells, map_vc, map_vn, Nat.reduceAdd, qS] at mo2_14)
            have mo1_14 := m_push_o hm_14 mo1_10
            have mo0_14 := m_push_o hm_14 mo0_10
            have ml_14 := m_push_l hm_14 ml_10
            have ml_14 : _ = 3 := ml_14
            clear hm_14 mo1_10 mo0_10
            refine al_stm (st_store up_h (u2 rfl up_h) rfl rfl mo2_14 y28_sz30 rfl (by first | exact Nat.le_of_ble_eq_true rfl | omega | (simp only [lnS] <;> omega) | (simp <;> omega))) trivial rfl (fun m_15 hm_15 => ?_)
            have mo2_15 := m_set hm_15 mo2_14
            (try simp only [packA_t, packA_f, iE, bE, setAt, cellsA, Value.cells, map_vc, map_vn, Nat.reduceAdd, qS] at mo2_15)
            have mo1_15 := m_set_o hm_15 mo1_14 (by decide)
            have mo0_15 := m_set_o hm_15 mo0_14 (by decide)
            have ml_15 := m_set_l hm_15 ml_14
            clear hm_15 mo2_14 mo1_14 mo0_14
            refine al_ro' (ro_assign (up_n (up_m rfl up_h))) trivial rfl ?_
            refine al_end (fun e_16 he_16 => ?_)
            have s1_16 := ef 1 he_16 (up_m rfl (up_n (u2 rfl (u4 rfl s1_13))))
            have s2_16 := ef 2 he_16 (up_m rfl (up_n (u2 rfl (u4 rfl s2_13))))
            have s5_16 := ef 5 he_16 (up_m rfl (up_n (u2 rfl (u4 rfl s5_13))))
            have s6_16 := ef 6 he_16 (up_m rfl (up_n (u2 rfl (u4 rfl s6_13))))
            have s7_16 := ef 7 he_16 (up_m rfl (up_n (u2 rfl (u4 rfl s7_13))))
            have s8_16 := ef 8 he_16 (up_m rfl (up_n (u2 rfl (u4 rfl s8_13))))
            have s9_16 := ef 9 he_16 (up_m rfl (up_n (u2 rfl (u4 rfl s9_13))))
            have s10_16 := ef 10 he_16 (up_m rfl (up_n (u2 rfl (u4 rfl s10_13))))
            have s11_16 := ef 11 he_16 (up_m rfl (up_n up_h))
            have s12_16 := ef 12 he_16 up_h
            clear he_16 s10_13 s1_13 s2_13 s5_13 s6_13 s7_13 s8_13 s9_13
            refine then_n ?_
            refine aw_seq ?_
            refine aw_seq ?_
            refine aw_text (by kernel_rfl) ?_
            refine al_ro' (ro_move s6_16) trivial rfl ?_
            refine al_ro' (ro_move (up_m rfl s12_16)) trivial rfl ?_
            refine al_ro' (ro_neq (up_m rfl up_h) up_h) trivial rfl ?_
            refine al_ro' (ro_move up_h) trivial rfl ?_
            refine al_case up_h (fun hb_17 hq_17 => ?_) (fun hb_17 hq_17 => ?_)
            · skip
              first
              | (cases hq_17; done) | ((first | replace hq_17 := bnt hq_17 | replace hq_17 := bnf hq_17 | replace hq_17 := bt hq_17 | replace hq_17 := bf hq_17 | replace hq_17 := bt' hq_17 | replace hq_17 := bf' hq_17 | skip); exfalso; omega) | first | (simp at hq_17; done) | (exact absurd (by simpa using hq_17) hb)
              | ((first | replace hq_17 := bnt hq_17 | replace hq_17 := bnf hq_17 | replace hq_17 := bt hq_17 | replace hq_17 := bf hq_17 | replace hq_17 := bt' hq_17 | replace hq_17 := bf' hq_17 | skip)
                 refine al_skip' ⟨_, rfl, .inl hb_17⟩ rfl ?_
                 refine al_skip' ⟨_, rfl, .inl (up_m rfl hb_17)⟩ rfl ?_
                 refine al_skip' ⟨_, rfl, .inl (u2 rfl hb_17)⟩ rfl ?_
                 refine al_ro' (ro_pickT (up_m rfl (u2 rfl hb_17)) ev_c) trivial rfl ?_
                 refine al_end (fun e_18 he_18 => ?_)
                 have s1_18 := ef 1 he_18 (u8 rfl s1_16)
                 have s2_18 := ef 2 he_18 (u8 rfl s2_16)
                 have s7_18 := ef 7 he_18 (u8 rfl s7_16)
                 have s8_18 := ef 8 he_18 (u8 rfl s8_16)
                 have s9_18 := ef 9 he_18 (u8 rfl s9_16)
                 have s10_18 := ef 10 he_18 (u8 rfl s10_16)
                 have s12_18 := ef 12 he_18 (u8 rfl s12_16)
                 have s49_18 := ef 49 he_18 up_h
                 clear he_18 hb_17 s10_16 s11_16 s12_16 s1_16 s2_16 s5_16 s6_16 s7_16 s8_16 s9_16
                 refine then_n ?_
                 refine aw_true s49_18 ?_
                 refine aw_seq ?_
                 refine aw_text (by kernel_rfl) ?_
                 refine al_ro' (ro_assign ev_c) trivial rfl ?_
                 refine al_end (fun e_20 he_20 => ?_)
                 have s4_20 := ef 4 he_20 up_h
                 clear he_20 s10_18 s12_18 s1_18 s2_18 s49_18 s7_18 s8_18 s9_18
                 refine then_n ?_
                 refine aw_ret ?_
                 refine then_r ?_
                 refine ret1 (.inr rfl) (by kernel_rfl) (resV_tmp s4_20) (.ro _ rfl) ?_
                 clear s4_20 mo2_15 mo1_15 mo0_15 ml_15
                 simp_all)
            · skip
              first
              | (cases hq_17; done) | ((first | replace hq_17 := bnt hq_17 | replace hq_17 := bnf hq_17 | replace hq_17 := bt hq_17 | replace hq_17 := bf hq_17 | replace hq_17 := bt' hq_17 | replace hq_17 := bf' hq_17 | skip); exfalso; omega) | first | (simp at hq_17; done) | (exact absurd (by simpa using hq_17) hb)
              | ((first | replace hq_17 := bnt hq_17 | replace hq_17 := bnf hq_17 | replace hq_17 := bt hq_17 | replace hq_17 := bf hq_17 | replace hq_17 := bt' hq_17 | replace hq_17 := bf' hq_17 | skip)
                 refine al_ro' (ro_eq (ro_ld_ptr y28_ty30 rfl mo1_15 (u4 rfl s5_16) (by first | exact Nat.le_of_ble_eq_true rfl | omega | (simp only [lnS] <;> omega) | (simp <;> omega))) (by first | (simp only [packA_t, packA_f, iE, bE, setAt, cellsA, Value.cells, map_vc, map_vn, Nat.reduceAdd, qS] <;> rfl) | rfl)) ⟨_, rfl, hb_17⟩ rfl ?_
                 refine al_ro' (ro_eq (ro_ld_ptr y28_ty30 rfl mo2_15 (up_m rfl (u4 rfl s11_16)) (by first | exact Nat.le_of_ble_eq_true rfl | omega | (simp only [lnS] <;> omega) | (simp <;> omega))) (by first | (simp only [packA_t, packA_f, iE, bE, setAt, cellsA, Value.cells, map_vc, map_vn, Nat.reduceAdd, qS] <;> rfl) | rfl)) ⟨_, rfl, (up_m rfl hb_17)⟩ rfl ?_
                 refine al_ro' (ro_sqneq (up_m rfl up_h) up_h rfl rfl y28_gq30 y28_sq30 (by decide)) ⟨_, rfl, (u2 rfl hb_17)⟩ rfl ?_
                 refine al_ro' (ro_pickF (up_m rfl (u2 rfl hb_17)) up_h) trivial rfl ?_
                 refine al_end (fun e_21 he_21 => ?_)
                 have s1_21 := ef 1 he_21 (u8 rfl s1_16)
                 have s2_21 := ef 2 he_21 (u8 rfl s2_16)
                 have s7_21 := ef 7 he_21 (u8 rfl s7_16)
                 have s8_21 := ef 8 he_21 (u8 rfl s8_16)
                 have s9_21 := ef 9 he_21 (u8 rfl s9_16)
                 have s10_21 := ef 10 he_21 (u8 rfl s10_16)
                 have s12_21 := ef 12 he_21 (u8 rfl s12_16)
                 have s49_21 := ef 49 he_21 up_h
                 clear he_21 hb_17 s10_16 s11_16 s12_16 s1_16 s2_16 s5_16 s6_16 s7_16 s8_16 s9_16
                 refine then_n ?_
                 refine aw_case s49_21 (fun hq_22 => ?_) (fun hq_22 => ?_)
                 · skip
                   first
                   | (cases hq_22; done) | ((first | replace hq_22 := bnt hq_22 | replace hq_22 := bnf hq_22 | replace hq_22 := bt hq_22 | replace hq_22 := bf hq_22 | replace hq_22 := bt' hq_22 | replace hq_22 := bf' hq_22 | skip); exfalso; omega) | first | (simp at hq_22; done) | (exact absurd (by simpa using hq_22) hb)
                   | ((first | replace hq_22 := bnt hq_22 | replace hq_22 := bnf hq_22 | replace hq_22 := bt hq_22 | replace hq_22 := bf hq_22 | replace hq_22 := bt' hq_22 | replace hq_22 := bf' hq_22 | skip)
                      refine aw_seq ?_
                      refine aw_text (by kernel_rfl) ?_
                      refine al_ro' (ro_assign ev_c) trivial rfl ?_
                      refine al_end (fun e_23 he_23 => ?_)
                      have s4_23 := ef 4 he_23 up_h
                      clear he_23 s10_21 s12_21 s1_21 s2_21 s49_21 s7_21 s8_21 s9_21
                      refine then_n ?_
                      refine aw_ret ?_
                      refine then_r ?_
                      refine ret1 (.inr rfl) (by kernel_rfl) (resV_tmp s4_23) (.ro _ rfl) ?_
                      clear s4_23 mo2_15 mo1_15 mo0_15 ml_15
                      simp_all)
                 · skip
                   first
                   | (cases hq_22; done) | ((first | replace hq_22 := bnt hq_22 | replace hq_22 := bnf hq_22 | replace hq_22 := bt hq_22 | replace hq_22 := bf hq_22 | replace hq_22 := bt' hq_22 | replace hq_22 := bf' hq_22 | skip); exfalso; omega) | first | (simp at hq_22; done) | (exact absurd (by simpa using hq_22) hb)
                   | ((first | replace hq_22 := bnt hq_22 | replace hq_22 := bnf hq_22 | replace hq_22 := bt hq_22 | replace hq_22 := bf hq_22 | replace hq_22 := bt' hq_22 | replace hq_22 := bf' hq_22 | skip)
                      refine aw_skip ?_
                      refine then_n ?_
                      refine aw_seq ?_
                      refine aw_seq ?_
                      refine aw_text (by kernel_rfl) ?_
                      refine al_ro' (ro_move s12_21) trivial rfl ?_
                      refine al_ro' (ro_neq up_h ev_c) trivial rfl ?_
                      refine al_end (fun e_24 he_24 => ?_)
                      have s1_24 := ef 1 he_24 (u2 rfl s1_21)
                      have s2_24 := ef 2 he_24 (u2 rfl s2_21)
                      have s7_24 := ef 7 he_24 (u2 rfl s7_21)
                      have s8_24 := ef 8 he_24 (u2 rfl s8_21)
                      have s9_24 := ef 9 he_24 (u2 rfl s9_21)
                      have s10_24 := ef 10 he_24 (u2 rfl s10_21)
                      have s12_24 := ef 12 he_24 (u2 rfl s12_21)
                      have s51_24 := ef 51 he_24 up_h
                      clear he_24 s10_21 s12_21 s1_21 s2_21 s49_21 s7_21 s8_21 s9_21
                      refine then_n ?_
                      refine aw_case s51_24 (fun hq_25 => ?_) (fun hq_25 => ?_)
                      · skip
                        first
                        | (cases hq_25; done) | ((first | replace hq_25 := bnt hq_25 | replace hq_25 := bnf hq_25 | replace hq_25 := bt hq_25 | replace hq_25 := bf hq_25 | replace hq_25 := bt' hq_25 | replace hq_25 := bf' hq_25 | skip); exfalso; omega) | first | (simp at hq_25; done) | (exact absurd (by simpa using hq_25) hb)
                        | ((first | replace hq_25 := bnt hq_25 | replace hq_25 := bnf hq_25 | replace hq_25 := bt hq_25 | replace hq_25 := bf hq_25 | replace hq_25 := bt' hq_25 | replace hq_25 := bf' hq_25 | skip)
                           refine aw_seq ?_
                           refine aw_text (by kernel_rfl) ?_
                           refine al_ro' (ro_move s8_24) trivial rfl ?_
                           refine al_ro' (ro_move (up_m rfl s12_24)) trivial rfl ?_
                           refine al_ro' (ro_eql (up_m rfl up_h) up_h) trivial rfl ?_
                           refine al_ro' (ro_move up_h) trivial rfl ?_
                           refine al_case up_h (fun hb_26 hq_26 => ?_) (fun hb_26 hq_26 => ?_)
                           · skip
                             first
                             | (cases hq_26; done) | ((first | replace hq_26 := bnt hq_26 | replace hq_26 := bnf hq_26 | replace hq_26 := bt hq_26 | replace hq_26 := bf hq_26 | replace hq_26 := bt' hq_26 | replace hq_26 := bf' hq_26 | skip); exfalso; omega) | first | (simp at hq_26; done) | (exact absurd (by simpa using hq_26) hb)
                             | ((first | replace hq_26 := bnt hq_26 | replace hq_26 := bnf hq_26 | replace hq_26 := bt hq_26 | replace hq_26 := bf hq_26 | replace hq_26 := bt' hq_26 | replace hq_26 := bf' hq_26 | skip)
                                refine al_ro' (ro_move (u4 rfl s10_24)) ⟨_, rfl, hb_26⟩ rfl ?_
                                refine al_ro' (ro_move (up_m rfl (u4 rfl s12_24))) ⟨_, rfl, (up_m rfl hb_26)⟩ rfl ?_
                                refine al_ro' (ro_eql (up_m rfl up_h) up_h) ⟨_, rfl, (u2 rfl hb_26)⟩ rfl ?_
                                refine al_ro' (ro_pickT (up_m rfl (u2 rfl hb_26)) up_h) trivial rfl ?_
                                refine al_ro' (ro_move up_h) trivial rfl ?_
                                refine al_case up_h (fun hb_27 hq_27 => ?_) (fun hb_27 hq_27 => ?_)
                                · skip
                                  first
                                  | (cases hq_27; done) | ((first | replace hq_27 := bnt hq_27 | replace hq_27 := bnf hq_27 | replace hq_27 := bt hq_27 | replace hq_27 := bf hq_27 | replace hq_27 := bt' hq_27 | replace hq_27 := bf' hq_27 | skip); exfalso; omega) | first | (simp at hq_27; done) | (exact absurd (by simpa using hq_27) hb)
                                  | ((first | replace hq_27 := bnt hq_27 | replace hq_27 := bnf hq_27 | replace hq_27 := bt hq_27 | replace hq_27 := bf hq_27 | replace hq_27 := bt' hq_27 | replace hq_27 := bf' hq_27 | skip)
                                     refine al_ro' (ro_move (up_m rfl (u8 rfl s7_24))) ⟨_, rfl, hb_27⟩ rfl ?_
                                     refine al_ro' (ro_eql up_h ev_c) ⟨_, rfl, (up_m rfl hb_27)⟩ rfl ?_
                                     refine al_ro' (ro_pickT (u2 rfl hb_27) up_h) trivial rfl ?_
                                     refine al_ro' (ro_move up_h) trivial rfl ?_
                                     refine al_case up_h (fun hb_28 hq_28 => ?_) (fun hb_28 hq_28 => ?_)
                                     · skip
                                       first
                                       | (cases hq_28; done) | ((first | replace hq_28 := bnt hq_28 | replace hq_28 := bnf hq_28 | replace hq_28 := bt hq_28 | replace hq_28 := bf hq_28 | replace hq_28 := bt' hq_28 | replace hq_28 := bf' hq_28 | skip); exfalso; omega) | first | (simp at hq_28; done) | (exact absurd (by simpa using hq_28) hb)
                                       | ((first | replace hq_28 := bnt hq_28 | replace hq_28 := bnf hq_28 | replace hq_28 := bt hq_28 | replace hq_28 := bf hq_28 | replace hq_28 := bt' hq_28 | replace hq_28 := bf' hq_28 | skip)
                                          refine al_ro' (ro_move (up_m rfl (u4 rfl (u8 rfl s9_24)))) ⟨_, rfl, hb_28⟩ rfl ?_
                                          refine al_ro' (ro_eql up_h ev_c) ⟨_, rfl, (up_m rfl hb_28)⟩ rfl ?_
                                          refine al_ro' (ro_pickT (u2 rfl hb_28) up_h) trivial rfl ?_
                                          refine al_ro' (ro_assign up_h) trivial rfl ?_
                                          refine al_end (fun e_29 he_29 => ?_)
                                          have s4_29 := ef 4 he_29 up_h
                                          clear he_29 hb_26 hb_27 hb_28 s10_24 s12_24 s1_24 s2_24 s51_24 s7_24 s8_24 s9_24
                                          refine then_n ?_
                                          refine aw_ret ?_
                                          refine then_r ?_
                                          refine ret1 (.inr rfl) (by kernel_rfl) (resV_tmp s4_29) (.ro _ rfl) ?_
                                          clear s4_29 mo2_15 mo1_15 mo0_15 ml_15
                                          simp_all)
                                     · skip
                                       first
                                       | (cases hq_28; done) | ((first | replace hq_28 := bnt hq_28 | replace hq_28 := bnf hq_28 | replace hq_28 := bt hq_28 | replace hq_28 := bf hq_28 | replace hq_28 := bt' hq_28 | replace hq_28 := bf' hq_28 | skip); exfalso; omega) | first | (simp at hq_28; done) | (exact absurd (by simpa using hq_28) hb)
                                       | ((first | replace hq_28 := bnt hq_28 | replace hq_28 := bnf hq_28 | replace hq_28 := bt hq_28 | replace hq_28 := bf hq_28 | replace hq_28 := bt' hq_28 | replace hq_28 := bf' hq_28 | skip)
                                          refine al_skip' ⟨_, rfl, .inl hb_28⟩ rfl ?_
                                          refine al_skip' ⟨_, rfl, .inl (up_m rfl hb_28)⟩ rfl ?_
                                          refine al_ro' (ro_pickF (u2 rfl hb_28) ev_c) trivial rfl ?_
                                          refine al_ro' (ro_assign up_h) trivial rfl ?_
                                          refine al_end (fun e_30 he_30 => ?_)
                                          have s4_30 := ef 4 he_30 up_h
                                          clear he_30 hb_26 hb_27 hb_28 s10_24 s12_24 s1_24 s2_24 s51_24 s7_24 s8_24 s9_24
                                          refine then_n ?_
                                          refine aw_ret ?_
                                          refine then_r ?_
                                          refine ret1 (.inr rfl) (by kernel_rfl) (resV_tmp s4_30) (.ro _ rfl) ?_
                                          clear s4_30 mo2_15 mo1_15 mo0_15 ml_15
                                          simp_all))
                                · skip
                                  first
                                  | (cases hq_27; done) | ((first | replace hq_27 := bnt hq_27 | replace hq_27 := bnf hq_27 | replace hq_27 := bt hq_27 | replace hq_27 := bf hq_27 | replace hq_27 := bt' hq_27 | replace hq_27 := bf' hq_27 | skip); exfalso; omega) | first | (simp at hq_27; done) | (exact absurd (by simpa using hq_27) hb)
                                  | ((first | replace hq_27 := bnt hq_27 | replace hq_27 := bnf hq_27 | replace hq_27 := bt hq_27 | replace hq_27 := bf hq_27 | replace hq_27 := bt' hq_27 | replace hq_27 := bf' hq_27 | skip)
                                     refine al_skip' ⟨_, rfl, .inl hb_27⟩ rfl ?_
                                     refine al_skip' ⟨_, rfl, .inl (up_m rfl hb_27)⟩ rfl ?_
                                     refine al_ro' (ro_pickF (u2 rfl hb_27) ev_c) trivial rfl ?_
                                     refine al_ro' (ro_move up_h) trivial rfl ?_
                                     refine al_skip' ⟨_, rfl, .inl up_h⟩ rfl ?_
                                     refine al_skip' ⟨_, rfl, .inl (up_m rfl up_h)⟩ rfl ?_
                                     refine al_ro' (ro_pickF (u2 rfl up_h) ev_c) trivial rfl ?_
                                     refine al_ro' (ro_assign up_h) trivial rfl ?_
                                     refine al_end (fun e_31 he_31 => ?_)
                                     have s4_31 := ef 4 he_31 up_h
                                     clear he_31 hb_26 hb_27 s10_24 s12_24 s1_24 s2_24 s51_24 s7_24 s8_24 s9_24
                                     refine then_n ?_
                                     refine aw_ret ?_
                                     refine then_r ?_
                                     refine ret1 (.inr rfl) (by kernel_rfl) (resV_tmp s4_31) (.ro _ rfl) ?_
                                     clear s4_31 mo2_15 mo1_15 mo0_15 ml_15
                                     simp_all))
                           · skip
                             first
                             | (cases hq_26; done) | ((first | replace hq_26 := bnt hq_26 | replace hq_26 := bnf hq_26 | replace hq_26 := bt hq_26 | replace hq_26 := bf hq_26 | replace hq_26 := bt' hq_26 | replace hq_26 := bf' hq_26 | skip); exfalso; omega) | first | (simp at hq_26; done) | (exact absurd (by simpa using hq_26) hb)
                             | ((first | replace hq_26 := bnt hq_26 | replace hq_26 := bnf hq_26 | replace hq_26 := bt hq_26 | replace hq_26 := bf hq_26 | replace hq_26 := bt' hq_26 | replace hq_26 := bf' hq_26 | skip)
                                refine al_skip' ⟨_, rfl, .inl hb_26⟩ rfl ?_
                                refine al_skip' ⟨_, rfl, .inl (up_m rfl hb_26)⟩ rfl ?_
                                refine al_skip' ⟨_, rfl, .inl (u2 rfl hb_26)⟩ rfl ?_
                                refine al_ro' (ro_pickF (up_m rfl (u2 rfl hb_26)) ev_c) trivial rfl ?_
                                refine al_ro' (ro_move up_h) trivial rfl ?_
                                refine al_skip' ⟨_, rfl, .inl up_h⟩ rfl ?_
                                refine al_skip' ⟨_, rfl, .inl (up_m rfl up_h)⟩ rfl ?_
                                refine al_ro' (ro_pickF (u2 rfl up_h) ev_c) trivial rfl ?_
                                refine al_ro' (ro_move up_h) trivial rfl ?_
                                refine al_skip' ⟨_, rfl, .inl up_h⟩ rfl ?_
                                refine al_skip' ⟨_, rfl, .inl (up_m rfl up_h)⟩ rfl ?_
                                refine al_ro' (ro_pickF (u2 rfl up_h) ev_c) trivial rfl ?_
                                refine al_ro' (ro_assign up_h) trivial rfl ?_
                                refine al_end (fun e_32 he_32 => ?_)
                                have s4_32 := ef 4 he_32 up_h
                                clear he_32 hb_26 s10_24 s12_24 s1_24 s2_24 s51_24 s7_24 s8_24 s9_24
                                refine then_n ?_
                                refine aw_ret ?_
                                refine then_r ?_
                                refine ret1 (.inr rfl) (by kernel_rfl) (resV_tmp s4_32) (.ro _ rfl) ?_
                                clear s4_32 mo2_15 mo1_15 mo0_15 ml_15
                                simp_all))
                      · skip
                        first
                        | (cases hq_25; done) | ((first | replace hq_25 := bnt hq_25 | replace hq_25 := bnf hq_25 | replace hq_25 := bt hq_25 | replace hq_25 := bf hq_25 | replace hq_25 := bt' hq_25 | replace hq_25 := bf' hq_25 | skip); exfalso; omega) | first | (simp at hq_25; done) | (exact absurd (by simpa using hq_25) hb)
                        | ((first | replace hq_25 := bnt hq_25 | replace hq_25 := bnf hq_25 | replace hq_25 := bt hq_25 | replace hq_25 := bf hq_25 | replace hq_25 := bt' hq_25 | replace hq_25 := bf' hq_25 | skip)
                           refine aw_skip ?_
                           refine then_n ?_
                           refine aw_seq ?_
                           refine aw_seq ?_
                           refine aw_text (by kernel_rfl) ?_
                           refine al_ro' (ro_move s8_24) trivial rfl ?_
                           refine al_ro' (ro_neq up_h ev_c) trivial rfl ?_
                           refine al_ro' (ro_move up_h) trivial rfl ?_
                           refine al_case up_h (fun hb_33 hq_33 => ?_) (fun hb_33 hq_33 => ?_)
                           · skip
                             first
                             | (cases hq_33; done) | ((first | replace hq_33 := bnt hq_33 | replace hq_33 := bnf hq_33 | replace hq_33 := bt hq_33 | replace hq_33 := bf hq_33 | replace hq_33 := bt' hq_33 | replace hq_33 := bf' hq_33 | skip); exfalso; omega) | first | (simp at hq_33; done) | (exact absurd (by simpa using hq_33) hb)
                             | ((first | replace hq_33 := bnt hq_33 | replace hq_33 := bnf hq_33 | replace hq_33 := bt hq_33 | replace hq_33 := bf hq_33 | replace hq_33 := bt' hq_33 | replace hq_33 := bf' hq_33 | skip)
                                refine al_skip' ⟨_, rfl, .inl hb_33⟩ rfl ?_
                                refine al_skip' ⟨_, rfl, .inl (up_m rfl hb_33)⟩ rfl ?_
                                refine al_skip' ⟨_, rfl, .inl (u2 rfl hb_33)⟩ rfl ?_
                                refine al_skip' ⟨_, rfl, .inl (up_m rfl (u2 rfl hb_33))⟩ rfl ?_
                                refine al_ro' (ro_pickT (u4 rfl hb_33) ev_c) trivial rfl ?_
                                refine al_end (fun e_34 he_34 => ?_)
                                have s1_34 := ef 1 he_34 (u8 rfl s1_24)
                                have s2_34 := ef 2 he_34 (u8 rfl s2_24)
                                have s9_34 := ef 9 he_34 (u8 rfl s9_24)
                                have s10_34 := ef 10 he_34 (u8 rfl s10_24)
                                have s75_34 := ef 75 he_34 up_h
                                clear he_34 hb_33 s10_24 s12_24 s1_24 s2_24 s51_24 s7_24 s8_24 s9_24
                                refine then_n ?_
                                refine aw_true s75_34 ?_
                                refine aw_seq ?_
                                refine aw_text (by kernel_rfl) ?_
                                refine al_ro' (ro_assign ev_c) trivial rfl ?_
                                refine al_end (fun e_36 he_36 => ?_)
                                have s4_36 := ef 4 he_36 up_h
                                clear he_36 s10_34 s1_34 s2_34 s75_34 s9_34
                                refine then_n ?_
                                refine aw_ret ?_
                                refine then_r ?_
                                refine ret1 (.inr rfl) (by kernel_rfl) (resV_tmp s4_36) (.ro _ rfl) ?_
                                clear s4_36 mo2_15 mo1_15 mo0_15 ml_15
                                simp_all)
                           · skip
                             first
                             | (cases hq_33; done) | ((first | replace hq_33 := bnt hq_33 | replace hq_33 := bnf hq_33 | replace hq_33 := bt hq_33 | replace hq_33 := bf hq_33 | replace hq_33 := bt' hq_33 | replace hq_33 := bf' hq_33 | skip); exfalso; omega) | first | (simp at hq_33; done) | (exact absurd (by simpa using hq_33) hb)
                             | ((first | replace hq_33 := bnt hq_33 | replace hq_33 := bnf hq_33 | replace hq_33 := bt hq_33 | replace hq_33 := bf hq_33 | replace hq_33 := bt' hq_33 | replace hq_33 := bf' hq_33 | skip)
                                refine al_ro' (ro_move (up_m rfl (u2 rfl s7_24))) ⟨_, rfl, hb_33⟩ rfl ?_
                                refine al_ro' (ro_eq (ro_ld_ptr y28_ty26 rfl mo0_15 (u4 rfl s2_24) (by first | exact Nat.le_of_ble_eq_true rfl | omega | (simp only [lnS] <;> omega) | (simp <;> omega))) (by first | (simp only [packA_t, packA_f, iE, bE, setAt, cellsA, Value.cells, map_vc, map_vn, Nat.reduceAdd, qS] <;> rfl) | rfl)) ⟨_, rfl, (up_m rfl hb_33)⟩ rfl ?_
                                refine al_ro' (ro_call (evL_cons up_h evL_nil) rfl (rLengthOf_ok l hf hf) y28_hcf13) ⟨_, rfl, (u2 rfl hb_33)⟩ rfl ?_
                                refine al_ro' (ro_neq (u2 rfl up_h) up_h) ⟨_, rfl, (up_m rfl (u2 rfl hb_33))⟩ rfl ?_
                                refine al_ro' (ro_pickF (u4 rfl hb_33) up_h) trivial rfl ?_
                                refine al_end (fun e_37 he_37 => ?_)
                                have s1_37 := ef 1 he_37 (u8 rfl s1_24)
                                have s2_37 := ef 2 he_37 (u8 rfl s2_24)
                                have s9_37 := ef 9 he_37 (u8 rfl s9_24)
                                have s10_37 := ef 10 he_37 (u8 rfl s10_24)
                                have s75_37 := ef 75 he_37 up_h
                                clear he_37 hb_33 s10_24 s12_24 s1_24 s2_24 s51_24 s7_24 s8_24 s9_24
                                refine then_n ?_
                                refine aw_case s75_37 (fun hq_38 => ?_) (fun hq_38 => ?_)
                                · skip
                                  first
                                  | (cases hq_38; done) | ((first | replace hq_38 := bnt hq_38 | replace hq_38 := bnf hq_38 | replace hq_38 := bt hq_38 | replace hq_38 := bf hq_38 | replace hq_38 := bt' hq_38 | replace hq_38 := bf' hq_38 | skip); exfalso; omega) | first | (simp at hq_38; done) | (exact absurd (by simpa using hq_38) hb)
                                  | ((first | replace hq_38 := bnt hq_38 | replace hq_38 := bnf hq_38 | replace hq_38 := bt hq_38 | replace hq_38 := bf hq_38 | replace hq_38 := bt' hq_38 | replace hq_38 := bf' hq_38 | skip)
                                     refine aw_seq ?_
                                     refine aw_text (by kernel_rfl) ?_
                                     refine al_ro' (ro_assign ev_c) trivial rfl ?_
                                     refine al_end (fun e_39 he_39 => ?_)
                                     have s4_39 := ef 4 he_39 up_h
                                     clear he_39 s10_37 s1_37 s2_37 s75_37 s9_37
                                     refine then_n ?_
                                     refine aw_ret ?_
                                     refine then_r ?_
                                     refine ret1 (.inr rfl) (by kernel_rfl) (resV_tmp s4_39) (.ro _ rfl) ?_
                                     clear s4_39 mo2_15 mo1_15 mo0_15 ml_15
                                     simp_all)
                                · skip
                                  first
                                  | (cases hq_38; done) | ((first | replace hq_38 := bnt hq_38 | replace hq_38 := bnf hq_38 | replace hq_38 := bt hq_38 | replace hq_38 := bf hq_38 | replace hq_38 := bt' hq_38 | replace hq_38 := bf' hq_38 | skip); exfalso; omega) | first | (simp at hq_38; done) | (exact absurd (by simpa using hq_38) hb)
                                  | ((first | replace hq_38 := bnt hq_38 | replace hq_38 := bnf hq_38 | replace hq_38 := bt hq_38 | replace hq_38 := bf hq_38 | replace hq_38 := bt' hq_38 | replace hq_38 := bf' hq_38 | skip)
                                     refine aw_skip ?_
                                     refine then_n ?_
                                     refine aw_seq ?_
                                     refine aw_seq ?_
                                     refine aw_text (by kernel_rfl) ?_
                                     refine al_ro' (ro_eq (ro_ld_ptr y28_ty26 rfl mo0_15 s2_37 (by first | exact Nat.le_of_ble_eq_true rfl | omega | (simp only [lnS] <;> omega) | (simp <;> omega))) (by first | (simp only [packA_t, packA_f, iE, bE, setAt, cellsA, Value.cells, map_vc, map_vn, Nat.reduceAdd, qS] <;> rfl) | rfl)) trivial rfl ?_
                                     refine al_ro' (ro_move (up_m rfl s1_37)) trivial rfl ?_
                                     refine al_ro' (ro_call (evL_cons (up_m rfl up_h) (evL_cons up_h evL_nil)) rfl (jointErr_ok l hl j) y28_hcf14) trivial rfl ?_
                                     refine al_ro' (ro_assign up_h) trivial rfl ?_
                                     refine al_end (fun e_40 he_40 => ?_)
                                     have s1_40 := ef 1 he_40 (u4 rfl s1_37)
                                     have s2_40 := ef 2 he_40 (u4 rfl s2_37)
                                     have s9_40 := ef 9 he_40 (u4 rfl s9_37)
                                     have s10_40 := ef 10 he_40 (u4 rfl s10_37)
                                     have s12_40 := ef 12 he_40 up_h
                                     clear he_40 s10_37 s1_37 s2_37 s75_37 s9_37
                                     refine then_n ?_
                                     refine aw_seq ?_
                                     refine aw_text (by kernel_rfl) ?_
                                     refine al_ro' (ro_move s12_40) trivial rfl ?_
                                     refine al_ro' (ro_neq up_h ev_c) trivial rfl ?_
                                     refine al_end (fun e_41 he_41 => ?_)
                                     have s1_41 := ef 1 he_41 (u2 rfl s1_40)
                                     have s2_41 := ef 2 he_41 (u2 rfl s2_40)
                                     have s9_41 := ef 9 he_41 (u2 rfl s9_40)
                                     have s10_41 := ef 10 he_41 (u2 rfl s10_40)
                                     have s12_41 := ef 12 he_41 (u2 rfl s12_40)
                                     have s80_41 := ef 80 he_41 up_h
                                     clear he_41 s10_40 s12_40 s1_40 s2_40 s9_40
                                     refine then_n ?_
                                     refine aw_case s80_41 (fun hq_42 => ?_) (fun hq_42 => ?_)
                                     · skip
                                       first
                                       | (cases hq_42; done) | ((first | replace hq_42 := bnt hq_42 | replace hq_42 := bnf hq_42 | replace hq_42 := bt hq_42 | replace hq_42 := bf hq_42 | replace hq_42 := bt' hq_42 | replace hq_42 := bf' hq_42 | skip); exfalso; omega) | first | (simp at hq_42; done) | (exact absurd (by simpa using hq_42) hb)
                                       | ((first | replace hq_42 := bnt hq_42 | replace hq_42 := bnf hq_42 | replace hq_42 := bt hq_42 | replace hq_42 := bf hq_42 | replace hq_42 := bt' hq_42 | replace hq_42 := bf' hq_42 | skip)
                                          refine aw_seq ?_
                                          refine aw_text (by kernel_rfl) ?_
                                          refine al_ro' (ro_move s10_41) trivial rfl ?_
                                          refine al_ro' (ro_move (up_m rfl s12_41)) trivial rfl ?_
                                          refine al_ro' (ro_eql (up_m rfl up_h) up_h) trivial rfl ?_
                                          refine al_ro' (ro_move up_h) trivial rfl ?_
                                          refine al_case up_h (fun hb_43 hq_43 => ?_) (fun hb_43 hq_43 => ?_)
                                          · skip
                                            first
                                            | (cases hq_43; done) | ((first | replace hq_43 := bnt hq_43 | replace hq_43 := bnf hq_43 | replace hq_43 := bt hq_43 | replace hq_43 := bf hq_43 | replace hq_43 := bt' hq_43 | replace hq_43 := bf' hq_43 | skip); exfalso; omega) | first | (simp at hq_43; done) | (exact absurd (by simpa using hq_43) hb)
                                            | ((first | replace hq_43 := bnt hq_43 | replace hq_43 := bnf hq_43 | replace hq_43 := bt hq_43 | replace hq_43 := bf hq_43 | replace hq_43 := bt' hq_43 | replace hq_43 := bf' hq_43 | skip)
                                               refine al_ro' (ro_move (u4 rfl s9_41)) ⟨_, rfl, hb_43⟩ rfl ?_
                                               refine al_ro' (ro_eql up_h ev_c) ⟨_, rfl, (up_m rfl hb_43)⟩ rfl ?_
                                               refine al_ro' (ro_pickT (u2 rfl hb_43) up_h) trivial rfl ?_
                                               refine al_ro' (ro_assign up_h) trivial rfl ?_
                                               refine al_end (fun e_44 he_44 => ?_)
                                               have s4_44 := ef 4 he_44 up_h
                                               clear he_44 hb_43 s10_41 s12_41 s1_41 s2_41 s80_41 s9_41
                                               refine then_n ?_
                                               refine aw_ret ?_
                                               refine then_r ?_
                                               refine ret1 (.inr rfl) (by kernel_rfl) (resV_tmp s4_44) (.ro _ rfl) ?_
                                               clear s4_44 mo2_15 mo1_15 mo0_15 ml_15
                                               simp_all)
                                          · skip
                                            first
                                            | (cases hq_43; done) | ((first | replace hq_43 := bnt hq_43 | replace hq_43 := bnf hq_43 | replace hq_43 := bt hq_43 | replace hq_43 := bf hq_43 | replace hq_43 := bt' hq_43 | replace hq_43 := bf' hq_43 | skip); exfalso; omega) | first | (simp at hq_43; done) | (exact absurd (by simpa using hq_43) hb)
                                            | ((first | replace hq_43 := bnt hq_43 | replace hq_43 := bnf hq_43 | replace hq_43 := bt hq_43 | replace hq_43 := bf hq_43 | replace hq_43 := bt' hq_43 | replace hq_43 := bf' hq_43 | skip)
                                               refine al_skip' ⟨_, rfl, .inl hb_43⟩ rfl ?_
                                               refine al_skip' ⟨_, rfl, .inl (up_m rfl hb_43)⟩ rfl ?_
                                               refine al_ro' (ro_pickF (u2 rfl hb_43) ev_c) trivial rfl ?_
                                               refine al_ro' (ro_assign up_h) trivial rfl ?_
                                               refine al_end (fun e_45 he_45 => ?_)
                                               have s4_45 := ef 4 he_45 up_h
                                               clear he_45 hb_43 s10_41 s12_41 s1_41 s2_41 s80_41 s9_41
                                               refine then_n ?_
                                               refine aw_ret ?_
                                               refine then_r ?_
                                               refine ret1 (.inr rfl) (by kernel_rfl) (resV_tmp s4_45) (.ro _ rfl) ?_
                                               clear s4_45 mo2_15 mo1_15 mo0_15 ml_15
                                               simp_all))
                                     · skip
                                       first
                                       | (cases hq_42; done) | ((first | replace hq_42 := bnt hq_42 | replace hq_42 := bnf hq_42 | replace hq_42 := bt hq_42 | replace hq_42 := bf hq_42 | replace hq_42 := bt' hq_42 | replace hq_42 := bf' hq_42 | skip); exfalso; omega) | first | (simp at hq_42; done) | (exact absurd (by simpa using hq_42) hb)
                                       | ((first | replace hq_42 := bnt hq_42 | replace hq_42 := bnf hq_42 | replace hq_42 := bt hq_42 | replace hq_42 := bf hq_42 | replace hq_42 := bt' hq_42 | replace hq_42 := bf' hq_42 | skip)
                                          refine aw_skip ?_
                                          refine then_n ?_
                                          refine aw_seq ?_
                                          refine aw_text (by kernel_rfl) ?_
                                          refine al_ro' (ro_move s10_41) trivial rfl ?_
                                          refine al_ro' (ro_eql up_h ev_c) trivial rfl ?_
                                          refine al_ro' (ro_move up_h) trivial rfl ?_
                                          refine al_case up_h (fun hb_46 hq_46 => ?_) (fun hb_46 hq_46 => ?_)
                                          · skip
                                            first
                                            | (cases hq_46; done) | ((first | replace hq_46 := bnt hq_46 | replace hq_46 := bnf hq_46 | replace hq_46 := bt hq_46 | replace hq_46 := bf hq_46 | replace hq_46 := bt' hq_46 | replace hq_46 := bf' hq_46 | skip); exfalso; omega) | first | (simp at hq_46; done) | (exact absurd (by simpa using hq_46) hb)
                                            | ((first | replace hq_46 := bnt hq_46 | replace hq_46 := bnf hq_46 | replace hq_46 := bt hq_46 | replace hq_46 := bf hq_46 | replace hq_46 := bt' hq_46 | replace hq_46 := bf' hq_46 | skip)
                                               refine al_ro' (ro_move (up_m rfl (u2 rfl s9_41))) ⟨_, rfl, hb_46⟩ rfl ?_
                                               refine al_ro' (ro_eq (ro_ld_ptr y28_ty26 rfl mo0_15 (u4 rfl s2_41) (by first | exact Nat.le_of_ble_eq_true rfl | omega | (simp only [lnS] <;> omega) | (simp <;> omega))) (by first | (simp only [packA_t, packA_f, iE, bE, setAt, cellsA, Value.cells, map_vc, map_vn, Nat.reduceAdd, qS] <;> rfl) | rfl)) ⟨_, rfl, (up_m rfl hb_46)⟩ rfl ?_
                                               refine al_ro' (ro_move (up_m rfl (u4 rfl s1_41))) ⟨_, rfl, (u2 rfl hb_46)⟩ rfl ?_
                                               refine al_ro' (ro_call (evL_cons (up_m rfl up_h) (evL_cons up_h evL_nil)) rfl (rPlaceOf_ok l hf hf j hf) y28_hcf15) ⟨_, rfl, (up_m rfl (u2 rfl hb_46))⟩ rfl ?_
                                               refine al_ro' (ro_eql (up_m rfl (u2 rfl up_h)) up_h) ⟨_, rfl, (u4 rfl hb_46)⟩ rfl ?_
                                               refine al_ro' (ro_pickT (up_m rfl (u4 rfl hb_46)) up_h) trivial rfl ?_
                                               refine al_ro' (ro_assign up_h) trivial rfl ?_
                                               refine al_end (fun e_47 he_47 => ?_)
                                               have s4_47 := ef 4 he_47 up_h
                                               clear he_47 hb_46 s10_41 s12_41 s1_41 s2_41 s80_41 s9_41
                                               refine then_n ?_
                                               refine aw_ret ?_
                                               refine ret1 (.inr rfl) (by kernel_rfl) (resV_tmp s4_47) (.ro _ rfl) ?_
                                               clear s4_47 mo2_15 mo1_15 mo0_15 ml_15
                                               simp_all)
                                          · skip
                                            first
                                            | (cases hq_46; done) | ((first | replace hq_46 := bnt hq_46 | replace hq_46 := bnf hq_46 | replace hq_46 := bt hq_46 | replace hq_46 := bf hq_46 | replace hq_46 := bt' hq_46 | replace hq_46 := bf' hq_46 | skip); exfalso; omega) | first | (simp at hq_46; done) | (exact absurd (by simpa using hq_46) hb)
                                            | ((first | replace hq_46 := bnt hq_46 | replace hq_46 := bnf hq_46 | replace hq_46 := bt hq_46 | replace hq_46 := bf hq_46 | replace hq_46 := bt' hq_46 | replace hq_46 := bf' hq_46 | skip)
                                               refine al_skip' ⟨_, rfl, .inl hb_46⟩ rfl ?_
                                               refine al_skip' ⟨_, rfl, .inl (up_m rfl hb_46)⟩ rfl ?_
                                               refine al_skip' ⟨_, rfl, .inl (u2 rfl hb_46)⟩ rfl ?_
                                               refine al_skip' ⟨_, rfl, .inl (up_m rfl (u2 rfl hb_46))⟩ rfl ?_
                                               refine al_skip' ⟨_, rfl, .inl (u4 rfl hb_46)⟩ rfl ?_
                                               refine al_ro' (ro_pickF (up_m rfl (u4 rfl hb_46)) ev_c) trivial rfl ?_
                                               refine al_ro' (ro_assign up_h) trivial rfl ?_
                                               refine al_end (fun e_48 he_48 => ?_)
                                               have s4_48 := ef 4 he_48 up_h
                                               clear he_48 hb_46 s10_41 s12_41 s1_41 s2_41 s80_41 s9_41
                                               refine then_n ?_
                                               refine aw_ret ?_
                                               refine ret1 (.inr rfl) (by kernel_rfl) (resV_tmp s4_48) (.ro _ rfl) ?_
                                               clear s4_48 mo2_15 mo1_15 mo0_15 ml_15
                                               simp_all)))))))))
set_option maxRecDepth 100000 in
set_option maxHeartbeats 4000000 in
theorem lineLines_good (l : Lin) (hf : fewL l = true) (hg : (linM l).2 = 0) (j : Int) : FnOk Try.prog 3 [lnA l, mA j] (fun q => q = tbA true) := by
  refine fnOk_of (fn := Try.f3) 97 (by kernel_rfl) rfl (by kernel_rfl) (Nat.le_of_ble_eq_true rfl) ?_
  intro e_0 m_0 hA hm_0
  have s0_0 : evA e_0 (.tmp 0) = _ := hA 0 _ rfl
  have s1_0 : evA e_0 (.tmp 1) = _ := hA 1 _ rfl
  have ml_0 : m_0.length = 0 := by rw [hm_0]; rfl
  clear hA hm_0
  have hl := fewL_sho hf; have hr := rgt_of hg; have hn1 := hr.n1; have hjs := hr.js
  refine aw_seq ?_
  refine aw_text (by kernel_rfl) ?_
  refine al_stm (st_box s0_0 rfl ml_0) trivial rfl (fun m_1 hm_1 => ?_)
  have mo0_1 := m_push hm_1 ml_0
  (try simp only [packA_t, packA_f, iE, bE, setAt, cellsA, Value.cells, map_vc, map_vn, Nat.reduceAdd, qS] at mo0_1)
  have ml_1 := m_push_l hm_1 ml_0
  have ml_1 : _ = 1 := ml_1
  clear hm_1
  refine al_ro' (ro_assign ev_c) trivial rfl ?_
  refine al_end (fun e_2 he_2 => ?_)
  have s1_2 := ef 1 he_2 (u2 rfl s1_0)
  have s2_2 := ef 2 he_2 (up_m rfl up_h)
  clear he_2 s0_0 s1_0
  refine then_n ?_
  refine aw_seq ?_
  refine aw_seq ?_
  refine aw_text (by kernel_rfl) ?_
  refine al_ro' (ro_call evL_nil rfl (awake_ok) y28_hcf6) trivial rfl ?_
  refine al_ro' (ro_not up_h) trivial rfl ?_
  refine al_end (fun e_3 he_3 => ?_)
  have s1_3 := ef 1 he_3 (u2 rfl s1_2)
  have s2_3 := ef 2 he_3 (u2 rfl s2_2)
  have s14_3 := ef 14 he_3 up_h
  clear he_3 s1_2 s2_2
  refine then_n ?_
  refine aw_case s14_3 (fun hq_4 => ?_) (fun hq_4 => ?_)
  · skip
    first
    | (cases hq_4; done) | ((first | replace hq_4 := bnt hq_4 | replace hq_4 := bnf hq_4 | replace hq_4 := bt hq_4 | replace hq_4 := bf hq_4 | replace hq_4 := bt' hq_4 | replace hq_4 := bf' hq_4 | skip); exfalso; omega) | first | (simp at hq_4; done) | (exact absurd hg (by simpa using hq_4))
    | ((first | replace hq_4 := bnt hq_4 | replace hq_4 := bnf hq_4 | replace hq_4 := bt hq_4 | replace hq_4 := bf hq_4 | replace hq_4 := bt' hq_4 | replace hq_4 := bf' hq_4 | skip)
       refine aw_seq ?_
       refine aw_text (by kernel_rfl) ?_
       refine al_ro' (ro_assign ev_c) trivial rfl ?_
       refine al_end (fun e_5 he_5 => ?_)
       have s4_5 := ef 4 he_5 up_h
       clear he_5 s14_3 s1_3 s2_3
       refine then_n ?_
       refine aw_ret ?_
       refine then_r ?_
       refine ret1 (.inr rfl) (by kernel_rfl) (resV_tmp s4_5) (.ro _ rfl) ?_
       clear s4_5 mo0_1 ml_1
       simp_all)
  · skip
    first
    | (cases hq_4; done) | ((first | replace hq_4 := bnt hq_4 | replace hq_4 := bnf hq_4 | replace hq_4 := bt hq_4 | replace hq_4 := bf hq_4 | replace hq_4 := bt' hq_4 | replace hq_4 := bf' hq_4 | skip); exfalso; omega) | first | (simp at hq_4; done) | (exact absurd hg (by simpa using hq_4))
    | ((first | replace hq_4 := bnt hq_4 | replace hq_4 := bnf hq_4 | replace hq_4 := bt hq_4 | replace hq_4 := bf hq_4 | replace hq_4 := bt' hq_4 | replace hq_4 := bf' hq_4 | skip)
       refine aw_skip ?_
       refine then_n ?_
       refine aw_seq ?_
       refine aw_seq ?_
       refine aw_text (by kernel_rfl) ?_
       refine al_ro' (ro_eq (ro_ld_ptr y28_ty26 rfl mo0_1 s2_3 (by first | exact Nat.le_of_ble_eq_true rfl | omega | (simp only [lnS] <;> omega) | (simp <;> omega))) (by first | (simp only [packA_t, packA_f, iE, bE, setAt, cellsA, Value.cells, map_vc, map_vn, Nat.reduceAdd, qS] <;> rfl) | rfl)) trivial rfl ?_
       refine al_ro' (ro_call (evL_cons up_h evL_nil) rfl ((fewL_ok l).mono (fun q h => h.trans (by rw [hf]))) y28_hcf7) trivial rfl ?_
       refine al_ro' (ro_not up_h) trivial rfl ?_
       refine al_end (fun e_6 he_6 => ?_)
       have s1_6 := ef 1 he_6 (up_m rfl (u2 rfl s1_3))
       have s2_6 := ef 2 he_6 (up_m rfl (u2 rfl s2_3))
       have s17_6 := ef 17 he_6 up_h
       clear he_6 s14_3 s1_3 s2_3
       refine then_n ?_
       refine aw_case s17_6 (fun hq_7 => ?_) (fun hq_7 => ?_)
       · skip
         first
         | (cases hq_7; done) | ((first | replace hq_7 := bnt hq_7 | replace hq_7 := bnf hq_7 | replace hq_7 := bt hq_7 | replace hq_7 := bf hq_7 | replace hq_7 := bt' hq_7 | replace hq_7 := bf' hq_7 | skip); exfalso; omega) | first | (simp at hq_7; done) | (exact absurd hg (by simpa using hq_7))
         | ((first | replace hq_7 := bnt hq_7 | replace hq_7 := bnf hq_7 | replace hq_7 := bt hq_7 | replace hq_7 := bf hq_7 | replace hq_7 := bt' hq_7 | replace hq_7 := bf' hq_7 | skip)
            refine aw_seq ?_
            refine aw_text (by kernel_rfl) ?_
            refine al_ro' (ro_assign ev_c) trivial rfl ?_
            refine al_end (fun e_8 he_8 => ?_)
            have s4_8 := ef 4 he_8 up_h
            clear he_8 s17_6 s1_6 s2_6
            refine then_n ?_
            refine aw_ret ?_
            refine then_r ?_
            refine ret1 (.inr rfl) (by kernel_rfl) (resV_tmp s4_8) (.ro _ rfl) ?_
            clear s4_8 mo0_1 ml_1
            simp_all)
       · skip
         first
         | (cases hq_7; done) | ((first | replace hq_7 := bnt hq_7 | replace hq_7 := bnf hq_7 | replace hq_7 := bt hq_7 | replace hq_7 := bf hq_7 | replace hq_7 := bt' hq_7 | replace hq_7 := bf' hq_7 | skip); exfalso; omega) | first | (simp at hq_7; done) | (exact absurd hg (by simpa using hq_7))
         | ((first | replace hq_7 := bnt hq_7 | replace hq_7 := bnf hq_7 | replace hq_7 := bt hq_7 | replace hq_7 := bf hq_7 | replace hq_7 := bt' hq_7 | replace hq_7 := bf' hq_7 | skip)
            refine aw_skip ?_
            refine then_n ?_
            refine aw_seq ?_
            refine aw_text (by kernel_rfl) ?_
            refine al_ro' (ro_eq (ro_ld_ptr y28_ty26 rfl mo0_1 s2_6 (by first | exact Nat.le_of_ble_eq_true rfl | omega | (simp only [lnS] <;> omega) | (simp <;> omega))) (by first | (simp only [packA_t, packA_f, iE, bE, setAt, cellsA, Value.cells, map_vc, map_vn, Nat.reduceAdd, qS] <;> rfl) | rfl)) trivial rfl ?_
            refine al_ro' (ro_call (evL_cons up_h evL_nil) rfl (yCopy_ok l hl) y28_hcf9) trivial rfl ?_
            refine al_ro' (ro_call (evL_cons up_h evL_nil) rfl (yCheckLine_ok l hl) y28_hcf8) trivial rfl ?_
            refine al_ro' (ro_move up_h) trivial rfl ?_
            refine al_ro' (ro_extract up_h rfl) trivial rfl ?_
            refine al_ro' (ro_extract (up_m rfl up_h) rfl) trivial rfl ?_
            refine al_stm (st_alloc y28_az30 rfl ml_1) trivial rfl (fun m_9 hm_9 => ?_)
            have mo1_9 := m_push hm_9 ml_1
            (try simp only [packA_t, packA_f, iE, bE, setAt, cellsA, Value.cells, map_vc, map_vn, Nat.reduceAdd, qS] at mo1_9)
            have mo0_9 := m_push_o hm_9 mo0_1
            have ml_9 := m_push_l hm_9 ml_1
            have ml_9 : _ = 2 := ml_9
            clear hm_9 mo0_1
            refine al_stm (st_store up_h (u2 rfl up_h) rfl rfl mo1_9 y28_sz30 rfl (by first | exact Nat.le_of_ble_eq_true rfl | omega | (simp only [lnS] <;> omega) | (simp <;> omega))) trivial rfl (fun m_10 hm_10 => ?_)
            have mo1_10 := m_set hm_10 mo1_9
            (try simp only [packA_t, packA_f, iE, bE, setAt, cellsA, Value.cells, map_vc, map_vn, Nat.reduceAdd, qS] at mo1_10)
            have mo0_10 := m_set_o hm_10 mo0_9 (by decide)
            have ml_10 := m_set_l hm_10 ml_9
            clear hm_10 mo1_9 mo0_9
            refine al_ro' (ro_assign (up_n (up_m rfl up_h))) trivial rfl ?_
            refine al_end (fun e_11 he_11 => ?_)
            have s1_11 := ef 1 he_11 (up_m rfl (up_n (up_m rfl (u2 rfl (u4 rfl s1_6)))))
            have s2_11 := ef 2 he_11 (up_m rfl (up_n (up_m rfl (u2 rfl (u4 rfl s2_6)))))
            have s5_11 := ef 5 he_11 (up_m rfl (up_n up_h))
            have s6_11 := ef 6 he_11 up_h
            clear he_11 s17_6 s1_6 s2_6
            refine then_n ?_
            refine aw_seq ?_
            refine aw_text (by kernel_rfl) ?_
            refine al_ro' (ro_eq (ro_ld_ptr y28_ty26 rfl mo0_10 s2_11 (by first | exact Nat.le_of_ble_eq_true rfl | omega | (simp only [lnS] <;> omega) | (simp <;> omega))) (by first | (simp only [packA_t, packA_f, iE, bE, setAt, cellsA, Value.cells, map_vc, map_vn, Nat.reduceAdd, qS] <;> rfl) | rfl)) trivial rfl ?_
            refine al_ro' (ro_call (evL_cons up_h evL_nil) rfl (yCopy_ok l hl) y28_hcf9) trivial rfl ?_
            refine al_ro' (ro_call (evL_cons up_h evL_nil) rfl (lengthOf_good l hl hg) y28_hcf10) trivial rfl ?_
            refine al_ro' (ro_move up_h) trivial rfl ?_
            refine al_ro' (ro_extract up_h rfl) trivial rfl ?_
            refine al_ro' (ro_extract (up_m rfl up_h) rfl) trivial rfl ?_
            refine al_ro' (ro_assign (up_m rfl up_h)) trivial rfl ?_
            refine al_ro' (ro_assign (up_m rfl up_h)) trivial rfl ?_
            refine al_end (fun e_12 he_12 => ?_)
            have s1_12 := ef 1 he_12 (u8 rfl s1_11)
            have s2_12 := ef 2 he_12 (u8 rfl s2_11)
            have s5_12 := ef 5 he_12 (u8 rfl s5_11)
            have s6_12 := ef 6 he_12 (u8 rfl s6_11)
            have s7_12 := ef 7 he_12 (up_m rfl up_h)
            have s8_12 := ef 8 he_12 up_h
            clear he_12 s1_11 s2_11 s5_11 s6_11
            refine then_n ?_
            refine aw_seq ?_
            refine aw_text (by kernel_rfl) ?_
            refine al_ro' (ro_eq (ro_ld_ptr y28_ty26 rfl mo0_10 s2_12 (by first | exact Nat.le_of_ble_eq_true rfl | omega | (simp only [lnS] <;> omega) | (simp <;> omega))) (by first | (simp only [packA_t, packA_f, iE, bE, setAt, cellsA, Value.cells, map_vc, map_vn, Nat.reduceAdd, qS] <;> rfl) | rfl)) trivial rfl ?_
            refine al_ro' (ro_call (evL_cons up_h evL_nil) rfl (yCopy_ok l hl) y28_hcf9) trivial rfl ?_
            refine al_ro' (ro_move (u2 rfl s1_12)) trivial rfl ?_
            refine al_ro' (ro_call (evL_cons (up_m rfl up_h) (evL_cons up_h evL_nil)) rfl (placeOf_good l hl hg j) y28_hcf11) trivial rfl ?_
            refine al_ro' (ro_move up_h) trivial rfl ?_
            refine al_ro' (ro_extract up_h rfl) trivial rfl ?_
            refine al_ro' (ro_extract (up_m rfl up_h) rfl) trivial rfl ?_
            refine al_ro' (ro_assign (up_m rfl up_h)) trivial rfl ?_
            refine al_ro' (ro_assign (up_m rfl up_h)) trivial rfl ?_
            refine al_end (fun e_13 he_13 => ?_)
            have s1_13 := ef 1 he_13 (up_m rfl (u8 rfl s1_12))
            have s2_13 := ef 2 he_13 (up_m rfl (u8 rfl s2_12))
            have s5_13 := ef 5 he_13 (up_m rfl (u8 rfl s5_12))
            have s6_13 := ef 6 he_13 (up_m rfl (u8 rfl s6_12))
            have s7_13 := ef 7 he_13 (up_m rfl (u8 rfl s7_12))
            have s8_13 := ef 8 he_13 (up_m rfl (u8 rfl s8_12))
            have s9_13 := ef 9 he_13 (up_m rfl up_h)
            have s10_13 := ef 10 he_13 up_h
            clear he_13 s1_12 s2_12 s5_12 s6_12 s7_12 s8_12
            refine then_n ?_
            refine aw_seq ?_
            refine aw_text (by kernel_rfl) ?_
            refine al_ro' (ro_eq (ro_ld_ptr y28_ty26 rfl mo0_10 s2_13 (by first | exact Nat.le_of_ble_eq_true rfl | omega | (simp only [lnS] <;> omega) | (simp <;> omega))) (by first | (simp only [packA_t, packA_f, iE, bE, setAt, cellsA, Value.cells, map_vc, map_vn, Nat.reduceAdd, qS] <;> rfl) | rfl)) trivial rfl ?_
            refine al_ro' (ro_call (evL_cons up_h evL_nil) rfl (rCheckLine_ok l hl) y28_hcf12) trivial rfl ?_
            refine al_ro' (ro_move up_h) trivial rfl ?_
            refine al_ro' (ro_extract up_h rfl) trivial rfl ?_
            refine al_ro' (ro_extract (up_m rfl up_h) rfl) trivial rfl ?_
            refine al_stm (st_alloc y28_az30 rfl ml_10) trivial rfl (fun m_14 hm_14 => ?_)
            have mo2_14 := m_push hm_14 ml_10
            (try simp only [packA_t, packA_f, iE, bE, setAt, cellsA, Value.cells, map_vc, map_vn, Nat.reduceAdd, qS] at mo2_14)
            have mo1_14 := m_push_o hm_14 mo1_10
            have mo0_14 := m_push_o hm_14 mo0_10
            have ml_14 := m_push_l hm_14 ml_10
            have ml_14 : _ = 3 := ml_14
            clear hm_14 mo1_10 mo0_10
            refine al_stm (st_store up_h (u2 rfl up_h) rfl rfl mo2_14 y28_sz30 rfl (by first | exact Nat.le_of_ble_eq_true rfl | omega | (simp only [lnS] <;> omega) | (simp <;> omega))) trivial rfl (fun m_15 hm_15 => ?_)
            have mo2_15 := m_set hm_15 mo2_14
            (try simp only [packA_t, packA_f, iE, bE, setAt, cellsA, Value.cells, map_vc, map_vn, Nat.reduceAdd, qS] at mo2_15)
            have mo1_15 := m_set_o hm_15 mo1_14 (by decide)
            have mo0_15 := m_set_o hm_15 mo0_14 (by decide)
            have ml_15 := m_set_l hm_15 ml_14
            clear hm_15 mo2_14 mo1_14 mo0_14
            refine al_ro' (ro_assign (up_n (up_m rfl up_h))) trivial rfl ?_
            refine al_end (fun e_16 he_16 => ?_)
            have s1_16 := ef 1 he_16 (up_m rfl (up_n (u2 rfl (u4 rfl s1_13))))
            have s2_16 := ef 2 he_16 (up_m rfl (up_n (u2 rfl (u4 rfl s2_13))))
            have s5_16 := ef 5 he_16 (up_m rfl (up_n (u2 rfl (u4 rfl s5_13))))
            have s6_16 := ef 6 he_16 (up_m rfl (up_n (u2 rfl (u4 rfl s6_13))))
            have s7_16 := ef 7 he_16 (up_m rfl (up_n (u2 rfl (u4 rfl s7_13))))
            have s8_16 := ef 8 he_16 (up_m rfl (up_n (u2 rfl (u4 rfl s8_13))))
            have s9_16 := ef 9 he_16 (up_m rfl (up_n (u2 rfl (u4 rfl s9_13))))
            have s10_16 := ef 10 he_16 (up_m rfl (up_n (u2 rfl (u4 rfl s10_13))))
            have s11_16 := ef 11 he_16 (up_m rfl (up_n up_h))
            have s12_16 := ef 12 he_16 up_h
            clear he_16 s10_13 s1_13 s2_13 s5_13 s6_13 s7_13 s8_13 s9_13
            refine then_n ?_
            refine aw_seq ?_
            refine aw_seq ?_
            refine aw_text (by kernel_rfl) ?_
            refine al_ro' (ro_move s6_16) trivial rfl ?_
            refine al_ro' (ro_move (up_m rfl s12_16)) trivial rfl ?_
            refine al_ro' (ro_neq (up_m rfl up_h) up_h) trivial rfl ?_
            refine al_ro' (ro_move up_h) trivial rfl ?_
            refine al_case up_h (fun hb_17 hq_17 => ?_) (fun hb_17 hq_17 => ?_)
            · skip
              first
              | (cases hq_17; done) | ((first | replace hq_17 := bnt hq_17 | replace hq_17 := bnf hq_17 | replace hq_17 := bt hq_17 | replace hq_17 := bf hq_17 | replace hq_17 := bt' hq_17 | replace hq_17 := bf' hq_17 | skip); exfalso; omega) | first | (simp at hq_17; done) | (exact absurd hg (by simpa using hq_17))
              | ((first | replace hq_17 := bnt hq_17 | replace hq_17 := bnf hq_17 | replace hq_17 := bt hq_17 | replace hq_17 := bf hq_17 | replace hq_17 := bt' hq_17 | replace hq_17 := bf' hq_17 | skip)
                 refine al_skip' ⟨_, rfl, .inl hb_17⟩ rfl ?_
                 refine al_skip' ⟨_, rfl, .inl (up_m rfl hb_17)⟩ rfl ?_
                 refine al_skip' ⟨_, rfl, .inl (u2 rfl hb_17)⟩ rfl ?_
                 refine al_ro' (ro_pickT (up_m rfl (u2 rfl hb_17)) ev_c) trivial rfl ?_
                 refine al_end (fun e_18 he_18 => ?_)
                 have s1_18 := ef 1 he_18 (u8 rfl s1_16)
                 have s2_18 := ef 2 he_18 (u8 rfl s2_16)
                 have s7_18 := ef 7 he_18 (u8 rfl s7_16)
                 have s8_18 := ef 8 he_18 (u8 rfl s8_16)
                 have s9_18 := ef 9 he_18 (u8 rfl s9_16)
                 have s10_18 := ef 10 he_18 (u8 rfl s10_16)
                 have s12_18 := ef 12 he_18 (u8 rfl s12_16)
                 have s49_18 := ef 49 he_18 up_h
                 clear he_18 hb_17 s10_16 s11_16 s12_16 s1_16 s2_16 s5_16 s6_16 s7_16 s8_16 s9_16
                 refine then_n ?_
                 refine aw_true s49_18 ?_
                 refine aw_seq ?_
                 refine aw_text (by kernel_rfl) ?_
                 refine al_ro' (ro_assign ev_c) trivial rfl ?_
                 refine al_end (fun e_20 he_20 => ?_)
                 have s4_20 := ef 4 he_20 up_h
                 clear he_20 s10_18 s12_18 s1_18 s2_18 s49_18 s7_18 s8_18 s9_18
                 refine then_n ?_
                 refine aw_ret ?_
                 refine then_r ?_
                 refine ret1 (.inr rfl) (by kernel_rfl) (resV_tmp s4_20) (.ro _ rfl) ?_
                 clear s4_20 mo2_15 mo1_15 mo0_15 ml_15
                 simp_all)
            · skip
              first
              | (cases hq_17; done) | ((first | replace hq_17 := bnt hq_17 | replace hq_17 := bnf hq_17 | replace hq_17 := bt hq_17 | replace hq_17 := bf hq_17 | replace hq_17 := bt' hq_17 | replace hq_17 := bf' hq_17 | skip); exfalso; omega) | first | (simp at hq_17; done) | (exact absurd hg (by simpa using hq_17))
              | ((first | replace hq_17 := bnt hq_17 | replace hq_17 := bnf hq_17 | replace hq_17 := bt hq_17 | replace hq_17 := bf hq_17 | replace hq_17 := bt' hq_17 | replace hq_17 := bf' hq_17 | skip)
                 refine al_ro' (ro_eq (ro_ld_ptr y28_ty30 rfl mo1_15 (u4 rfl s5_16) (by first | exact Nat.le_of_ble_eq_true rfl | omega | (simp only [lnS] <;> omega) | (simp <;> omega))) (by first | (simp only [packA_t, packA_f, iE, bE, setAt, cellsA, Value.cells, map_vc, map_vn, Nat.reduceAdd, qS] <;> rfl) | rfl)) ⟨_, rfl, hb_17⟩ rfl ?_
                 refine al_ro' (ro_eq (ro_ld_ptr y28_ty30 rfl mo2_15 (up_m rfl (u4 rfl s11_16)) (by first | exact Nat.le_of_ble_eq_true rfl | omega | (simp only [lnS] <;> omega) | (simp <;> omega))) (by first | (simp only [packA_t, packA_f, iE, bE, setAt, cellsA, Value.cells, map_vc, map_vn, Nat.reduceAdd, qS] <;> rfl) | rfl)) ⟨_, rfl, (up_m rfl hb_17)⟩ rfl ?_
                 refine al_ro' (ro_sqneq (up_m rfl up_h) up_h rfl rfl y28_gq30 y28_sq30 (by decide)) ⟨_, rfl, (u2 rfl hb_17)⟩ rfl ?_
                 refine al_ro' (ro_pickF (up_m rfl (u2 rfl hb_17)) up_h) trivial rfl ?_
                 refine al_end (fun e_21 he_21 => ?_)
                 have s1_21 := ef 1 he_21 (u8 rfl s1_16)
                 have s2_21 := ef 2 he_21 (u8 rfl s2_16)
                 have s7_21 := ef 7 he_21 (u8 rfl s7_16)
                 have s8_21 := ef 8 he_21 (u8 rfl s8_16)
                 have s9_21 := ef 9 he_21 (u8 rfl s9_16)
                 have s10_21 := ef 10 he_21 (u8 rfl s10_16)
                 have s12_21 := ef 12 he_21 (u8 rfl s12_16)
                 have s49_21 := ef 49 he_21 up_h
                 clear he_21 hb_17 s10_16 s11_16 s12_16 s1_16 s2_16 s5_16 s6_16 s7_16 s8_16 s9_16
                 refine then_n ?_
                 refine aw_case s49_21 (fun hq_22 => ?_) (fun hq_22 => ?_)
                 · skip
                   first
                   | (cases hq_22; done) | ((first | replace hq_22 := bnt hq_22 | replace hq_22 := bnf hq_22 | replace hq_22 := bt hq_22 | replace hq_22 := bf hq_22 | replace hq_22 := bt' hq_22 | replace hq_22 := bf' hq_22 | skip); exfalso; omega) | first | (simp at hq_22; done) | (exact absurd hg (by simpa using hq_22))
                   | ((first | replace hq_22 := bnt hq_22 | replace hq_22 := bnf hq_22 | replace hq_22 := bt hq_22 | replace hq_22 := bf hq_22 | replace hq_22 := bt' hq_22 | replace hq_22 := bf' hq_22 | skip)
                      refine aw_seq ?_
                      refine aw_text (by kernel_rfl) ?_
                      refine al_ro' (ro_assign ev_c) trivial rfl ?_
                      refine al_end (fun e_23 he_23 => ?_)
                      have s4_23 := ef 4 he_23 up_h
                      clear he_23 s10_21 s12_21 s1_21 s2_21 s49_21 s7_21 s8_21 s9_21
                      refine then_n ?_
                      refine aw_ret ?_
                      refine then_r ?_
                      refine ret1 (.inr rfl) (by kernel_rfl) (resV_tmp s4_23) (.ro _ rfl) ?_
                      clear s4_23 mo2_15 mo1_15 mo0_15 ml_15
                      simp_all)
                 · skip
                   first
                   | (cases hq_22; done) | ((first | replace hq_22 := bnt hq_22 | replace hq_22 := bnf hq_22 | replace hq_22 := bt hq_22 | replace hq_22 := bf hq_22 | replace hq_22 := bt' hq_22 | replace hq_22 := bf' hq_22 | skip); exfalso; omega) | first | (simp at hq_22; done) | (exact absurd hg (by simpa using hq_22))
                   | ((first | replace hq_22 := bnt hq_22 | replace hq_22 := bnf hq_22 | replace hq_22 := bt hq_22 | replace hq_22 := bf hq_22 | replace hq_22 := bt' hq_22 | replace hq_22 := bf' hq_22 | skip)
                      refine aw_skip ?_
                      refine then_n ?_
                      refine aw_seq ?_
                      refine aw_seq ?_
                      refine aw_text (by kernel_rfl) ?_
                      refine al_ro' (ro_move s12_21) trivial rfl ?_
                      refine al_ro' (ro_neq up_h ev_c) trivial rfl ?_
                      refine al_end (fun e_24 he_24 => ?_)
                      have s1_24 := ef 1 he_24 (u2 rfl s1_21)
                      have s2_24 := ef 2 he_24 (u2 rfl s2_21)
                      have s7_24 := ef 7 he_24 (u2 rfl s7_21)
                      have s8_24 := ef 8 he_24 (u2 rfl s8_21)
                      have s9_24 := ef 9 he_24 (u2 rfl s9_21)
                      have s10_24 := ef 10 he_24 (u2 rfl s10_21)
                      have s12_24 := ef 12 he_24 (u2 rfl s12_21)
                      have s51_24 := ef 51 he_24 up_h
                      clear he_24 s10_21 s12_21 s1_21 s2_21 s49_21 s7_21 s8_21 s9_21
                      refine then_n ?_
                      refine aw_case s51_24 (fun hq_25 => ?_) (fun hq_25 => ?_)
                      · skip
                        first
                        | (cases hq_25; done) | ((first | replace hq_25 := bnt hq_25 | replace hq_25 := bnf hq_25 | replace hq_25 := bt hq_25 | replace hq_25 := bf hq_25 | replace hq_25 := bt' hq_25 | replace hq_25 := bf' hq_25 | skip); exfalso; omega) | first | (simp at hq_25; done) | (exact absurd hg (by simpa using hq_25))
                        | ((first | replace hq_25 := bnt hq_25 | replace hq_25 := bnf hq_25 | replace hq_25 := bt hq_25 | replace hq_25 := bf hq_25 | replace hq_25 := bt' hq_25 | replace hq_25 := bf' hq_25 | skip)
                           refine aw_seq ?_
                           refine aw_text (by kernel_rfl) ?_
                           refine al_ro' (ro_move s8_24) trivial rfl ?_
                           refine al_ro' (ro_move (up_m rfl s12_24)) trivial rfl ?_
                           refine al_ro' (ro_eql (up_m rfl up_h) up_h) trivial rfl ?_
                           refine al_ro' (ro_move up_h) trivial rfl ?_
                           refine al_case up_h (fun hb_26 hq_26 => ?_) (fun hb_26 hq_26 => ?_)
                           · skip
                             first
                             | (cases hq_26; done) | ((first | replace hq_26 := bnt hq_26 | replace hq_26 := bnf hq_26 | replace hq_26 := bt hq_26 | replace hq_26 := bf hq_26 | replace hq_26 := bt' hq_26 | replace hq_26 := bf' hq_26 | skip); exfalso; omega) | first | (simp at hq_26; done) | (exact absurd hg (by simpa using hq_26))
                             | ((first | replace hq_26 := bnt hq_26 | replace hq_26 := bnf hq_26 | replace hq_26 := bt hq_26 | replace hq_26 := bf hq_26 | replace hq_26 := bt' hq_26 | replace hq_26 := bf' hq_26 | skip)
                                refine al_ro' (ro_move (u4 rfl s10_24)) ⟨_, rfl, hb_26⟩ rfl ?_
                                refine al_ro' (ro_move (up_m rfl (u4 rfl s12_24))) ⟨_, rfl, (up_m rfl hb_26)⟩ rfl ?_
                                refine al_ro' (ro_eql (up_m rfl up_h) up_h) ⟨_, rfl, (u2 rfl hb_26)⟩ rfl ?_
                                refine al_ro' (ro_pickT (up_m rfl (u2 rfl hb_26)) up_h) trivial rfl ?_
                                refine al_ro' (ro_move up_h) trivial rfl ?_
                                refine al_case up_h (fun hb_27 hq_27 => ?_) (fun hb_27 hq_27 => ?_)
                                · skip
                                  first
                                  | (cases hq_27; done) | ((first | replace hq_27 := bnt hq_27 | replace hq_27 := bnf hq_27 | replace hq_27 := bt hq_27 | replace hq_27 := bf hq_27 | replace hq_27 := bt' hq_27 | replace hq_27 := bf' hq_27 | skip); exfalso; omega) | first | (simp at hq_27; done) | (exact absurd hg (by simpa using hq_27))
                                  | ((first | replace hq_27 := bnt hq_27 | replace hq_27 := bnf hq_27 | replace hq_27 := bt hq_27 | replace hq_27 := bf hq_27 | replace hq_27 := bt' hq_27 | replace hq_27 := bf' hq_27 | skip)
                                     refine al_ro' (ro_move (up_m rfl (u8 rfl s7_24))) ⟨_, rfl, hb_27⟩ rfl ?_
                                     refine al_ro' (ro_eql up_h ev_c) ⟨_, rfl, (up_m rfl hb_27)⟩ rfl ?_
                                     refine al_ro' (ro_pickT (u2 rfl hb_27) up_h) trivial rfl ?_
                                     refine al_ro' (ro_move up_h) trivial rfl ?_
                                     refine al_case up_h (fun hb_28 hq_28 => ?_) (fun hb_28 hq_28 => ?_)
                                     · skip
                                       first
                                       | (cases hq_28; done) | ((first | replace hq_28 := bnt hq_28 | replace hq_28 := bnf hq_28 | replace hq_28 := bt hq_28 | replace hq_28 := bf hq_28 | replace hq_28 := bt' hq_28 | replace hq_28 := bf' hq_28 | skip); exfalso; omega) | first | (simp at hq_28; done) | (exact absurd hg (by simpa using hq_28))
                                       | ((first | replace hq_28 := bnt hq_28 | replace hq_28 := bnf hq_28 | replace hq_28 := bt hq_28 | replace hq_28 := bf hq_28 | replace hq_28 := bt' hq_28 | replace hq_28 := bf' hq_28 | skip)
                                          refine al_ro' (ro_move (up_m rfl (u4 rfl (u8 rfl s9_24)))) ⟨_, rfl, hb_28⟩ rfl ?_
                                          refine al_ro' (ro_eql up_h ev_c) ⟨_, rfl, (up_m rfl hb_28)⟩ rfl ?_
                                          refine al_ro' (ro_pickT (u2 rfl hb_28) up_h) trivial rfl ?_
                                          refine al_ro' (ro_assign up_h) trivial rfl ?_
                                          refine al_end (fun e_29 he_29 => ?_)
                                          have s4_29 := ef 4 he_29 up_h
                                          clear he_29 hb_26 hb_27 hb_28 s10_24 s12_24 s1_24 s2_24 s51_24 s7_24 s8_24 s9_24
                                          refine then_n ?_
                                          refine aw_ret ?_
                                          refine then_r ?_
                                          refine ret1 (.inr rfl) (by kernel_rfl) (resV_tmp s4_29) (.ro _ rfl) ?_
                                          clear s4_29 mo2_15 mo1_15 mo0_15 ml_15
                                          simp_all)
                                     · skip
                                       first
                                       | (cases hq_28; done) | ((first | replace hq_28 := bnt hq_28 | replace hq_28 := bnf hq_28 | replace hq_28 := bt hq_28 | replace hq_28 := bf hq_28 | replace hq_28 := bt' hq_28 | replace hq_28 := bf' hq_28 | skip); exfalso; omega) | first | (simp at hq_28; done) | (exact absurd hg (by simpa using hq_28))
                                       | ((first | replace hq_28 := bnt hq_28 | replace hq_28 := bnf hq_28 | replace hq_28 := bt hq_28 | replace hq_28 := bf hq_28 | replace hq_28 := bt' hq_28 | replace hq_28 := bf' hq_28 | skip)
                                          refine al_skip' ⟨_, rfl, .inl hb_28⟩ rfl ?_
                                          refine al_skip' ⟨_, rfl, .inl (up_m rfl hb_28)⟩ rfl ?_
                                          refine al_ro' (ro_pickF (u2 rfl hb_28) ev_c) trivial rfl ?_
                                          refine al_ro' (ro_assign up_h) trivial rfl ?_
                                          refine al_end (fun e_30 he_30 => ?_)
                                          have s4_30 := ef 4 he_30 up_h
                                          clear he_30 hb_26 hb_27 hb_28 s10_24 s12_24 s1_24 s2_24 s51_24 s7_24 s8_24 s9_24
                                          refine then_n ?_
                                          refine aw_ret ?_
                                          refine then_r ?_
                                          refine ret1 (.inr rfl) (by kernel_rfl) (resV_tmp s4_30) (.ro _ rfl) ?_
                                          clear s4_30 mo2_15 mo1_15 mo0_15 ml_15
                                          simp_all))
                                · skip
                                  first
                                  | (cases hq_27; done) | ((first | replace hq_27 := bnt hq_27 | replace hq_27 := bnf hq_27 | replace hq_27 := bt hq_27 | replace hq_27 := bf hq_27 | replace hq_27 := bt' hq_27 | replace hq_27 := bf' hq_27 | skip); exfalso; omega) | first | (simp at hq_27; done) | (exact absurd hg (by simpa using hq_27))
                                  | ((first | replace hq_27 := bnt hq_27 | replace hq_27 := bnf hq_27 | replace hq_27 := bt hq_27 | replace hq_27 := bf hq_27 | replace hq_27 := bt' hq_27 | replace hq_27 := bf' hq_27 | skip)
                                     refine al_skip' ⟨_, rfl, .inl hb_27⟩ rfl ?_
                                     refine al_skip' ⟨_, rfl, .inl (up_m rfl hb_27)⟩ rfl ?_
                                     refine al_ro' (ro_pickF (u2 rfl hb_27) ev_c) trivial rfl ?_
                                     refine al_ro' (ro_move up_h) trivial rfl ?_
                                     refine al_skip' ⟨_, rfl, .inl up_h⟩ rfl ?_
                                     refine al_skip' ⟨_, rfl, .inl (up_m rfl up_h)⟩ rfl ?_
                                     refine al_ro' (ro_pickF (u2 rfl up_h) ev_c) trivial rfl ?_
                                     refine al_ro' (ro_assign up_h) trivial rfl ?_
                                     refine al_end (fun e_31 he_31 => ?_)
                                     have s4_31 := ef 4 he_31 up_h
                                     clear he_31 hb_26 hb_27 s10_24 s12_24 s1_24 s2_24 s51_24 s7_24 s8_24 s9_24
                                     refine then_n ?_
                                     refine aw_ret ?_
                                     refine then_r ?_
                                     refine ret1 (.inr rfl) (by kernel_rfl) (resV_tmp s4_31) (.ro _ rfl) ?_
                                     clear s4_31 mo2_15 mo1_15 mo0_15 ml_15
                                     simp_all))
                           · skip
                             first
                             | (cases hq_26; done) | ((first | replace hq_26 := bnt hq_26 | replace hq_26 := bnf hq_26 | replace hq_26 := bt hq_26 | replace hq_26 := bf hq_26 | replace hq_26 := bt' hq_26 | replace hq_26 := bf' hq_26 | skip); exfalso; omega) | first | (simp at hq_26; done) | (exact absurd hg (by simpa using hq_26))
                             | ((first | replace hq_26 := bnt hq_26 | replace hq_26 := bnf hq_26 | replace hq_26 := bt hq_26 | replace hq_26 := bf hq_26 | replace hq_26 := bt' hq_26 | replace hq_26 := bf' hq_26 | skip)
                                refine al_skip' ⟨_, rfl, .inl hb_26⟩ rfl ?_
                                refine al_skip' ⟨_, rfl, .inl (up_m rfl hb_26)⟩ rfl ?_
                                refine al_skip' ⟨_, rfl, .inl (u2 rfl hb_26)⟩ rfl ?_
                                refine al_ro' (ro_pickF (up_m rfl (u2 rfl hb_26)) ev_c) trivial rfl ?_
                                refine al_ro' (ro_move up_h) trivial rfl ?_
                                refine al_skip' ⟨_, rfl, .inl up_h⟩ rfl ?_
                                refine al_skip' ⟨_, rfl, .inl (up_m rfl up_h)⟩ rfl ?_
                                refine al_ro' (ro_pickF (u2 rfl up_h) ev_c) trivial rfl ?_
                                refine al_ro' (ro_move up_h) trivial rfl ?_
                                refine al_skip' ⟨_, rfl, .inl up_h⟩ rfl ?_
                                refine al_skip' ⟨_, rfl, .inl (up_m rfl up_h)⟩ rfl ?_
                                refine al_ro' (ro_pickF (u2 rfl up_h) ev_c) trivial rfl ?_
                                refine al_ro' (ro_assign up_h) trivial rfl ?_
                                refine al_end (fun e_32 he_32 => ?_)
                                have s4_32 := ef 4 he_32 up_h
                                clear he_32 hb_26 s10_24 s12_24 s1_24 s2_24 s51_24 s7_24 s8_24 s9_24
                                refine then_n ?_
                                refine aw_ret ?_
                                refine then_r ?_
                                refine ret1 (.inr rfl) (by kernel_rfl) (resV_tmp s4_32) (.ro _ rfl) ?_
                                clear s4_32 mo2_15 mo1_15 mo0_15 ml_15
                                simp_all))
                      · skip
                        first
                        | (cases hq_25; done) | ((first | replace hq_25 := bnt hq_25 | replace hq_25 := bnf hq_25 | replace hq_25 := bt hq_25 | replace hq_25 := bf hq_25 | replace hq_25 := bt' hq_25 | replace hq_25 := bf' hq_25 | skip); exfalso; omega) | first | (simp at hq_25; done) | (exact absurd hg (by simpa using hq_25))
                        | ((first | replace hq_25 := bnt hq_25 | replace hq_25 := bnf hq_25 | replace hq_25 := bt hq_25 | replace hq_25 := bf hq_25 | replace hq_25 := bt' hq_25 | replace hq_25 := bf' hq_25 | skip)
                           refine aw_skip ?_
                           refine then_n ?_
                           refine aw_seq ?_
                           refine aw_seq ?_
                           refine aw_text (by kernel_rfl) ?_
                           refine al_ro' (ro_move s8_24) trivial rfl ?_
                           refine al_ro' (ro_neq up_h ev_c) trivial rfl ?_
                           refine al_ro' (ro_move up_h) trivial rfl ?_
                           refine al_case up_h (fun hb_33 hq_33 => ?_) (fun hb_33 hq_33 => ?_)
                           · skip
                             first
                             | (cases hq_33; done) | ((first | replace hq_33 := bnt hq_33 | replace hq_33 := bnf hq_33 | replace hq_33 := bt hq_33 | replace hq_33 := bf hq_33 | replace hq_33 := bt' hq_33 | replace hq_33 := bf' hq_33 | skip); exfalso; omega) | first | (simp at hq_33; done) | (exact absurd hg (by simpa using hq_33))
                             | ((first | replace hq_33 := bnt hq_33 | replace hq_33 := bnf hq_33 | replace hq_33 := bt hq_33 | replace hq_33 := bf hq_33 | replace hq_33 := bt' hq_33 | replace hq_33 := bf' hq_33 | skip)
                                refine al_skip' ⟨_, rfl, .inl hb_33⟩ rfl ?_
                                refine al_skip' ⟨_, rfl, .inl (up_m rfl hb_33)⟩ rfl ?_
                                refine al_skip' ⟨_, rfl, .inl (u2 rfl hb_33)⟩ rfl ?_
                                refine al_skip' ⟨_, rfl, .inl (up_m rfl (u2 rfl hb_33))⟩ rfl ?_
                                refine al_ro' (ro_pickT (u4 rfl hb_33) ev_c) trivial rfl ?_
                                refine al_end (fun e_34 he_34 => ?_)
                                have s1_34 := ef 1 he_34 (u8 rfl s1_24)
                                have s2_34 := ef 2 he_34 (u8 rfl s2_24)
                                have s9_34 := ef 9 he_34 (u8 rfl s9_24)
                                have s10_34 := ef 10 he_34 (u8 rfl s10_24)
                                have s75_34 := ef 75 he_34 up_h
                                clear he_34 hb_33 s10_24 s12_24 s1_24 s2_24 s51_24 s7_24 s8_24 s9_24
                                refine then_n ?_
                                refine aw_true s75_34 ?_
                                refine aw_seq ?_
                                refine aw_text (by kernel_rfl) ?_
                                refine al_ro' (ro_assign ev_c) trivial rfl ?_
                                refine al_end (fun e_36 he_36 => ?_)
                                have s4_36 := ef 4 he_36 up_h
                                clear he_36 s10_34 s1_34 s2_34 s75_34 s9_34
                                refine then_n ?_
                                refine aw_ret ?_
                                refine then_r ?_
                                refine ret1 (.inr rfl) (by kernel_rfl) (resV_tmp s4_36) (.ro _ rfl) ?_
                                clear s4_36 mo2_15 mo1_15 mo0_15 ml_15
                                simp_all)
                           · skip
                             first
                             | (cases hq_33; done) | ((first | replace hq_33 := bnt hq_33 | replace hq_33 := bnf hq_33 | replace hq_33 := bt hq_33 | replace hq_33 := bf hq_33 | replace hq_33 := bt' hq_33 | replace hq_33 := bf' hq_33 | skip); exfalso; omega) | first | (simp at hq_33; done) | (exact absurd hg (by simpa using hq_33))
                             | ((first | replace hq_33 := bnt hq_33 | replace hq_33 := bnf hq_33 | replace hq_33 := bt hq_33 | replace hq_33 := bf hq_33 | replace hq_33 := bt' hq_33 | replace hq_33 := bf' hq_33 | skip)
                                refine al_ro' (ro_move (up_m rfl (u2 rfl s7_24))) ⟨_, rfl, hb_33⟩ rfl ?_
                                refine al_ro' (ro_eq (ro_ld_ptr y28_ty26 rfl mo0_15 (u4 rfl s2_24) (by first | exact Nat.le_of_ble_eq_true rfl | omega | (simp only [lnS] <;> omega) | (simp <;> omega))) (by first | (simp only [packA_t, packA_f, iE, bE, setAt, cellsA, Value.cells, map_vc, map_vn, Nat.reduceAdd, qS] <;> rfl) | rfl)) ⟨_, rfl, (up_m rfl hb_33)⟩ rfl ?_
                                refine al_ro' (ro_call (evL_cons up_h evL_nil) rfl (rLengthOf_ok l (by omega) hr.len) y28_hcf13) ⟨_, rfl, (u2 rfl hb_33)⟩ rfl ?_
                                refine al_ro' (ro_neq (u2 rfl up_h) up_h) ⟨_, rfl, (up_m rfl (u2 rfl hb_33))⟩ rfl ?_
                                refine al_ro' (ro_pickF (u4 rfl hb_33) up_h) trivial rfl ?_
                                refine al_end (fun e_37 he_37 => ?_)
                                have s1_37 := ef 1 he_37 (u8 rfl s1_24)
                                have s2_37 := ef 2 he_37 (u8 rfl s2_24)
                                have s9_37 := ef 9 he_37 (u8 rfl s9_24)
                                have s10_37 := ef 10 he_37 (u8 rfl s10_24)
                                have s75_37 := ef 75 he_37 up_h
                                clear he_37 hb_33 s10_24 s12_24 s1_24 s2_24 s51_24 s7_24 s8_24 s9_24
                                refine then_n ?_
                                refine aw_case s75_37 (fun hq_38 => ?_) (fun hq_38 => ?_)
                                · skip
                                  first
                                  | (cases hq_38; done) | ((first | replace hq_38 := bnt hq_38 | replace hq_38 := bnf hq_38 | replace hq_38 := bt hq_38 | replace hq_38 := bf hq_38 | replace hq_38 := bt' hq_38 | replace hq_38 := bf' hq_38 | skip); exfalso; omega) | first | (simp at hq_38; done) | (exact absurd hg (by simpa using hq_38))
                                  | ((first | replace hq_38 := bnt hq_38 | replace hq_38 := bnf hq_38 | replace hq_38 := bt hq_38 | replace hq_38 := bf hq_38 | replace hq_38 := bt' hq_38 | replace hq_38 := bf' hq_38 | skip)
                                     refine aw_seq ?_
                                     refine aw_text (by kernel_rfl) ?_
                                     refine al_ro' (ro_assign ev_c) trivial rfl ?_
                                     refine al_end (fun e_39 he_39 => ?_)
                                     have s4_39 := ef 4 he_39 up_h
                                     clear he_39 s10_37 s1_37 s2_37 s75_37 s9_37
                                     refine then_n ?_
                                     refine aw_ret ?_
                                     refine then_r ?_
                                     refine ret1 (.inr rfl) (by kernel_rfl) (resV_tmp s4_39) (.ro _ rfl) ?_
                                     clear s4_39 mo2_15 mo1_15 mo0_15 ml_15
                                     simp_all)
                                · skip
                                  first
                                  | (cases hq_38; done) | ((first | replace hq_38 := bnt hq_38 | replace hq_38 := bnf hq_38 | replace hq_38 := bt hq_38 | replace hq_38 := bf hq_38 | replace hq_38 := bt' hq_38 | replace hq_38 := bf' hq_38 | skip); exfalso; omega) | first | (simp at hq_38; done) | (exact absurd hg (by simpa using hq_38))
                                  | ((first | replace hq_38 := bnt hq_38 | replace hq_38 := bnf hq_38 | replace hq_38 := bt hq_38 | replace hq_38 := bf hq_38 | replace hq_38 := bt' hq_38 | replace hq_38 := bf' hq_38 | skip)
                                     refine aw_skip ?_
                                     refine then_n ?_
                                     refine aw_seq ?_
                                     refine aw_seq ?_
                                     refine aw_text (by kernel_rfl) ?_
                                     refine al_ro' (ro_eq (ro_ld_ptr y28_ty26 rfl mo0_15 s2_37 (by first | exact Nat.le_of_ble_eq_true rfl | omega | (simp only [lnS] <;> omega) | (simp <;> omega))) (by first | (simp only [packA_t, packA_f, iE, bE, setAt, cellsA, Value.cells, map_vc, map_vn, Nat.reduceAdd, qS] <;> rfl) | rfl)) trivial rfl ?_
                                     refine al_ro' (ro_move (up_m rfl s1_37)) trivial rfl ?_
                                     refine al_ro' (ro_call (evL_cons (up_m rfl up_h) (evL_cons up_h evL_nil)) rfl (jointErr_ok l hl j) y28_hcf14) trivial rfl ?_
                                     refine al_ro' (ro_assign up_h) trivial rfl ?_
                                     refine al_end (fun e_40 he_40 => ?_)
                                     have s1_40 := ef 1 he_40 (u4 rfl s1_37)
                                     have s2_40 := ef 2 he_40 (u4 rfl s2_37)
                                     have s9_40 := ef 9 he_40 (u4 rfl s9_37)
                                     have s10_40 := ef 10 he_40 (u4 rfl s10_37)
                                     have s12_40 := ef 12 he_40 up_h
                                     clear he_40 s10_37 s1_37 s2_37 s75_37 s9_37
                                     refine then_n ?_
                                     refine aw_seq ?_
                                     refine aw_text (by kernel_rfl) ?_
                                     refine al_ro' (ro_move s12_40) trivial rfl ?_
                                     refine al_ro' (ro_neq up_h ev_c) trivial rfl ?_
                                     refine al_end (fun e_41 he_41 => ?_)
                                     have s1_41 := ef 1 he_41 (u2 rfl s1_40)
                                     have s2_41 := ef 2 he_41 (u2 rfl s2_40)
                                     have s9_41 := ef 9 he_41 (u2 rfl s9_40)
                                     have s10_41 := ef 10 he_41 (u2 rfl s10_40)
                                     have s12_41 := ef 12 he_41 (u2 rfl s12_40)
                                     have s80_41 := ef 80 he_41 up_h
                                     clear he_41 s10_40 s12_40 s1_40 s2_40 s9_40
                                     refine then_n ?_
                                     refine aw_case s80_41 (fun hq_42 => ?_) (fun hq_42 => ?_)
                                     · skip
                                       first
                                       | (cases hq_42; done) | ((first | replace hq_42 := bnt hq_42 | replace hq_42 := bnf hq_42 | replace hq_42 := bt hq_42 | replace hq_42 := bf hq_42 | replace hq_42 := bt' hq_42 | replace hq_42 := bf' hq_42 | skip); exfalso; omega) | first | (simp at hq_42; done) | (exact absurd hg (by simpa using hq_42))
                                       | ((first | replace hq_42 := bnt hq_42 | replace hq_42 := bnf hq_42 | replace hq_42 := bt hq_42 | replace hq_42 := bf hq_42 | replace hq_42 := bt' hq_42 | replace hq_42 := bf' hq_42 | skip)
                                          refine aw_seq ?_
                                          refine aw_text (by kernel_rfl) ?_
                                          refine al_ro' (ro_move s10_41) trivial rfl ?_
                                          refine al_ro' (ro_move (up_m rfl s12_41)) trivial rfl ?_
                                          refine al_ro' (ro_eql (up_m rfl up_h) up_h) trivial rfl ?_
                                          refine al_ro' (ro_move up_h) trivial rfl ?_
                                          refine al_case up_h (fun hb_43 hq_43 => ?_) (fun hb_43 hq_43 => ?_)
                                          · skip
                                            first
                                            | (cases hq_43; done) | ((first | replace hq_43 := bnt hq_43 | replace hq_43 := bnf hq_43 | replace hq_43 := bt hq_43 | replace hq_43 := bf hq_43 | replace hq_43 := bt' hq_43 | replace hq_43 := bf' hq_43 | skip); exfalso; omega) | first | (simp at hq_43; done) | (exact absurd hg (by simpa using hq_43))
                                            | ((first | replace hq_43 := bnt hq_43 | replace hq_43 := bnf hq_43 | replace hq_43 := bt hq_43 | replace hq_43 := bf hq_43 | replace hq_43 := bt' hq_43 | replace hq_43 := bf' hq_43 | skip)
                                               refine al_ro' (ro_move (u4 rfl s9_41)) ⟨_, rfl, hb_43⟩ rfl ?_
                                               refine al_ro' (ro_eql up_h ev_c) ⟨_, rfl, (up_m rfl hb_43)⟩ rfl ?_
                                               refine al_ro' (ro_pickT (u2 rfl hb_43) up_h) trivial rfl ?_
                                               refine al_ro' (ro_assign up_h) trivial rfl ?_
                                               refine al_end (fun e_44 he_44 => ?_)
                                               have s4_44 := ef 4 he_44 up_h
                                               clear he_44 hb_43 s10_41 s12_41 s1_41 s2_41 s80_41 s9_41
                                               refine then_n ?_
                                               refine aw_ret ?_
                                               refine then_r ?_
                                               refine ret1 (.inr rfl) (by kernel_rfl) (resV_tmp s4_44) (.ro _ rfl) ?_
                                               clear s4_44 mo2_15 mo1_15 mo0_15 ml_15
                                               simp_all)
                                          · skip
                                            first
                                            | (cases hq_43; done) | ((first | replace hq_43 := bnt hq_43 | replace hq_43 := bnf hq_43 | replace hq_43 := bt hq_43 | replace hq_43 := bf hq_43 | replace hq_43 := bt' hq_43 | replace hq_43 := bf' hq_43 | skip); exfalso; omega) | first | (simp at hq_43; done) | (exact absurd hg (by simpa using hq_43))
                                            | ((first | replace hq_43 := bnt hq_43 | replace hq_43 := bnf hq_43 | replace hq_43 := bt hq_43 | replace hq_43 := bf hq_43 | replace hq_43 := bt' hq_43 | replace hq_43 := bf' hq_43 | skip)
                                               refine al_skip' ⟨_, rfl, .inl hb_43⟩ rfl ?_
                                               refine al_skip' ⟨_, rfl, .inl (up_m rfl hb_43)⟩ rfl ?_
                                               refine al_ro' (ro_pickF (u2 rfl hb_43) ev_c) trivial rfl ?_
                                               refine al_ro' (ro_assign up_h) trivial rfl ?_
                                               refine al_end (fun e_45 he_45 => ?_)
                                               have s4_45 := ef 4 he_45 up_h
                                               clear he_45 hb_43 s10_41 s12_41 s1_41 s2_41 s80_41 s9_41
                                               refine then_n ?_
                                               refine aw_ret ?_
                                               refine then_r ?_
                                               refine ret1 (.inr rfl) (by kernel_rfl) (resV_tmp s4_45) (.ro _ rfl) ?_
                                               clear s4_45 mo2_15 mo1_15 mo0_15 ml_15
                                               simp_all))
                                     · skip
                                       first
                                       | (cases hq_42; done) | ((first | replace hq_42 := bnt hq_42 | replace hq_42 := bnf hq_42 | replace hq_42 := bt hq_42 | replace hq_42 := bf hq_42 | replace hq_42 := bt' hq_42 | replace hq_42 := bf' hq_42 | skip); exfalso; omega) | first | (simp at hq_42; done) | (exact absurd hg (by simpa using hq_42))
                                       | ((first | replace hq_42 := bnt hq_42 | replace hq_42 := bnf hq_42 | replace hq_42 := bt hq_42 | replace hq_42 := bf hq_42 | replace hq_42 := bt' hq_42 | replace hq_42 := bf' hq_42 | skip)
                                          refine aw_skip ?_
                                          refine then_n ?_
                                          refine aw_seq ?_
                                          refine aw_text (by kernel_rfl) ?_
                                          refine al_ro' (ro_move s10_41) trivial rfl ?_
                                          refine al_ro' (ro_eql up_h ev_c) trivial rfl ?_
                                          refine al_ro' (ro_move up_h) trivial rfl ?_
                                          refine al_case up_h (fun hb_46 hq_46 => ?_) (fun hb_46 hq_46 => ?_)
                                          · skip
                                            first
                                            | (cases hq_46; done) | ((first | replace hq_46 := bnt hq_46 | replace hq_46 := bnf hq_46 | replace hq_46 := bt hq_46 | replace hq_46 := bf hq_46 | replace hq_46 := bt' hq_46 | replace hq_46 := bf' hq_46 | skip); exfalso; omega) | first | (simp at hq_46; done) | (exact absurd hg (by simpa using hq_46))
                                            | ((first | replace hq_46 := bnt hq_46 | replace hq_46 := bnf hq_46 | replace hq_46 := bt hq_46 | replace hq_46 := bf hq_46 | replace hq_46 := bt' hq_46 | replace hq_46 := bf' hq_46 | skip)
                                               refine al_ro' (ro_move (up_m rfl (u2 rfl s9_41))) ⟨_, rfl, hb_46⟩ rfl ?_
                                               refine al_ro' (ro_eq (ro_ld_ptr y28_ty26 rfl mo0_15 (u4 rfl s2_41) (by first | exact Nat.le_of_ble_eq_true rfl | omega | (simp only [lnS] <;> omega) | (simp <;> omega))) (by first | (simp only [packA_t, packA_f, iE, bE, setAt, cellsA, Value.cells, map_vc, map_vn, Nat.reduceAdd, qS] <;> rfl) | rfl)) ⟨_, rfl, (up_m rfl hb_46)⟩ rfl ?_
                                               refine al_ro' (ro_move (up_m rfl (u4 rfl s1_41))) ⟨_, rfl, (u2 rfl hb_46)⟩ rfl ?_
                                               refine al_ro' (ro_call (evL_cons (up_m rfl up_h) (evL_cons up_h evL_nil)) rfl (rPlaceOf_ok l (by omega) hr.len j (by have hm : misE j 0 (l.js.length - 1) = 0 := (by assumption); have := misE_z.1 hm; omega)) y28_hcf15) ⟨_, rfl, (up_m rfl (u2 rfl hb_46))⟩ rfl ?_
                                               refine al_ro' (ro_eql (up_m rfl (u2 rfl up_h)) up_h) ⟨_, rfl, (u4 rfl hb_46)⟩ rfl ?_
                                               refine al_ro' (ro_pickT (up_m rfl (u4 rfl hb_46)) up_h) trivial rfl ?_
                                               refine al_ro' (ro_assign up_h) trivial rfl ?_
                                               refine al_end (fun e_47 he_47 => ?_)
                                               have s4_47 := ef 4 he_47 up_h
                                               clear he_47 hb_46 s10_41 s12_41 s1_41 s2_41 s80_41 s9_41
                                               refine then_n ?_
                                               refine aw_ret ?_
                                               refine ret1 (.inr rfl) (by kernel_rfl) (resV_tmp s4_47) (.ro _ rfl) ?_
                                               clear s4_47 mo2_15 mo1_15 mo0_15 ml_15
                                               simp_all)
                                          · skip
                                            first
                                            | (cases hq_46; done) | ((first | replace hq_46 := bnt hq_46 | replace hq_46 := bnf hq_46 | replace hq_46 := bt hq_46 | replace hq_46 := bf hq_46 | replace hq_46 := bt' hq_46 | replace hq_46 := bf' hq_46 | skip); exfalso; omega) | first | (simp at hq_46; done) | (exact absurd hg (by simpa using hq_46))
                                            | ((first | replace hq_46 := bnt hq_46 | replace hq_46 := bnf hq_46 | replace hq_46 := bt hq_46 | replace hq_46 := bf hq_46 | replace hq_46 := bt' hq_46 | replace hq_46 := bf' hq_46 | skip)
                                               refine al_skip' ⟨_, rfl, .inl hb_46⟩ rfl ?_
                                               refine al_skip' ⟨_, rfl, .inl (up_m rfl hb_46)⟩ rfl ?_
                                               refine al_skip' ⟨_, rfl, .inl (u2 rfl hb_46)⟩ rfl ?_
                                               refine al_skip' ⟨_, rfl, .inl (up_m rfl (u2 rfl hb_46))⟩ rfl ?_
                                               refine al_skip' ⟨_, rfl, .inl (u4 rfl hb_46)⟩ rfl ?_
                                               refine al_ro' (ro_pickF (up_m rfl (u4 rfl hb_46)) ev_c) trivial rfl ?_
                                               refine al_ro' (ro_assign up_h) trivial rfl ?_
                                               refine al_end (fun e_48 he_48 => ?_)
                                               have s4_48 := ef 4 he_48 up_h
                                               clear he_48 hb_46 s10_41 s12_41 s1_41 s2_41 s80_41 s9_41
                                               refine then_n ?_
                                               refine aw_ret ?_
                                               refine ret1 (.inr rfl) (by kernel_rfl) (resV_tmp s4_48) (.ro _ rfl) ?_
                                               clear s4_48 mo2_15 mo1_15 mo0_15 ml_15
                                               simp_all)))))))))
theorem lineLines_ok (l : Lin) (j : Int) : FnOk Try.prog 3 [lnA l, mA j] (fun q => q = tbA true) := by
  cases hf : fewL l with
  | false => exact lineLines_many l hf j
  | true =>
    by_cases hg : (linM l).2 = 0
    · exact lineLines_good l hf hg j
    · exact lineLines_bad l hf hg j
end Go.Proofs.Ytlebjleebclmgaa
