/- The law of the top on lines and stops. No conditions on a program. -/
import Derived.Test.YtonjcljnpcmenaaT0
import Derived.Test.YtonjcljnpcmenaaM13
import Derived.Test.YtonjcljnpcmenaaY36
import Derived.Test.YtonjcljnpcmenaaA30
namespace Go.Proofs.Ytonjcljnpcmenaa
open Go Go.RowKit Go.Proofs
set_option linter.unusedSimpArgs false
set_option linter.unusedVariables false
theorem y72_bz85 : (Try.prog.info? 85).bind (·.zero) = some (.agg #[.int .i64 0, .int .i64 0]) := by kernel_rfl
theorem y72_bu85 : Try.prog.underlying 85 = some (.array 2 3) := by kernel_rfl
theorem y72_bp85 : (Try.prog.info? 3).map (·.size) = some 1 := by kernel_rfl
theorem y72_fl81_0 : FldIs Try.prog 81 0 0 false 1 := by unfold FldIs; kernel_rfl
theorem y72_fl81_1 : FldIs Try.prog 81 1 1 false 1 := by unfold FldIs; kernel_rfl
theorem y72_fl96_0 : FldIs Try.prog 96 0 0 true 3 := by unfold FldIs; kernel_rfl
theorem y72_fl96_1 : FldIs Try.prog 96 1 3 false 1 := by unfold FldIs; kernel_rfl
theorem y72_fl96_2 : FldIs Try.prog 96 2 4 false 1 := by unfold FldIs; kernel_rfl
theorem y72_hcf14 : ∀ args w, (callFunc 14 args).run Try.prog w = .ok (.enter 14 args) w := fun _ _ => by kernel_rfl
theorem y72_hcf18 : ∀ args w, (callFunc 18 args).run Try.prog w = .ok (.enter 18 args) w := fun _ _ => by kernel_rfl
theorem y72_hcf24 : ∀ args w, (callFunc 24 args).run Try.prog w = .ok (.enter 24 args) w := fun _ _ => by kernel_rfl
theorem y72_hcf25 : ∀ args w, (callFunc 25 args).run Try.prog w = .ok (.enter 25 args) w := fun _ _ => by kernel_rfl
theorem y72_hcf46 : ∀ args w, (callFunc 46 args).run Try.prog w = .ok (.enter 46 args) w := fun _ _ => by kernel_rfl
theorem y72_hcf54 : ∀ args w, (callFunc 54 args).run Try.prog w = .ok (.enter 54 args) w := fun _ _ => by kernel_rfl
theorem y72_hcf55 : ∀ args w, (callFunc 55 args).run Try.prog w = .ok (.enter 55 args) w := fun _ _ => by kernel_rfl
theorem y72_hcf56 : ∀ args w, (callFunc 56 args).run Try.prog w = .ok (.enter 56 args) w := fun _ _ => by kernel_rfl
theorem y72_hcf57 : ∀ args w, (callFunc 57 args).run Try.prog w = .ok (.enter 57 args) w := fun _ _ => by kernel_rfl
theorem y72_hcf58 : ∀ args w, (callFunc 58 args).run Try.prog w = .ok (.enter 58 args) w := fun _ _ => by kernel_rfl
theorem y72_hcf59 : ∀ args w, (callFunc 59 args).run Try.prog w = .ok (.enter 59 args) w := fun _ _ => by kernel_rfl
theorem y72_hcf60 : ∀ args w, (callFunc 60 args).run Try.prog w = .ok (.enter 60 args) w := fun _ _ => by kernel_rfl
theorem y72_hcf61 : ∀ args w, (callFunc 61 args).run Try.prog w = .ok (.enter 61 args) w := fun _ _ => by kernel_rfl
theorem y72_hcf62 : ∀ args w, (callFunc 62 args).run Try.prog w = .ok (.enter 62 args) w := fun _ _ => by kernel_rfl
theorem y72_hcf63 : ∀ args w, (callFunc 63 args).run Try.prog w = .ok (.enter 63 args) w := fun _ _ => by kernel_rfl
theorem y72_hcf64 : ∀ args w, (callFunc 64 args).run Try.prog w = .ok (.enter 64 args) w := fun _ _ => by kernel_rfl
theorem y72_hcf66 : ∀ args w, (callFunc 66 args).run Try.prog w = .ok (.enter 66 args) w := fun _ _ => by kernel_rfl
theorem y72_sl22 : SlIs Try.prog 22 70 4 32 (.agg #[.int .i64 0, .int .i64 0, .int .i64 0, .int .i64 0]) := ⟨by kernel_rfl, by kernel_rfl, by kernel_rfl⟩
theorem y72_sl23 : SlIs Try.prog 23 87 2 16 (.agg #[.int .i64 0, .int .i64 0]) := ⟨by kernel_rfl, by kernel_rfl, by kernel_rfl⟩
theorem y72_sl24 : SlIs Try.prog 24 91 3 48 (.agg #[.string ByteArray.empty, .int .i64 0, .slice none 0 0]) := ⟨by kernel_rfl, by kernel_rfl, by kernel_rfl⟩
theorem y72_sl49 : SlIs Try.prog 49 3 1 8 (.int .i64 0) := ⟨by kernel_rfl, by kernel_rfl, by kernel_rfl⟩
theorem y72_sl94 : SlIs Try.prog 94 4 1 1 (.bool false) := ⟨by kernel_rfl, by kernel_rfl, by kernel_rfl⟩
theorem y72_sl98 : SlIs Try.prog 98 104 4 32 (.agg #[.int .i64 0, .int .i64 0, .int .i64 0, .bool false]) := ⟨by kernel_rfl, by kernel_rfl, by kernel_rfl⟩
theorem y72_sz98 : (Try.prog.info? 98).map (·.size) = some 1 := by kernel_rfl
theorem y72_ty100 : TyIs Try.prog 100 true 2 := ⟨by kernel_rfl, by kernel_rfl⟩
theorem y72_ty104 : TyIs Try.prog 104 true 4 := ⟨by kernel_rfl, by kernel_rfl⟩
theorem y72_ty22 : TyIs Try.prog 22 false 1 := ⟨by kernel_rfl, by kernel_rfl⟩
theorem y72_ty23 : TyIs Try.prog 23 false 1 := ⟨by kernel_rfl, by kernel_rfl⟩
theorem y72_ty24 : TyIs Try.prog 24 false 1 := ⟨by kernel_rfl, by kernel_rfl⟩
theorem y72_ty26 : TyIs Try.prog 26 true 4 := ⟨by kernel_rfl, by kernel_rfl⟩
theorem y72_ty3 : TyIs Try.prog 3 false 1 := ⟨by kernel_rfl, by kernel_rfl⟩
theorem y72_ty4 : TyIs Try.prog 4 false 1 := ⟨by kernel_rfl, by kernel_rfl⟩
theorem y72_ty9 : TyIs Try.prog 9 false 1 := ⟨by kernel_rfl, by kernel_rfl⟩
theorem y72_ty93 : TyIs Try.prog 93 true 3 := ⟨by kernel_rfl, by kernel_rfl⟩
theorem y72_ty94 : TyIs Try.prog 94 false 1 := ⟨by kernel_rfl, by kernel_rfl⟩
theorem y72_ty98 : TyIs Try.prog 98 false 1 := ⟨by kernel_rfl, by kernel_rfl⟩

set_option maxRecDepth 100000 in
set_option maxHeartbeats 4000000 in
theorem topBrakeLine_ok (l : Lin) (b d v sd : Int) (lv : List Bool) : FnOk Try.prog 11 [lnA l, .agg [iA b, iA d, iA v, iA sd, .row 1 (lv.map boE)]] (fun q => q = bA true) := by
  refine fnOk_of (fn := Try.f11) 407 (by kernel_rfl) rfl (by kernel_rfl) (Nat.le_of_ble_eq_true rfl) ?_
  intro e_0 m_0 hA hm_0
  have s0_0 : evA e_0 (.tmp 0) = _ := hA 0 _ rfl
  have s1_0 : evA e_0 (.tmp 1) = _ := hA 1 _ rfl
  have ml_0 : m_0.length = 0 := by rw [hm_0]; rfl
  clear hA hm_0
  refine aw_seq <| at_ <| al_stm (st_box s0_0 rfl ml_0) trivial rfl (fun m_1 hm_1 => ?_)
  have mo0_1 := m_push hm_1 ml_0
  have ml_1 := m_push_l hm_1 ml_0
  have ml_1 : _ = 1 := ml_1
  clear hm_1
  refine al_stm (st_box (up_m rfl s1_0) rfl ml_1) trivial rfl (fun m_2 hm_2 => ?_)
  have mo1_2 := m_push hm_2 ml_1
  have mo0_2 := m_push_o hm_2 mo0_1
  have ml_2 := m_push_l hm_2 ml_1
  have ml_2 : _ = 2 := ml_2
  clear hm_2 mo0_1
  refine ar (ro_assign ev_c) rfl <| ae2 (u2 rfl up_h) (up_m rfl up_h) ?_; clear s0_0 s1_0; intro e_3 s2_3 s3_3
  refine then_n <| aw_seq <| aw_seq <| at_ <| ar (ro_call evL_nil rfl (lAwake_ok) y72_hcf54) rfl <| ar (ro_not up_h) rfl <| ae3 (u2 rfl s2_3) (u2 rfl s3_3) up_h ?_; clear s2_3 s3_3; intro e_4 s2_4 s3_4 s27_4
  refine then_n <| aw_case s27_4 (fun hq_5 => ?_) (fun hq_5 => ?_)
  · replace hq_5 := bt' hq_5; cases hq_5
  replace hq_5 := bf' hq_5
  refine aw_skip <| then_n <| aw_seq <| aw_seq <| aw_cut (fun e mem => (evA e (.tmp 72) = .v (.bool (decide (¬ TrG l b d v sd lv)))) ∧ (evA e (.tmp 2) = evA e_4 (.tmp 2)) ∧ (evA e (.tmp 3) = evA e_4 (.tmp 3)) ∧ m_2 = mem) ?_ ?_
  ·
    refine at_ <| ar (ro_fld_ptr qfl26_0 rfl s2_4) rfl <| ar (ro_eq (ro_ld_ptr y72_ty9 rfl mo0_2 up_h (nle rfl)) (by simp only [pS, Value.cells, Nat.reduceAdd, one_pE, one_iE, app_m, boE] <;> rfl)) rfl ?_
    refine ar (ro_len_str up_h rfl qun9) rfl <| ar (ro_gtr up_h ev_c) rfl <| ar (ro_move up_h) rfl <| al_case up_h (fun hb_8 hq_8 => ?_) (fun hb_8 hq_8 => ?_)
    ·replace hq_8 := bt hq_8
     refine al_skip' ⟨_, rfl, .inl hb_8⟩ rfl ?_
     refine al_skip' ⟨_, rfl, .inl (up_m rfl hb_8)⟩ rfl ?_
     refine al_skip' ⟨_, rfl, .inl (u2 rfl hb_8)⟩ rfl ?_
     refine al_skip' ⟨_, rfl, .inl (up_m rfl (u2 rfl hb_8))⟩ rfl ?_
     refine ar (ro_pickT (u4 rfl hb_8) ev_c) rfl <| ar (ro_move up_h) rfl <| al_skip' ⟨_, rfl, .inl up_h⟩ rfl ?_
     refine al_skip' ⟨_, rfl, .inl (up_m rfl up_h)⟩ rfl ?_
     refine al_skip' ⟨_, rfl, .inl (u2 rfl up_h)⟩ rfl ?_
     refine al_skip' ⟨_, rfl, .inl (up_m rfl (u2 rfl up_h))⟩ rfl ?_
     refine ar (ro_pickT (u4 rfl up_h) ev_c) rfl <| ar (ro_move up_h) rfl <| al_skip' ⟨_, rfl, .inl up_h⟩ rfl ?_
     refine al_skip' ⟨_, rfl, .inl (up_m rfl up_h)⟩ rfl ?_
     refine al_skip' ⟨_, rfl, .inl (u2 rfl up_h)⟩ rfl ?_
     refine al_skip' ⟨_, rfl, .inl (up_m rfl (u2 rfl up_h))⟩ rfl ?_
     refine ar (ro_pickT (u4 rfl up_h) ev_c) rfl <| ar (ro_move up_h) rfl <| al_skip' ⟨_, rfl, .inl up_h⟩ rfl ?_
     refine al_skip' ⟨_, rfl, .inl (up_m rfl up_h)⟩ rfl ?_
     refine al_skip' ⟨_, rfl, .inl (u2 rfl up_h)⟩ rfl ?_
     refine ar (ro_pickT (up_m rfl (u2 rfl up_h)) ev_c) rfl <| ar (ro_move up_h) rfl <| al_skip' ⟨_, rfl, .inl up_h⟩ rfl ?_
     refine al_skip' ⟨_, rfl, .inl (up_m rfl up_h)⟩ rfl ?_
     refine al_skip' ⟨_, rfl, .inl (u2 rfl up_h)⟩ rfl ?_
     refine al_skip' ⟨_, rfl, .inl (up_m rfl (u2 rfl up_h))⟩ rfl ?_
     refine ar (ro_pickT (u4 rfl up_h) ev_c) rfl <| ar (ro_move up_h) rfl <| al_skip' ⟨_, rfl, .inl up_h⟩ rfl ?_
     refine al_skip' ⟨_, rfl, .inl (up_m rfl up_h)⟩ rfl ?_
     refine al_skip' ⟨_, rfl, .inl (u2 rfl up_h)⟩ rfl ?_
     refine al_skip' ⟨_, rfl, .inl (up_m rfl (u2 rfl up_h))⟩ rfl ?_
     refine ar (ro_pickT (u4 rfl up_h) ev_c) rfl <| ar (ro_move up_h) rfl <| al_skip' ⟨_, rfl, .inl up_h⟩ rfl ?_
     refine al_skip' ⟨_, rfl, .inl (up_m rfl up_h)⟩ rfl ?_
     refine al_skip' ⟨_, rfl, .inl (u2 rfl up_h)⟩ rfl ?_
     refine al_skip' ⟨_, rfl, .inl (up_m rfl (u2 rfl up_h))⟩ rfl ?_
     refine ar (ro_pickT (u4 rfl up_h) ev_c) rfl <| ae3 (up_m rfl (u4 rfl (u8 rfl (u16 rfl (u16 rfl s2_4))))) (up_m rfl (u4 rfl (u8 rfl (u16 rfl (u16 rfl s3_4))))) up_h ?_; intro e_9 s2_9 s3_9 s72_9
     refine then_n ⟨(s72_9).trans (by (refine avb ?_; simp only [decide_eq_true_eq, Bool.false_eq_true, true_iff, false_iff, Bool.not_eq_true', decide_eq_false_iff_not]; unfold TrG; omega)), (s2_9).trans (s2_4).symm, (s3_9).trans (s3_4).symm, rfl⟩
    replace hq_8 := bf hq_8
    refine al_ro' (ro_fld_ptr qfl26_2 rfl (up_m rfl (u4 rfl s2_4))) ⟨_, rfl, hb_8⟩ rfl ?_
    refine al_ro' (ro_eq (ro_ld_ptr y72_ty23 rfl mo0_2 up_h (nle rfl)) (by simp only [pS, Value.cells, Nat.reduceAdd, one_pE, one_iE, app_m, boE] <;> rfl)) ⟨_, rfl, (up_m rfl hb_8)⟩ rfl ?_
    refine al_ro' (ro_eq (ro_len_row up_h rfl y72_sl23.1) (by simp only [lnS] <;> rfl)) ⟨_, rfl, (u2 rfl hb_8)⟩ rfl ?_
    refine al_ro' (ro_gtr up_h ev_c) ⟨_, rfl, (up_m rfl (u2 rfl hb_8))⟩ rfl ?_
    refine ar (ro_pickF (u4 rfl hb_8) up_h) rfl <| ar (ro_move up_h) rfl <| al_case up_h (fun hb_10 hq_10 => ?_) (fun hb_10 hq_10 => ?_)
    ·replace hq_10 := bt hq_10
     refine al_skip' ⟨_, rfl, .inl hb_10⟩ rfl ?_
     refine al_skip' ⟨_, rfl, .inl (up_m rfl hb_10)⟩ rfl ?_
     refine al_skip' ⟨_, rfl, .inl (u2 rfl hb_10)⟩ rfl ?_
     refine al_skip' ⟨_, rfl, .inl (up_m rfl (u2 rfl hb_10))⟩ rfl ?_
     refine ar (ro_pickT (u4 rfl hb_10) ev_c) rfl <| ar (ro_move up_h) rfl <| al_skip' ⟨_, rfl, .inl up_h⟩ rfl ?_
     refine al_skip' ⟨_, rfl, .inl (up_m rfl up_h)⟩ rfl ?_
     refine al_skip' ⟨_, rfl, .inl (u2 rfl up_h)⟩ rfl ?_
     refine al_skip' ⟨_, rfl, .inl (up_m rfl (u2 rfl up_h))⟩ rfl ?_
     refine ar (ro_pickT (u4 rfl up_h) ev_c) rfl <| ar (ro_move up_h) rfl <| al_skip' ⟨_, rfl, .inl up_h⟩ rfl ?_
     refine al_skip' ⟨_, rfl, .inl (up_m rfl up_h)⟩ rfl ?_
     refine al_skip' ⟨_, rfl, .inl (u2 rfl up_h)⟩ rfl ?_
     refine ar (ro_pickT (up_m rfl (u2 rfl up_h)) ev_c) rfl <| ar (ro_move up_h) rfl <| al_skip' ⟨_, rfl, .inl up_h⟩ rfl ?_
     refine al_skip' ⟨_, rfl, .inl (up_m rfl up_h)⟩ rfl ?_
     refine al_skip' ⟨_, rfl, .inl (u2 rfl up_h)⟩ rfl ?_
     refine al_skip' ⟨_, rfl, .inl (up_m rfl (u2 rfl up_h))⟩ rfl ?_
     refine ar (ro_pickT (u4 rfl up_h) ev_c) rfl <| ar (ro_move up_h) rfl <| al_skip' ⟨_, rfl, .inl up_h⟩ rfl ?_
     refine al_skip' ⟨_, rfl, .inl (up_m rfl up_h)⟩ rfl ?_
     refine al_skip' ⟨_, rfl, .inl (u2 rfl up_h)⟩ rfl ?_
     refine al_skip' ⟨_, rfl, .inl (up_m rfl (u2 rfl up_h))⟩ rfl ?_
     refine ar (ro_pickT (u4 rfl up_h) ev_c) rfl <| ar (ro_move up_h) rfl <| al_skip' ⟨_, rfl, .inl up_h⟩ rfl ?_
     refine al_skip' ⟨_, rfl, .inl (up_m rfl up_h)⟩ rfl ?_
     refine al_skip' ⟨_, rfl, .inl (u2 rfl up_h)⟩ rfl ?_
     refine al_skip' ⟨_, rfl, .inl (up_m rfl (u2 rfl up_h))⟩ rfl ?_
     refine ar (ro_pickT (u4 rfl up_h) ev_c) rfl <| ae3 (up_m rfl (u4 rfl (u8 rfl (u16 rfl (u16 rfl s2_4))))) (up_m rfl (u4 rfl (u8 rfl (u16 rfl (u16 rfl s3_4))))) up_h ?_; intro e_11 s2_11 s3_11 s72_11
     refine then_n ⟨(s72_11).trans (by (refine avb ?_; simp only [decide_eq_true_eq, Bool.false_eq_true, true_iff, false_iff, Bool.not_eq_true', decide_eq_false_iff_not]; unfold TrG; omega)), (s2_11).trans (s2_4).symm, (s3_11).trans (s3_4).symm, rfl⟩
    replace hq_10 := bf hq_10
    refine al_ro' (ro_fld_ptr qfl26_1 rfl (up_m rfl (u2 rfl (u8 rfl s2_4)))) ⟨_, rfl, hb_10⟩ rfl ?_
    refine al_ro' (ro_eq (ro_ld_ptr y72_ty22 rfl mo0_2 up_h (nle rfl)) (by simp only [pS, Value.cells, Nat.reduceAdd, one_pE, one_iE, app_m, boE] <;> rfl)) ⟨_, rfl, (up_m rfl hb_10)⟩ rfl ?_
    refine al_ro' (ro_eq (ro_len_row up_h rfl y72_sl22.1) (by simp only [lnS] <;> rfl)) ⟨_, rfl, (u2 rfl hb_10)⟩ rfl ?_
    refine al_ro' (ro_gtr up_h ev_c) ⟨_, rfl, (up_m rfl (u2 rfl hb_10))⟩ rfl ?_
    refine ar (ro_pickF (u4 rfl hb_10) up_h) rfl <| ar (ro_move up_h) rfl <| al_case up_h (fun hb_12 hq_12 => ?_) (fun hb_12 hq_12 => ?_)
    ·replace hq_12 := bt hq_12
     refine al_skip' ⟨_, rfl, .inl hb_12⟩ rfl ?_
     refine al_skip' ⟨_, rfl, .inl (up_m rfl hb_12)⟩ rfl ?_
     refine al_skip' ⟨_, rfl, .inl (u2 rfl hb_12)⟩ rfl ?_
     refine al_skip' ⟨_, rfl, .inl (up_m rfl (u2 rfl hb_12))⟩ rfl ?_
     refine ar (ro_pickT (u4 rfl hb_12) ev_c) rfl <| ar (ro_move up_h) rfl <| al_skip' ⟨_, rfl, .inl up_h⟩ rfl ?_
     refine al_skip' ⟨_, rfl, .inl (up_m rfl up_h)⟩ rfl ?_
     refine al_skip' ⟨_, rfl, .inl (u2 rfl up_h)⟩ rfl ?_
     refine ar (ro_pickT (up_m rfl (u2 rfl up_h)) ev_c) rfl <| ar (ro_move up_h) rfl <| al_skip' ⟨_, rfl, .inl up_h⟩ rfl ?_
     refine al_skip' ⟨_, rfl, .inl (up_m rfl up_h)⟩ rfl ?_
     refine al_skip' ⟨_, rfl, .inl (u2 rfl up_h)⟩ rfl ?_
     refine al_skip' ⟨_, rfl, .inl (up_m rfl (u2 rfl up_h))⟩ rfl ?_
     refine ar (ro_pickT (u4 rfl up_h) ev_c) rfl <| ar (ro_move up_h) rfl <| al_skip' ⟨_, rfl, .inl up_h⟩ rfl ?_
     refine al_skip' ⟨_, rfl, .inl (up_m rfl up_h)⟩ rfl ?_
     refine al_skip' ⟨_, rfl, .inl (u2 rfl up_h)⟩ rfl ?_
     refine al_skip' ⟨_, rfl, .inl (up_m rfl (u2 rfl up_h))⟩ rfl ?_
     refine ar (ro_pickT (u4 rfl up_h) ev_c) rfl <| ar (ro_move up_h) rfl <| al_skip' ⟨_, rfl, .inl up_h⟩ rfl ?_
     refine al_skip' ⟨_, rfl, .inl (up_m rfl up_h)⟩ rfl ?_
     refine al_skip' ⟨_, rfl, .inl (u2 rfl up_h)⟩ rfl ?_
     refine al_skip' ⟨_, rfl, .inl (up_m rfl (u2 rfl up_h))⟩ rfl ?_
     refine ar (ro_pickT (u4 rfl up_h) ev_c) rfl <| ae3 (up_m rfl (u4 rfl (u8 rfl (u16 rfl (u16 rfl s2_4))))) (up_m rfl (u4 rfl (u8 rfl (u16 rfl (u16 rfl s3_4))))) up_h ?_; intro e_13 s2_13 s3_13 s72_13
     refine then_n ⟨(s72_13).trans (by (refine avb ?_; simp only [decide_eq_true_eq, Bool.false_eq_true, true_iff, false_iff, Bool.not_eq_true', decide_eq_false_iff_not]; unfold TrG; omega)), (s2_13).trans (s2_4).symm, (s3_13).trans (s3_4).symm, rfl⟩
    replace hq_12 := bf hq_12
    refine al_ro' (ro_fld_ptr qfl26_3 rfl (up_m rfl (u16 rfl s2_4))) ⟨_, rfl, hb_12⟩ rfl ?_
    refine al_ro' (ro_eq (ro_ld_ptr y72_ty24 rfl mo0_2 up_h (nle rfl)) (by simp only [pS, Value.cells, Nat.reduceAdd, one_pE, one_iE, app_m, boE] <;> rfl)) ⟨_, rfl, (up_m rfl hb_12)⟩ rfl ?_
    refine al_ro' (ro_eq (ro_len_row up_h rfl y72_sl24.1) (by simp only [lnS] <;> rfl)) ⟨_, rfl, (u2 rfl hb_12)⟩ rfl ?_
    refine al_ro' (ro_gtr up_h ev_c) ⟨_, rfl, (up_m rfl (u2 rfl hb_12))⟩ rfl ?_
    refine ar (ro_pickF (u4 rfl hb_12) up_h) rfl <| ar (ro_move up_h) rfl <| al_case up_h (fun hb_14 hq_14 => ?_) (fun hb_14 hq_14 => ?_)
    ·replace hq_14 := bt hq_14
     refine al_skip' ⟨_, rfl, .inl hb_14⟩ rfl ?_
     refine al_skip' ⟨_, rfl, .inl (up_m rfl hb_14)⟩ rfl ?_
     refine al_skip' ⟨_, rfl, .inl (u2 rfl hb_14)⟩ rfl ?_
     refine ar (ro_pickT (up_m rfl (u2 rfl hb_14)) ev_c) rfl <| ar (ro_move up_h) rfl <| al_skip' ⟨_, rfl, .inl up_h⟩ rfl ?_
     refine al_skip' ⟨_, rfl, .inl (up_m rfl up_h)⟩ rfl ?_
     refine al_skip' ⟨_, rfl, .inl (u2 rfl up_h)⟩ rfl ?_
     refine al_skip' ⟨_, rfl, .inl (up_m rfl (u2 rfl up_h))⟩ rfl ?_
     refine ar (ro_pickT (u4 rfl up_h) ev_c) rfl <| ar (ro_move up_h) rfl <| al_skip' ⟨_, rfl, .inl up_h⟩ rfl ?_
     refine al_skip' ⟨_, rfl, .inl (up_m rfl up_h)⟩ rfl ?_
     refine al_skip' ⟨_, rfl, .inl (u2 rfl up_h)⟩ rfl ?_
     refine al_skip' ⟨_, rfl, .inl (up_m rfl (u2 rfl up_h))⟩ rfl ?_
     refine ar (ro_pickT (u4 rfl up_h) ev_c) rfl <| ar (ro_move up_h) rfl <| al_skip' ⟨_, rfl, .inl up_h⟩ rfl ?_
     refine al_skip' ⟨_, rfl, .inl (up_m rfl up_h)⟩ rfl ?_
     refine al_skip' ⟨_, rfl, .inl (u2 rfl up_h)⟩ rfl ?_
     refine al_skip' ⟨_, rfl, .inl (up_m rfl (u2 rfl up_h))⟩ rfl ?_
     refine ar (ro_pickT (u4 rfl up_h) ev_c) rfl <| ae3 (up_m rfl (u4 rfl (u8 rfl (u16 rfl (u16 rfl s2_4))))) (up_m rfl (u4 rfl (u8 rfl (u16 rfl (u16 rfl s3_4))))) up_h ?_; intro e_15 s2_15 s3_15 s72_15
     refine then_n ⟨(s72_15).trans (by (refine avb ?_; simp only [decide_eq_true_eq, Bool.false_eq_true, true_iff, false_iff, Bool.not_eq_true', decide_eq_false_iff_not]; unfold TrG; omega)), (s2_15).trans (s2_4).symm, (s3_15).trans (s3_4).symm, rfl⟩
    replace hq_14 := bf hq_14
    refine al_ro' (ro_eq (ro_ld_ptr y72_ty26 rfl mo0_2 (up_m rfl (u2 rfl (u4 rfl (u16 rfl s2_4)))) (nle rfl)) (by simp only [pS, Value.cells, Nat.reduceAdd, one_pE, one_iE, app_m, boE] <;> rfl)) ⟨_, rfl, hb_14⟩ rfl ?_
    refine al_ro' (ro_call (evL_cons up_h evL_nil) rfl (lineErr_ok l (trip_sho (by omega) (by omega) (by omega) (by omega))) y72_hcf14) ⟨_, rfl, (up_m rfl hb_14)⟩ rfl ?_
    refine al_ro' (ro_neq up_h ev_c) ⟨_, rfl, (u2 rfl hb_14)⟩ rfl ?_
    refine ar (ro_pickF (up_m rfl (u2 rfl hb_14)) up_h) rfl <| ar (ro_move up_h) rfl <| al_case up_h (fun hb_16 hq_16 => ?_) (fun hb_16 hq_16 => ?_)
    ·replace hq_16 := bnt hq_16
     refine al_skip' ⟨_, rfl, .inl hb_16⟩ rfl ?_
     refine al_skip' ⟨_, rfl, .inl (up_m rfl hb_16)⟩ rfl ?_
     refine al_skip' ⟨_, rfl, .inl (u2 rfl hb_16)⟩ rfl ?_
     refine al_skip' ⟨_, rfl, .inl (up_m rfl (u2 rfl hb_16))⟩ rfl ?_
     refine ar (ro_pickT (u4 rfl hb_16) ev_c) rfl <| ar (ro_move up_h) rfl <| al_skip' ⟨_, rfl, .inl up_h⟩ rfl ?_
     refine al_skip' ⟨_, rfl, .inl (up_m rfl up_h)⟩ rfl ?_
     refine al_skip' ⟨_, rfl, .inl (u2 rfl up_h)⟩ rfl ?_
     refine al_skip' ⟨_, rfl, .inl (up_m rfl (u2 rfl up_h))⟩ rfl ?_
     refine ar (ro_pickT (u4 rfl up_h) ev_c) rfl <| ar (ro_move up_h) rfl <| al_skip' ⟨_, rfl, .inl up_h⟩ rfl ?_
     refine al_skip' ⟨_, rfl, .inl (up_m rfl up_h)⟩ rfl ?_
     refine al_skip' ⟨_, rfl, .inl (u2 rfl up_h)⟩ rfl ?_
     refine al_skip' ⟨_, rfl, .inl (up_m rfl (u2 rfl up_h))⟩ rfl ?_
     refine ar (ro_pickT (u4 rfl up_h) ev_c) rfl <| ae3 (up_m rfl (u4 rfl (u8 rfl (u16 rfl (u16 rfl s2_4))))) (up_m rfl (u4 rfl (u8 rfl (u16 rfl (u16 rfl s3_4))))) up_h ?_; intro e_17 s2_17 s3_17 s72_17
     refine then_n ⟨(s72_17).trans (by (refine avb ?_; simp only [decide_eq_true_eq, Bool.false_eq_true, true_iff, false_iff, Bool.not_eq_true', decide_eq_false_iff_not]; unfold TrG; omega)), (s2_17).trans (s2_4).symm, (s3_17).trans (s3_4).symm, rfl⟩
    replace hq_16 := bnf hq_16
    refine al_ro' (ro_fld_ptr y72_fl96_1 rfl (u4 rfl (u8 rfl (u16 rfl s3_4)))) ⟨_, rfl, hb_16⟩ rfl ?_
    refine al_ro' (ro_eq (ro_ld_ptr y72_ty3 rfl mo1_2 up_h (nle rfl)) (by simp only [pS, Value.cells, Nat.reduceAdd, one_pE, one_iE, app_m, boE] <;> rfl)) ⟨_, rfl, (up_m rfl hb_16)⟩ rfl ?_
    refine al_ro' (ro_call (evL_cons up_h evL_nil) rfl (rSideErr_ok _) y72_hcf25) ⟨_, rfl, (u2 rfl hb_16)⟩ rfl ?_
    refine al_ro' (ro_neq up_h ev_c) ⟨_, rfl, (up_m rfl (u2 rfl hb_16))⟩ rfl ?_
    refine ar (ro_pickF (u4 rfl hb_16) up_h) rfl <| ar (ro_move up_h) rfl <| al_case up_h (fun hb_18 hq_18 => ?_) (fun hb_18 hq_18 => ?_)
    ·replace hq_18 := bnt hq_18
     refine al_skip' ⟨_, rfl, .inl hb_18⟩ rfl ?_
     refine al_skip' ⟨_, rfl, .inl (up_m rfl hb_18)⟩ rfl ?_
     refine al_skip' ⟨_, rfl, .inl (u2 rfl hb_18)⟩ rfl ?_
     refine al_skip' ⟨_, rfl, .inl (up_m rfl (u2 rfl hb_18))⟩ rfl ?_
     refine ar (ro_pickT (u4 rfl hb_18) ev_c) rfl <| ar (ro_move up_h) rfl <| al_skip' ⟨_, rfl, .inl up_h⟩ rfl ?_
     refine al_skip' ⟨_, rfl, .inl (up_m rfl up_h)⟩ rfl ?_
     refine al_skip' ⟨_, rfl, .inl (u2 rfl up_h)⟩ rfl ?_
     refine al_skip' ⟨_, rfl, .inl (up_m rfl (u2 rfl up_h))⟩ rfl ?_
     refine ar (ro_pickT (u4 rfl up_h) ev_c) rfl <| ae3 (up_m rfl (u4 rfl (u8 rfl (u16 rfl (u16 rfl s2_4))))) (up_m rfl (u4 rfl (u8 rfl (u16 rfl (u16 rfl s3_4))))) up_h ?_; intro e_19 s2_19 s3_19 s72_19
     refine then_n ⟨(s72_19).trans (by (refine avb ?_; simp only [decide_eq_true_eq, Bool.false_eq_true, true_iff, false_iff, Bool.not_eq_true', decide_eq_false_iff_not]; unfold TrG; omega)), (s2_19).trans (s2_4).symm, (s3_19).trans (s3_4).symm, rfl⟩
    replace hq_18 := bnf hq_18
    refine al_ro' (ro_fld_ptr y72_fl96_0 rfl (u2 rfl (u16 rfl (u16 rfl s3_4)))) ⟨_, rfl, hb_18⟩ rfl ?_
    refine al_ro' (ro_eq (ro_ld_ptr y72_ty93 rfl mo1_2 up_h (nle rfl)) (by simp only [pS, Value.cells, Nat.reduceAdd, one_pE, one_iE, app_m, boE] <;> rfl)) ⟨_, rfl, (up_m rfl hb_18)⟩ rfl ?_
    refine al_ro' (ro_call (evL_cons up_h evL_nil) rfl (rCheckSystem_ok b d v) y72_hcf55) ⟨_, rfl, (u2 rfl hb_18)⟩ rfl ?_
    refine al_ro' (ro_neq up_h ev_c) ⟨_, rfl, (up_m rfl (u2 rfl hb_18))⟩ rfl ?_
    refine ar (ro_pickF (u4 rfl hb_18) up_h) rfl <| ar (ro_move up_h) rfl <| al_case up_h (fun hb_20 hq_20 => ?_) (fun hb_20 hq_20 => ?_)
    ·replace hq_20 := bnt hq_20
     refine al_skip' ⟨_, rfl, .inl hb_20⟩ rfl ?_
     refine al_skip' ⟨_, rfl, .inl (up_m rfl hb_20)⟩ rfl ?_
     refine al_skip' ⟨_, rfl, .inl (u2 rfl hb_20)⟩ rfl ?_
     refine al_skip' ⟨_, rfl, .inl (up_m rfl (u2 rfl hb_20))⟩ rfl ?_
     refine ar (ro_pickT (u4 rfl hb_20) ev_c) rfl <| ae3 (up_m rfl (u4 rfl (u8 rfl (u16 rfl (u16 rfl s2_4))))) (up_m rfl (u4 rfl (u8 rfl (u16 rfl (u16 rfl s3_4))))) up_h ?_; intro e_21 s2_21 s3_21 s72_21
     refine then_n ⟨(s72_21).trans (by (refine avb ?_; simp only [decide_eq_true_eq, Bool.false_eq_true, true_iff, false_iff, Bool.not_eq_true', decide_eq_false_iff_not]; unfold TrG; omega)), (s2_21).trans (s2_4).symm, (s3_21).trans (s3_4).symm, rfl⟩
    replace hq_20 := bnf hq_20
    refine al_ro' (ro_fld_ptr y72_fl96_2 rfl (u8 rfl (u16 rfl (u16 rfl s3_4)))) ⟨_, rfl, hb_20⟩ rfl ?_
    refine al_ro' (ro_eq (ro_ld_ptr y72_ty94 rfl mo1_2 up_h (nle rfl)) (by simp only [pS, Value.cells, Nat.reduceAdd, one_pE, one_iE, app_m, boE] <;> rfl)) ⟨_, rfl, (up_m rfl hb_20)⟩ rfl ?_
    refine al_ro' (ro_eq (ro_len_row up_h rfl y72_sl94.1) (by simp only [lnS] <;> rfl)) ⟨_, rfl, (u2 rfl hb_20)⟩ rfl ?_
    refine al_ro' (ro_gtr up_h ev_c) ⟨_, rfl, (up_m rfl (u2 rfl hb_20))⟩ rfl ?_
    refine ar (ro_pickF (u4 rfl hb_20) up_h) rfl <| ae3 (up_m rfl (u4 rfl (u8 rfl (u16 rfl (u16 rfl s2_4))))) (up_m rfl (u4 rfl (u8 rfl (u16 rfl (u16 rfl s3_4))))) up_h ?_; intro e_22 s2_22 s3_22 s72_22
    refine then_n ⟨(s72_22).trans (by (refine avb ?_; simp only [decide_eq_true_eq, Bool.false_eq_true, true_iff, false_iff, Bool.not_eq_true', decide_eq_false_iff_not]; unfold TrG; omega)), (s2_22).trans (s2_4).symm, (s3_22).trans (s3_4).symm, rfl⟩
  · rintro e_7 _ ⟨s72_7, k2_7, k3_7, rfl⟩
    have s2_7 := k2_7.trans s2_4
    have s3_7 := k3_7.trans s3_4
    refine aw_case s72_7 (fun hq_23 => ?_) (fun hq_23 => ?_)
    ·replace hq_23 := bt hq_23
     refine aw_seq <| at_ <| ar (ro_assign ev_c) rfl <| ae1 up_h ?_; clear s2_7 s3_7 s72_7; intro e_24 s4_24
     refine then_n <| aw_ret <| then_r <| ret1 (.inr rfl) (by kernel_rfl) (resV_tmp s4_24) (.ro _ rfl) ?_
     clear s4_24 mo1_2 mo0_2 ml_2
     (first | rfl | (exfalso; omega) | (exfalso; rw [c4] at hq_175; exact absurd hq_175 (by decide)) | (exfalso; simp_all; done) | (refine avb ?_; simp only [decide_eq_true_eq, Bool.false_eq_true, true_iff, false_iff, iff_true]; omega))
    replace hq_23 := bf hq_23
    (have hG : TrG l b d v sd lv := (by first | assumption | exact Classical.not_not.1 (by assumption)); obtain ⟨g1, g2, g3, g4, hg, hs, hsy, g8⟩ := id hG; have hl := trip_sho g1 g2 g3 g4; have hr := rgt_of hg; have hjs := hr.js; have hn0 := hr.n0; have hll := limL_len l sd (l.js.length - 2); generalize hlq : limL l sd (l.js.length - 2) = ls at hll)
    refine aw_skip <| then_n <| aw_seq <| aw_draw 10 (by kernel_rfl) (by kernel_rfl) (by kernel_rfl) (by kernel_rfl) ?_
    refine dr (ro_eq (ro_ld_ptr y72_ty26 rfl mo0_2 s2_7 (nle rfl)) (by simp only [pS, Value.cells, Nat.reduceAdd, one_pE, one_iE, app_m, boE] <;> rfl)) rfl ?_
    refine dr (ro_call (evL_cons up_h evL_nil) rfl (yCopy_ok l hl) y72_hcf18) rfl <| dr (ro_fld_ptr y72_fl96_1 rfl (u2 rfl s3_7)) rfl <| dr (ro_eq (ro_ld_ptr y72_ty3 rfl mo1_2 up_h (nle rfl)) (by simp only [pS, Value.cells, Nat.reduceAdd, one_pE, one_iE, app_m, boE] <;> rfl)) rfl ?_
    refine dr (ro_call (evL_cons (u2 rfl up_h) (evL_cons up_h evL_nil)) rfl ((limitsOf_good l hl hg sd hs).mono (fun q h => h.trans (by rw [hlq]))) y72_hcf24) rfl ?_
    refine dr (ro_move up_h) rfl <| dr (ro_extract up_h rfl) rfl <| dr (ro_extract (up_m rfl up_h) rfl) rfl <| dr (ro_assign (up_m rfl up_h)) rfl <| dr (ro_assign (up_m rfl up_h)) rfl <| ds_nil <| ae4 (u2 rfl (u8 rfl s2_7)) (u2 rfl (u8 rfl s3_7)) (up_m rfl up_h) up_h ?_; clear s2_7 s3_7 s72_7; intro e_25 s2_25 s3_25 s5_25 s6_25
    refine then_n <| aw_seq <| aw_seq <| at_ <| ar (ro_move s6_25) rfl <| ar (ro_neq up_h ev_c) rfl <| ar (ro_move up_h) rfl <| al_case up_h (fun hb_26 hq_26 => ?_) (fun hb_26 hq_26 => ?_)
    · replace hq_26 := bnt hq_26; exfalso; omega
    replace hq_26 := bnf hq_26
    refine al_ro' (ro_move (up_m rfl (u2 rfl s5_25))) ⟨_, rfl, hb_26⟩ rfl ?_
    refine al_ro' (ro_eq (ro_len_row up_h rfl y72_sl49.1) (by simp only [lnS] <;> rfl)) ⟨_, rfl, (up_m rfl hb_26)⟩ rfl ?_
    refine al_ro' (ro_fld_ptr qfl26_2 rfl (up_m rfl (u4 rfl s2_25))) ⟨_, rfl, (u2 rfl hb_26)⟩ rfl ?_
    refine al_ro' (ro_eq (ro_ld_ptr y72_ty23 rfl mo0_2 up_h (nle rfl)) (by simp only [pS, Value.cells, Nat.reduceAdd, one_pE, one_iE, app_m, boE] <;> rfl)) ⟨_, rfl, (up_m rfl (u2 rfl hb_26))⟩ rfl ?_
    refine al_ro' (ro_eq (ro_len_row up_h rfl y72_sl23.1) (by simp only [lnS] <;> rfl)) ⟨_, rfl, (u4 rfl hb_26)⟩ rfl ?_
    (refine al_ro' (ro_sub' up_h ev_c ?_) ⟨_, rfl, (up_m rfl (u4 rfl hb_26))⟩ rfl ?_; · (unfold In64; omega))
    refine al_ro' (ro_neq (u4 rfl up_h) up_h) ⟨_, rfl, (u2 rfl (u4 rfl hb_26))⟩ rfl ?_
    refine ar (ro_pickF (up_m rfl (u2 rfl (u4 rfl hb_26))) up_h) rfl <| ae4 (up_m rfl (u2 rfl (u8 rfl s2_25))) (up_m rfl (u2 rfl (u8 rfl s3_25))) (up_m rfl (u2 rfl (u8 rfl s5_25))) up_h ?_; clear hb_26 s2_25 s3_25 s5_25 s6_25; intro e_30 s2_30 s3_30 s5_30 s91_30
    refine then_n <| aw_case s91_30 (fun hq_31 => ?_) (fun hq_31 => ?_)
    · replace hq_31 := bnt hq_31; exfalso; omega
    replace hq_31 := bnf hq_31
    refine aw_skip <| then_n <| aw_seq <| at_ <| ar (ro_build (evP_cons ev_c evP_nil) qbz100 qbu100 qbp100 rfl) rfl ?_
    refine al_stm (st_alloc qaz100 rfl ml_2) trivial rfl (fun m_33 hm_33 => ?_)
    have mo2_33 := m_push hm_33 ml_2
    simp only [pS, Value.cells, Nat.reduceAdd, one_pE, one_iE, app_m, boE] at mo2_33
    have mo1_33 := m_push_o hm_33 mo1_2
    have mo0_33 := m_push_o hm_33 mo0_2
    have ml_33 := m_push_l hm_33 ml_2
    have ml_33 : _ = 3 := ml_33
    clear hm_33 mo1_2 mo0_2
    refine al_stm (st_store up_h (up_m rfl up_h) rfl rfl mo2_33 qsz100 rfl (nle rfl)) trivial rfl (fun m_34 hm_34 => ?_)
    have mo2_34 := m_set hm_34 mo2_33
    simp only [pS, Value.cells, Nat.reduceAdd, one_pE, one_iE, app_m, boE] at mo2_34
    have mo1_34 := m_set_o hm_34 mo1_33 (by decide)
    have mo0_34 := m_set_o hm_34 mo0_33 (by decide)
    have ml_34 := m_set_l hm_34 ml_33
    clear hm_34 mo2_33 mo1_33 mo0_33
    refine ae4 (up_n (u2 rfl s2_30)) (up_n (u2 rfl s3_30)) (up_n (u2 rfl s5_30)) (up_n up_h) ?_; clear s2_30 s3_30 s5_30 s91_30; intro e_35 s2_35 s3_35 s5_35 s7_35
    refine then_n <| aw_seq <| at_ <| al_stm (st_lit y72_sl49 ml_34 (evP_cons ev_c evP_nil) rfl rfl rfl rfl) trivial rfl (fun m_36 hm_36 => ?_)
    have mo3_36 := m_push hm_36 ml_34
    simp only [pS, Value.cells, Nat.reduceAdd, one_pE, one_iE, app_m, boE] at mo3_36
    have mo2_36 := m_push_o hm_36 mo2_34
    have mo1_36 := m_push_o hm_36 mo1_34
    have mo0_36 := m_push_o hm_36 mo0_34
    have ml_36 := m_push_l hm_36 ml_34
    have ml_36 : _ = 4 := ml_36
    clear hm_36 mo2_34 mo1_34 mo0_34
    refine ar (ro_assign up_h) rfl <| ae5 (u2 rfl s2_35) (u2 rfl s3_35) (u2 rfl s5_35) (u2 rfl s7_35) up_h ?_; clear s2_35 s3_35 s5_35 s7_35; intro e_37 s2_37 s3_37 s5_37 s7_37 s8_37
    refine then_n <| aw_seq <| aw_seq <| at_ <| ar (ro_assign ev_c) rfl <| ae6 (up_m rfl s2_37) (up_m rfl s3_37) (up_m rfl s5_37) (up_m rfl s7_37) (up_m rfl s8_37) up_h ?_; clear s2_37 s3_37 s5_37 s7_37 s8_37; intro e_38 s2_38 s3_38 s5_38 s7_38 s8_38 s9_38
    refine then_n <| aw_block <| aw_adoptC 104 4 1 mo2_36 rfl ml_36 (fun m0_39 m_39 h0_39 h1_39 => ?_)
    have mp4_39 := m_push h0_39 ml_36
    have mo4_39 := m_set_o h1_39 mp4_39 (by decide)
    have mp3_39 := m_push_o h0_39 mo3_36
    have mo3_39 := m_set_o h1_39 mp3_39 (by decide)
    have mp2_39 := m_push_o h0_39 mo2_36
    have mo2_39 := m_set h1_39 mp2_39
    simp only [List.set_cons_zero, List.set_cons_succ] at mo2_39
    have mp1_39 := m_push_o h0_39 mo1_36
    have mo1_39 := m_set_o h1_39 mp1_39 (by decide)
    have mp0_39 := m_push_o h0_39 mo0_36
    have mo0_39 := m_set_o h1_39 mp0_39 (by decide)
    have mq_39 := m_push_l h0_39 ml_36
    have ml_39 : _ = 5 := m_set_l h1_39 mq_39
    clear h0_39 h1_39 mq_39 mp4_39 mp3_39 mp2_39 mp1_39 mp0_39
    refine aw_loop (S := (Int × Nat × List Piece × List Int)) (fun s e mem => match s with | ⟨i, k, ps, pl⟩ => (evA e (.tmp 9) = .v (.int .i64 i)) ∧ (evA e (.tmp 2) = evA e_38 (.tmp 2)) ∧ (evA e (.tmp 3) = evA e_38 (.tmp 3)) ∧ (evA e (.tmp 5) = evA e_38 (.tmp 5)) ∧ (evA e (.tmp 7) = evA e_38 (.tmp 7)) ∧ (mem[2]? = some (.box 100 [.v (.string wayN), .own k])) ∧ (mem[k]? = some (.row 104 4 (ps.map pE))) ∧ (mem[1]? = m_39[1]?) ∧ (mem[0]? = m_39[0]?) ∧ (∃ j, evA e (.tmp 8) = .own j ∧ mem[j]? = some (.row 3 1 (pl.map iE)) ∧ j ≠ 1 ∧ j ≠ 0 ∧ j ≠ 2 ∧ j ≠ k) ∧ (∃ n, mem.length = n ∧ 5 ≤ n) ∧ ((4 ≤ k ∧ 0 ≤ i ∧ i ≤ l.bs.length ∧ ps = tripN l ls lv i.toNat ∧ pl = pplL l.bs i.toNat))) (fun s => match s with | ⟨i, k, ps, pl⟩ => (l.bs.length - i).toNat) ⟨_, _, [], [0]⟩ ⟨s9_38, rfl, rfl, rfl, rfl, mo2_39, mo4_39, rfl, rfl, ⟨_, s8_38, mo3_39, (by decide), (by decide), (by decide), (by omega)⟩, ⟨_, ml_39, Nat.le_refl _⟩, ?_⟩ ?_
    · (exact ⟨by omega, by omega, by omega, rfl, rfl⟩)
    · rintro ⟨i, k, ps, pl⟩ e_40 m_40 ⟨s9_40, k2_40, k3_40, k5_40, k7_40, mo2_40, mok_40, mk1_40, mk0_40, ⟨j8_40, s8_40, mo_j8_40, nj8_1_40, nj8_0_40, nj8_2_40, nj8_k_40⟩, ⟨n_40, ml_40, hn_40⟩, hinv⟩
      have s2_40 := k2_40.trans s2_38
      have s3_40 := k3_40.trans s3_38
      have s5_40 := k5_40.trans s5_38
      have s7_40 := k7_40.trans s7_38
      have mo1_40 := mk1_40.trans mo1_39
      have mo0_40 := mk0_40.trans mo0_39
      have jl8_40 := m_lt mo_j8_40 ml_40
      have jlk_40 := m_lt mok_40 ml_40
      (obtain ⟨q1, p1, p2, p3, p4⟩ := hinv; have hpl : ps.length ≤ 10 := (by rw [p3, tripN_len]; omega); have hll2 : pl.length ≤ 11 := (by rw [p4, pplL_len]; omega))
      refine aw_seq <| aw_seq <| at_ <| ar (ro_move s9_40) rfl <| ar (ro_fld_ptr qfl26_2 rfl (up_m rfl s2_40)) rfl <| ar (ro_eq (ro_ld_ptr y72_ty23 rfl mo0_40 up_h (nle rfl)) (by simp only [pS, Value.cells, Nat.reduceAdd, one_pE, one_iE, app_m, boE] <;> rfl)) rfl ?_
      refine ar (ro_eq (ro_len_row up_h rfl y72_sl23.1) (by simp only [lnS] <;> rfl)) rfl ?_
      refine ar (ro_lss (up_m rfl (u2 rfl up_h)) up_h) rfl <| ae7 (up_m rfl (u4 rfl s2_40)) (up_m rfl (u4 rfl s3_40)) (up_m rfl (u4 rfl s5_40)) (up_m rfl (u4 rfl s7_40)) (up_m rfl (u4 rfl s8_40)) (up_m rfl (u4 rfl s9_40)) up_h ?_; clear s2_40 s3_40 s5_40 s7_40 s8_40 s9_40; intro e_41 s2_41 s3_41 s5_41 s7_41 s8_41 s9_41 s98_41
      refine then_n <| aw_case s98_41 (fun hq_42 => ?_) (fun hq_42 => ?_)
      ·replace hq_42 := bt hq_42
       (have hm1 : misE i 0 (l.bs.length - 1) = 0 := (by unfold misE; rw [if_pos (withinB_iff.2 (by omega))]); have hm2 : misE (i + 1) 0 (l.js.length - 1) = 0 := (by unfold misE; rw [if_pos (withinB_iff.2 (by omega))]); obtain ⟨gb1, gb2, gb3, gb4⟩ := gra_bd hr (i := i.toNat) (by omega); have hgb5 : (graX l i.toNat) / 1 = graX l i.toNat := Int.ediv_one _)
       refine aw_skip <| then_n <| aw_seq <| aw_block <| aw_seq <| at_ <| ar (ro_eq (ro_ld_ptr y72_ty26 rfl mo0_40 s2_41 (nle rfl)) (by simp only [pS, Value.cells, Nat.reduceAdd, one_pE, one_iE, app_m, boE] <;> rfl)) rfl ?_
       refine ar (ro_call (evL_cons up_h evL_nil) rfl (yCopy_ok l hl) y72_hcf18) rfl <| ar (ro_move (u2 rfl s9_41)) rfl <| ar (ro_call (evL_cons (up_m rfl up_h) (evL_cons up_h evL_nil)) rfl (gradientOf_in l hl hg i hm1) y72_hcf46) rfl <| ar (ro_move up_h) rfl <| ar (ro_extract up_h rfl) rfl <| ar (ro_extract (up_m rfl up_h) rfl) rfl <| al_stm (st_alloc qaz81 rfl ml_40) trivial rfl (fun m_43 hm_43 => ?_)
       have mon_40_43 := m_push hm_43 ml_40
       simp only [pS, Value.cells, Nat.reduceAdd, one_pE, one_iE, app_m, boE] at mon_40_43
       have mo2_43 := m_push_o hm_43 mo2_40
       have mok_43 := m_push_o hm_43 mok_40
       have mo1_43 := m_push_o hm_43 mo1_40
       have mo0_43 := m_push_o hm_43 mo0_40
       have moj8_40_43 := m_push_o hm_43 mo_j8_40
       have ml_43 := m_push_l hm_43 ml_40
       clear hm_43 mo2_40 mok_40 mo1_40 mo0_40 mo_j8_40
       refine al_stm (st_store up_h (u2 rfl up_h) rfl rfl mon_40_43 qsz81 rfl (nle rfl)) trivial rfl (fun m_44 hm_44 => ?_)
       have mon_40_44 := m_set hm_44 mon_40_43
       simp only [pS, Value.cells, Nat.reduceAdd, one_pE, one_iE, app_m, boE] at mon_40_44
       have mo2_44 := m_set_o hm_44 mo2_43 (by omega)
       have mok_44 := m_set_o hm_44 mok_43 (by omega)
       have mo1_44 := m_set_o hm_44 mo1_43 (by omega)
       have mo0_44 := m_set_o hm_44 mo0_43 (by omega)
       have moj8_40_44 := m_set_o hm_44 moj8_40_43 (by omega)
       have ml_44 := m_set_l hm_44 ml_43
       clear hm_44 mon_40_43 mo2_43 mok_43 mo1_43 mo0_43 moj8_40_43
       refine ar (ro_assign (up_n (up_m rfl up_h))) rfl <| ae8 (up_m rfl (up_n (u8 rfl s2_41))) (up_m rfl (up_n (u8 rfl s3_41))) (up_m rfl (up_n (u8 rfl s5_41))) (up_m rfl (up_n (u8 rfl s7_41))) (up_m rfl (up_n (u8 rfl s8_41))) (up_m rfl (up_n (u8 rfl s9_41))) (up_m rfl (up_n up_h)) up_h ?_; clear s2_41 s3_41 s5_41 s7_41 s8_41 s98_41 s9_41; intro e_45 s2_45 s3_45 s5_45 s7_45 s8_45 s9_45 s10_45 s11_45
       refine then_n <| aw_seq <| at_ <| ar (ro_eq (ro_ld_ptr y72_ty26 rfl mo0_44 s2_45 (nle rfl)) (by simp only [pS, Value.cells, Nat.reduceAdd, one_pE, one_iE, app_m, boE] <;> rfl)) rfl ?_
       refine ar (ro_call (evL_cons up_h evL_nil) rfl (yCopy_ok l hl) y72_hcf18) rfl <| ar (ro_move (u2 rfl s9_45)) rfl ?_
       (refine ar (ro_add' up_h ev_c ?_) rfl ?_; · (unfold In64; omega))
       refine ar (ro_call (evL_cons (u2 rfl up_h) (evL_cons up_h evL_nil)) rfl ((placeOf_good l hl hg (i + 1)).mono (fun q h => h.trans (by rw [hm2, if_pos rfl]))) y72_hcf56) rfl ?_
       refine ar (ro_move up_h) rfl <| ar (ro_extract up_h rfl) rfl <| ar (ro_extract (up_m rfl up_h) rfl) rfl <| ar (ro_assign (up_m rfl up_h)) rfl <| ar (ro_assign (up_m rfl up_h)) rfl <| ae10 (u2 rfl (u8 rfl s2_45)) (u2 rfl (u8 rfl s3_45)) (u2 rfl (u8 rfl s5_45)) (u2 rfl (u8 rfl s7_45)) (u2 rfl (u8 rfl s8_45)) (u2 rfl (u8 rfl s9_45)) (u2 rfl (u8 rfl s10_45)) (u2 rfl (u8 rfl s11_45)) (up_m rfl up_h) up_h ?_; clear s10_45 s11_45 s2_45 s3_45 s5_45 s7_45 s8_45 s9_45; intro e_46 s2_46 s3_46 s5_46 s7_46 s8_46 s9_46 s10_46 s11_46 s12_46 s13_46
       refine then_n <| aw_seq <| aw_seq <| at_ <| ar (ro_move s11_46) rfl <| ar (ro_neq up_h ev_c) rfl <| ar (ro_move up_h) rfl <| al_case up_h (fun hb_47 hq_47 => ?_) (fun hb_47 hq_47 => ?_)
       · replace hq_47 := bnt hq_47; exfalso; omega
       replace hq_47 := bnf hq_47
       refine al_ro' (ro_move (up_m rfl (u2 rfl s13_46))) ⟨_, rfl, hb_47⟩ rfl ?_
       refine al_ro' (ro_neq up_h ev_c) ⟨_, rfl, (up_m rfl hb_47)⟩ rfl ?_
       refine ar (ro_pickF (u2 rfl hb_47) up_h) rfl <| ar (ro_move up_h) rfl <| al_case up_h (fun hb_51 hq_51 => ?_) (fun hb_51 hq_51 => ?_)
       · replace hq_51 := bnt hq_51; exfalso; omega
       replace hq_51 := bnf hq_51
       refine al_ro' (ro_fld_ptr y72_fl81_1 rfl (up_m rfl (u2 rfl (u4 rfl s10_46)))) ⟨_, rfl, hb_51⟩ rfl ?_
       refine al_ro' (ro_eq (ro_ld_ptr y72_ty3 rfl mon_40_44 up_h (nle rfl)) (by simp only [pS, Value.cells, Nat.reduceAdd, one_pE, one_iE, app_m, boE] <;> rfl)) ⟨_, rfl, (up_m rfl hb_51)⟩ rfl ?_
       refine al_ro' (ro_lss up_h ev_c) ⟨_, rfl, (u2 rfl hb_51)⟩ rfl ?_
       refine ar (ro_pickF (up_m rfl (u2 rfl hb_51)) up_h) rfl <| ae9 (up_m rfl (u2 rfl (u8 rfl s2_46))) (up_m rfl (u2 rfl (u8 rfl s3_46))) (up_m rfl (u2 rfl (u8 rfl s5_46))) (up_m rfl (u2 rfl (u8 rfl s7_46))) (up_m rfl (u2 rfl (u8 rfl s8_46))) (up_m rfl (u2 rfl (u8 rfl s9_46))) (up_m rfl (u2 rfl (u8 rfl s10_46))) (up_m rfl (u2 rfl (u8 rfl s12_46))) up_h ?_; clear hb_47 hb_51 s10_46 s11_46 s12_46 s13_46 s2_46 s3_46 s5_46 s7_46 s8_46 s9_46; intro e_55 s2_55 s3_55 s5_55 s7_55 s8_55 s9_55 s10_55 s12_55 s126_55
       refine then_n <| aw_case s126_55 (fun hq_56 => ?_) (fun hq_56 => ?_)
       · replace hq_56 := bt hq_56; exfalso; omega
       replace hq_56 := bf hq_56
       refine aw_skip <| then_n <| aw_seq <| aw_drawK 25 1 ml_44 (by kernel_rfl) (by kernel_rfl) (by kernel_rfl) (by kernel_rfl) (fun m_58 hm_58 => ?_)
       have mon_40_58 := m_room_o hm_58 mon_40_44
       have mo2_58 := m_room_o hm_58 mo2_44
       have mok_58 := m_room_o hm_58 mok_44
       have mo1_58 := m_room_o hm_58 mo1_44
       have mo0_58 := m_room_o hm_58 mo0_44
       have moj8_40_58 := m_room_o hm_58 moj8_40_44
       have mon_40_1_58 : m_58[n_40 + 1]? = _ := m_room_g hm_58 ml_44 0 rfl rfl
       have ml_58 : _ = n_40 + 1 + 1 := m_room_l (K := 1) hm_58 ml_44
       clear hm_58 mon_40_44 mo2_44 mok_44 mo1_44 mo0_44 moj8_40_44 ml_44
       refine dh_ro (fun M_ hM_ => (ro_fld_ptr qfl26_2 rfl s2_55)) trivial ?_
       refine dh_ld (0) (fun M_ hM_ => (ro_eq (ro_ld_ptr y72_ty23 rfl (agr hM_ mo0_58 (by simp)) up_h (nle rfl)) (by simp only [pS, Value.cells, Nat.reduceAdd, one_pE, one_iE, app_m, boE] <;> rfl))) trivial trivial ?_
       refine dh_ro (fun M_ hM_ => (ro_move (u2 rfl s9_55))) trivial ?_
       refine dh_ro (fun M_ hM_ => (ro_eq (ro_ix y72_sl23 (up_m rfl up_h) up_h (by omega) (by first | (refine idx_map ?_; first | omega | (simp only [lnS]; omega)) | (refine idx_mapI ?_; first | omega | (simp only [lnS]; omega)) | (refine idx_mapN ?_; first | omega | (simp only [lnS]; omega)) | rfl)) (by rfl))) trivial ?_
       refine dh_ro (fun M_ hM_ => (ro_eq (ro_fld_ref qfl87_0 rfl up_h) (by simp only [pS, Value.cells, Nat.reduceAdd, one_pE, one_iE, app_m, boE] <;> rfl))) trivial ?_
       refine dh_ro (fun M_ hM_ => (ro_eq (ro_ld_ref y72_ty3 rfl up_h (nle rfl)) (by simp only [pS, Value.cells, Nat.reduceAdd, one_pE, one_iE, app_m, boE] <;> rfl))) trivial ?_
       refine dh_ro (fun M_ hM_ => (ro_fld_ptr y72_fl81_0 rfl (u2 rfl (u4 rfl s10_55)))) trivial ?_
       refine dh_ld (n_40) (fun M_ hM_ => (ro_eq (ro_ld_ptr y72_ty3 rfl (agr hM_ mon_40_58 (by simp)) up_h (nle rfl)) (by simp only [pS, Value.cells, Nat.reduceAdd, one_pE, one_iE, app_m, boE] <;> rfl))) trivial trivial ?_
       refine dh_ro (fun M_ hM_ => (ro_fld_ptr y72_fl81_1 rfl (u8 rfl s10_55))) trivial ?_
       refine dh_ld (n_40) (fun M_ hM_ => (ro_eq (ro_ld_ptr y72_ty3 rfl (agr hM_ mon_40_58 (by simp)) up_h (nle rfl)) (by simp only [pS, Value.cells, Nat.reduceAdd, one_pE, one_iE, app_m, boE] <;> rfl))) trivial trivial ?_
       refine dh_ro (fun M_ hM_ => (ro_call (evL_cons (u2 rfl up_h) (evL_cons up_h evL_nil)) rfl (bFloor_ok _ _ (by omega) (by omega)) y72_hcf57)) trivial ?_
       refine dh_ro (fun M_ hM_ => (ro_move (up_m rfl (u2 rfl (u8 rfl s9_55))))) trivial ?_
       refine dh_ro (fun M_ hM_ => (ro_fld_ptr y72_fl96_2 rfl (u4 rfl (u8 rfl s3_55)))) trivial ?_
       refine dh_ld (1) (fun M_ hM_ => (ro_eq (ro_ld_ptr y72_ty94 rfl (agr hM_ mo1_58 (by simp)) up_h (nle rfl)) (by simp only [pS, Value.cells, Nat.reduceAdd, one_pE, one_iE, app_m, boE] <;> rfl))) trivial trivial ?_
       refine dh_ro (fun M_ hM_ => (ro_eq (ro_len_row up_h rfl y72_sl94.1) (by simp only [lnS] <;> rfl))) trivial ?_
       refine dh_ro (fun M_ hM_ => (ro_lss (up_m rfl (u2 rfl up_h)) up_h)) trivial ?_
       refine dh_ro (fun M_ hM_ => (ro_move up_h)) trivial ?_
       refine dh_case up_h (fun hb_59 hq_59 => ?_) (fun hb_59 hq_59 => ?_)
       ·replace hq_59 := bt hq_59
        refine dh_ro (fun M_ hM_ => (ro_fld_ptr y72_fl96_2 rfl (up_m rfl (u16 rfl s3_55)))) ⟨_, rfl, hb_59⟩ ?_
        refine dh_ld (1) (fun M_ hM_ => (ro_eq (ro_ld_ptr y72_ty94 rfl (agr hM_ mo1_58 (by simp)) up_h (nle rfl)) (by simp only [pS, Value.cells, Nat.reduceAdd, one_pE, one_iE, app_m, boE] <;> rfl))) ⟨_, rfl, (up_m rfl hb_59)⟩ trivial ?_
        refine dh_ro (fun M_ hM_ => (ro_move (up_m rfl (u2 rfl (u16 rfl s9_55))))) ⟨_, rfl, (u2 rfl hb_59)⟩ ?_
        refine dh_ro (fun M_ hM_ => (ro_eq (ro_ix y72_sl94 (up_m rfl up_h) up_h (by omega) (by first | (refine idx_map ?_; first | omega | (simp only [lnS]; omega)) | (refine idx_mapI ?_; first | omega | (simp only [lnS]; omega)) | (refine idx_mapN ?_; first | omega | (simp only [lnS]; omega)) | rfl)) (by simp only [pS, Value.cells, Nat.reduceAdd, one_pE, one_iE, app_m, boE] <;> rfl))) ⟨_, rfl, (up_m rfl (u2 rfl hb_59))⟩ ?_
        refine dh_ro (fun M_ hM_ => (ro_eq (ro_ld_ref y72_ty4 rfl up_h (nle rfl)) (by simp only [pS, Value.cells, Nat.reduceAdd, one_pE, one_iE, app_m, boE] <;> rfl))) ⟨_, rfl, (u4 rfl hb_59)⟩ ?_
        refine dh_ro (fun M_ hM_ => (ro_pickT (up_m rfl (u4 rfl hb_59)) up_h)) trivial ?_
        refine dh_ro (fun M_ hM_ => (ro_build (evP_cons (up_m rfl (u16 rfl up_h)) (evP_cons (u4 rfl (u8 rfl up_h)) (evP_cons ev_c (evP_cons up_h evP_nil)))) qbz104 qbu104 qbp104 rfl)) trivial ?_
        refine dh_nw (n_40 + 1) (fun M_ hM_ => (nw_alloc qaz104 rfl)) trivial mon_40_1_58 rfl trivial ⟨.inl (by simp <;> omega), ⟨.inl (by simp <;> omega), ⟨.inl (by simp <;> omega), ⟨.inl (by simp <;> omega), ⟨.inl (by simp <;> omega), trivial⟩⟩⟩⟩⟩ (fun m_60 hm_60 => ?_)
        have mon_40_1_60 := m_set hm_60 mon_40_1_58
        simp only [pS, Value.cells, Nat.reduceAdd, one_pE, one_iE, app_m, boE] at mon_40_1_60
        have mon_40_60 := m_set_o hm_60 mon_40_58 (by omega)
        have mo2_60 := m_set_o hm_60 mo2_58 (by omega)
        have mok_60 := m_set_o hm_60 mok_58 (by omega)
        have mo1_60 := m_set_o hm_60 mo1_58 (by omega)
        have mo0_60 := m_set_o hm_60 mo0_58 (by omega)
        have moj8_40_60 := m_set_o hm_60 moj8_40_58 (by omega)
        have ml_60 := m_set_l hm_60 ml_58
        clear hm_60 mon_40_58 mo2_58 mok_58 mo1_58 mo0_58 moj8_40_58 mon_40_1_58
        refine dh_nil rfl ?_
        refine al_stm (st_store up_h (up_m rfl up_h) rfl rfl mon_40_1_60 qsz104 rfl (nle rfl)) trivial rfl (fun m_61 hm_61 => ?_)
        have mon_40_1_61 := m_set hm_61 mon_40_1_60
        simp only [pS, Value.cells, Nat.reduceAdd, one_pE, one_iE, app_m, boE] at mon_40_1_61
        have mon_40_61 := m_set_o hm_61 mon_40_60 (by omega)
        have mo2_61 := m_set_o hm_61 mo2_60 (by omega)
        have mok_61 := m_set_o hm_61 mok_60 (by omega)
        have mo1_61 := m_set_o hm_61 mo1_60 (by omega)
        have mo0_61 := m_set_o hm_61 mo0_60 (by omega)
        have moj8_40_61 := m_set_o hm_61 moj8_40_60 (by omega)
        have ml_61 := m_set_l hm_61 ml_60
        clear hm_61 mon_40_1_60 mon_40_60 mo2_60 mok_60 mo1_60 mo0_60 moj8_40_60
        refine ae8 (up_n (up_m rfl (u8 rfl (u16 rfl s2_55)))) (up_n (up_m rfl (u8 rfl (u16 rfl s3_55)))) (up_n (up_m rfl (u8 rfl (u16 rfl s5_55)))) (up_n (up_m rfl (u8 rfl (u16 rfl s7_55)))) (up_n (up_m rfl (u8 rfl (u16 rfl s8_55)))) (up_n (up_m rfl (u8 rfl (u16 rfl s9_55)))) (up_n (up_m rfl (u8 rfl (u16 rfl s12_55)))) (up_n up_h) ?_; clear hb_59 s10_55 s126_55 s12_55 s2_55 s3_55 s5_55 s7_55 s8_55 s9_55; intro e_62 s2_62 s3_62 s5_62 s7_62 s8_62 s9_62 s12_62 s14_62
        refine then_n <| aw_seq <| aw_seq <| at_ <| ar (ro_move s9_62) rfl <| ar (ro_gtr up_h ev_c) rfl <| ae9 (u2 rfl s2_62) (u2 rfl s3_62) (u2 rfl s5_62) (u2 rfl s7_62) (u2 rfl s8_62) (u2 rfl s9_62) (u2 rfl s12_62) (u2 rfl s14_62) up_h ?_; clear s12_62 s14_62 s2_62 s3_62 s5_62 s7_62 s8_62 s9_62; intro e_63 s2_63 s3_63 s5_63 s7_63 s8_63 s9_63 s12_63 s14_63 s152_63
        refine then_n <| aw_case s152_63 (fun hq_64 => ?_) (fun hq_64 => ?_)
        ·replace hq_64 := bt hq_64
         refine aw_draw 9 (by kernel_rfl) (by kernel_rfl) (by kernel_rfl) (by kernel_rfl) ?_
         refine dr (ro_fld_ptr qfl104_2 rfl s14_63) rfl <| dr (ro_eq (ro_ld_ptr y72_ty3 rfl mon_40_1_61 up_h (nle rfl)) (by simp only [pS, Value.cells, Nat.reduceAdd, one_pE, one_iE, app_m, boE] <;> rfl)) rfl ?_
         refine dr (ro_move (u2 rfl s5_63)) rfl <| dr (ro_move (up_m rfl (u2 rfl s9_63))) rfl ?_
         (refine dr (ro_sub' up_h ev_c ?_) rfl ?_; · (unfold In64; omega))
         refine dr (ro_eq (ro_ix y72_sl49 (u2 rfl up_h) up_h (by omega) (by first | (refine idx_map ?_; first | omega | (simp only [lnS]; omega)) | (refine idx_mapI ?_; first | omega | (simp only [lnS]; omega)) | (refine idx_mapN ?_; first | omega | (simp only [lnS]; omega)) | rfl)) (by simp only [pS, Value.cells, Nat.reduceAdd, one_pE, one_iE, app_m, boE] <;> rfl)) rfl ?_
         refine dr (ro_eq (ro_ld_ref y72_ty3 rfl up_h (nle rfl)) (by simp only [pS, Value.cells, Nat.reduceAdd, one_pE, one_iE, app_m, boE] <;> rfl)) rfl ?_
         refine dr (ro_min (up_m rfl (u4 rfl up_h)) up_h) rfl <| dr (ro_fld_ptr qfl104_2 rfl (u8 rfl s14_63)) rfl <| ds_nil <| al_stm (st_store up_h (up_m rfl up_h) rfl rfl mon_40_1_61 qsz3 rfl (nle rfl)) trivial rfl (fun m_65 hm_65 => ?_)
         have mon_40_1_65 := m_set hm_65 mon_40_1_61
         simp only [pS, Value.cells, Nat.reduceAdd, one_pE, one_iE, app_m, boE] at mon_40_1_65
         have mon_40_65 := m_set_o hm_65 mon_40_61 (by omega)
         have mo2_65 := m_set_o hm_65 mo2_61 (by omega)
         have mok_65 := m_set_o hm_65 mok_61 (by omega)
         have mo1_65 := m_set_o hm_65 mo1_61 (by omega)
         have mo0_65 := m_set_o hm_65 mo0_61 (by omega)
         have moj8_40_65 := m_set_o hm_65 moj8_40_61 (by omega)
         have ml_65 := m_set_l hm_65 ml_61
         clear hm_65 mon_40_1_61 mon_40_61 mo2_61 mok_61 mo1_61 mo0_61 moj8_40_61
         refine ae8 (up_n (up_m rfl (u8 rfl s2_63))) (up_n (up_m rfl (u8 rfl s3_63))) (up_n (up_m rfl (u8 rfl s5_63))) (up_n (up_m rfl (u8 rfl s7_63))) (up_n (up_m rfl (u8 rfl s8_63))) (up_n (up_m rfl (u8 rfl s9_63))) (up_n (up_m rfl (u8 rfl s12_63))) (up_n (up_m rfl (u8 rfl s14_63))) ?_; clear s12_63 s14_63 s152_63 s2_63 s3_63 s5_63 s7_63 s8_63 s9_63; intro e_66 s2_66 s3_66 s5_66 s7_66 s8_66 s9_66 s12_66 s14_66
         refine then_n <| aw_seq <| aw_seq <| at_ <| ar (ro_move s9_66) rfl <| ar (ro_move (up_m rfl s5_66)) rfl <| ar (ro_eq (ro_len_row up_h rfl y72_sl49.1) (by simp only [lnS] <;> rfl)) rfl ?_
         refine ar (ro_lss (u2 rfl up_h) up_h) rfl <| ae9 (u4 rfl s2_66) (u4 rfl s3_66) (u4 rfl s5_66) (u4 rfl s7_66) (u4 rfl s8_66) (u4 rfl s9_66) (u4 rfl s12_66) (u4 rfl s14_66) up_h ?_; clear s12_66 s14_66 s2_66 s3_66 s5_66 s7_66 s8_66 s9_66; intro e_67 s2_67 s3_67 s5_67 s7_67 s8_67 s9_67 s12_67 s14_67 s165_67
         refine then_n <| aw_case s165_67 (fun hq_68 => ?_) (fun hq_68 => ?_)
         ·replace hq_68 := bt hq_68
          refine aw_draw 8 (by kernel_rfl) (by kernel_rfl) (by kernel_rfl) (by kernel_rfl) ?_
          refine dr (ro_fld_ptr qfl104_2 rfl s14_67) rfl <| dr (ro_eq (ro_ld_ptr y72_ty3 rfl mon_40_1_65 up_h (nle rfl)) (by simp only [pS, Value.cells, Nat.reduceAdd, one_pE, one_iE, app_m, boE] <;> rfl)) rfl ?_
          refine dr (ro_move (u2 rfl s5_67)) rfl <| dr (ro_move (up_m rfl (u2 rfl s9_67))) rfl <| dr (ro_eq (ro_ix y72_sl49 (up_m rfl up_h) up_h (by omega) (by first | (refine idx_map ?_; first | omega | (simp only [lnS]; omega)) | (refine idx_mapI ?_; first | omega | (simp only [lnS]; omega)) | (refine idx_mapN ?_; first | omega | (simp only [lnS]; omega)) | rfl)) (by simp only [pS, Value.cells, Nat.reduceAdd, one_pE, one_iE, app_m, boE] <;> rfl)) rfl ?_
          refine dr (ro_eq (ro_ld_ref y72_ty3 rfl up_h (nle rfl)) (by simp only [pS, Value.cells, Nat.reduceAdd, one_pE, one_iE, app_m, boE] <;> rfl)) rfl ?_
          refine dr (ro_min (u4 rfl up_h) up_h) rfl <| dr (ro_fld_ptr qfl104_2 rfl (up_m rfl (u2 rfl (u4 rfl s14_67)))) rfl <| ds_nil <| al_stm (st_store up_h (up_m rfl up_h) rfl rfl mon_40_1_65 qsz3 rfl (nle rfl)) trivial rfl (fun m_69 hm_69 => ?_)
          have mon_40_1_69 := m_set hm_69 mon_40_1_65
          simp only [pS, Value.cells, Nat.reduceAdd, one_pE, one_iE, app_m, boE] at mon_40_1_69
          have mon_40_69 := m_set_o hm_69 mon_40_65 (by omega)
          have mo2_69 := m_set_o hm_69 mo2_65 (by omega)
          have mok_69 := m_set_o hm_69 mok_65 (by omega)
          have mo1_69 := m_set_o hm_69 mo1_65 (by omega)
          have mo0_69 := m_set_o hm_69 mo0_65 (by omega)
          have moj8_40_69 := m_set_o hm_69 moj8_40_65 (by omega)
          have ml_69 := m_set_l hm_69 ml_65
          clear hm_69 mon_40_1_65 mon_40_65 mo2_65 mok_65 mo1_65 mo0_65 moj8_40_65
          refine ae8 (up_n (u8 rfl s2_67)) (up_n (u8 rfl s3_67)) (up_n (u8 rfl s5_67)) (up_n (u8 rfl s7_67)) (up_n (u8 rfl s8_67)) (up_n (u8 rfl s9_67)) (up_n (u8 rfl s12_67)) (up_n (u8 rfl s14_67)) ?_; clear s12_67 s14_67 s165_67 s2_67 s3_67 s5_67 s7_67 s8_67 s9_67; intro e_70 s2_70 s3_70 s5_70 s7_70 s8_70 s9_70 s12_70 s14_70
          refine then_n <| at_ <| ar (ro_fld_ptr qfl100_1 rfl s7_70) rfl <| ar (ro_eq (ro_ld_ptr y72_ty98 rfl mo2_69 up_h (nle rfl)) (by simp only [pS, Value.cells, Nat.reduceAdd, one_pE, one_iE, app_m, boE] <;> rfl)) rfl ?_
          refine ar (ro_eq (ro_ld_ptr y72_ty104 rfl mon_40_1_69 (u2 rfl s14_70) (nle rfl)) (by simp only [pS, Value.cells, Nat.reduceAdd, one_pE, one_iE, app_m, boE] <;> rfl)) rfl ?_
          refine ar (ro_lit y72_sl98 (evP_cons up_h evP_nil) rfl rfl rfl rfl) rfl <| al_stm (st_app y72_sl98 rfl ml_69 mok_69 (u2 rfl up_h) up_h (by rfl) (by simp only [lnS] <;> omega)) trivial rfl (fun m_71 hm_71 => ?_)
          have mon_40_1_1_71 := m_swap hm_71 ml_69
          simp only [pS, Value.cells, Nat.reduceAdd, one_pE, one_iE, app_m, boE] at mon_40_1_1_71
          have mon_40_1_71 := m_swap_o hm_71 mon_40_1_69 (by omega)
          have mon_40_71 := m_swap_o hm_71 mon_40_69 (by omega)
          have mo2_71 := m_swap_o hm_71 mo2_69 (by omega)
          have mo1_71 := m_swap_o hm_71 mo1_69 (by omega)
          have mo0_71 := m_swap_o hm_71 mo0_69 (by omega)
          have moj8_40_71 := m_swap_o hm_71 moj8_40_69 (by omega)
          have ml_71 := m_swap_l hm_71 ml_69
          clear hm_71 mon_40_1_69 mon_40_69 mo2_69 mok_69 mo1_69 mo0_69 moj8_40_69
          refine ar (ro_move (up_m rfl (u4 rfl s8_70))) rfl <| ar (ro_move (u2 rfl (u4 rfl s12_70))) rfl <| ar (ro_lit y72_sl49 (evP_cons up_h evP_nil) rfl rfl rfl rfl) rfl <| al_stm (st_app y72_sl49 rfl ml_71 moj8_40_71 (u2 rfl up_h) up_h (by rfl) (by simp only [lnS] <;> omega)) trivial rfl (fun m_72 hm_72 => ?_)
          have mon_40_1_1_1_72 := m_swap hm_72 ml_71
          simp only [pS, Value.cells, Nat.reduceAdd, one_pE, one_iE, app_m, boE] at mon_40_1_1_1_72
          have mon_40_1_1_72 := m_swap_o hm_72 mon_40_1_1_71 (by omega)
          have mon_40_1_72 := m_swap_o hm_72 mon_40_1_71 (by omega)
          have mon_40_72 := m_swap_o hm_72 mon_40_71 (by omega)
          have mo2_72 := m_swap_o hm_72 mo2_71 (by omega)
          have mo1_72 := m_swap_o hm_72 mo1_71 (by omega)
          have mo0_72 := m_swap_o hm_72 mo0_71 (by omega)
          have ml_72 := m_swap_l hm_72 ml_71
          clear hm_72 mon_40_1_1_71 mon_40_1_71 mon_40_71 mo2_71 mo1_71 mo0_71 moj8_40_71
          refine ar (ro_fld_ptr qfl100_1 rfl (up_m rfl (u8 rfl s7_70))) rfl <| al_stm (st_store_own up_h (up_m rfl (u4 rfl up_h)) mo2_72 mon_40_1_1_72 y72_sz98 (nle rfl)) trivial rfl (fun m_73 hm_73 => ?_)
          have mo2_73 := m_set hm_73 mo2_72
          simp only [pS, Value.cells, Nat.reduceAdd, one_pE, one_iE, app_m, boE] at mo2_73
          have mon_40_1_1_1_73 := m_set_o hm_73 mon_40_1_1_1_72 (by omega)
          have mon_40_1_1_73 := m_set_o hm_73 mon_40_1_1_72 (by omega)
          have mon_40_1_73 := m_set_o hm_73 mon_40_1_72 (by omega)
          have mon_40_73 := m_set_o hm_73 mon_40_72 (by omega)
          have mo1_73 := m_set_o hm_73 mo1_72 (by decide)
          have mo0_73 := m_set_o hm_73 mo0_72 (by decide)
          have ml_73 := m_set_l hm_73 ml_72
          clear hm_73 mon_40_1_1_1_72 mon_40_1_1_72 mon_40_1_72 mon_40_72 mo2_72 mo1_72 mo0_72
          refine ar (ro_assign (up_n (up_m rfl up_h))) rfl <| ae6 (up_m rfl (up_n (u2 rfl (u8 rfl s2_70)))) (up_m rfl (up_n (u2 rfl (u8 rfl s3_70)))) (up_m rfl (up_n (u2 rfl (u8 rfl s5_70)))) (up_m rfl (up_n (u2 rfl (u8 rfl s7_70)))) up_h (up_m rfl (up_n (u2 rfl (u8 rfl s9_70)))) ?_; clear s12_70 s14_70 s2_70 s3_70 s5_70 s7_70 s8_70 s9_70; intro e_74 s2_74 s3_74 s5_74 s7_74 s8_74 s9_74
          refine block_n <| then_n <| at_ <| ar (ro_move s9_74) rfl ?_
          (refine ar (ro_add' up_h ev_c ?_) rfl ?_; · (unfold In64; omega))
          refine ar (ro_assign up_h) rfl <| ae6 (up_m rfl (u2 rfl s2_74)) (up_m rfl (u2 rfl s3_74)) (up_m rfl (u2 rfl s5_74)) (up_m rfl (u2 rfl s7_74)) (up_m rfl (u2 rfl s8_74)) up_h ?_; clear s2_74 s3_74 s5_74 s7_74 s8_74 s9_74; intro e_75 s2_75 s3_75 s5_75 s7_75 s8_75 s9_75
          refine then_n <| ⟨⟨_, _, _, _⟩, ⟨s9_75, (s2_75.trans s2_38.symm), (s3_75.trans s3_38.symm), (s5_75.trans s5_38.symm), (s7_75.trans s7_38.symm), mo2_73, mon_40_1_1_73, (mo1_73.trans mo1_39.symm), (mo0_73.trans mo0_39.symm), ⟨_, s8_75, mon_40_1_1_1_73, (by omega), (by omega), (by omega), (by omega)⟩, ⟨_, ml_73, by omega⟩, ?_⟩, ?_⟩
          · (refine ⟨by omega, by omega, by omega, trip_next p1 p3 ?_ ?_, ?_⟩; (unfold limT limA; rw [show i.toNat - 1 = (i - 1).toNat by omega]; repeat' split); all_goals first | omega | (rw [decide_eq_true (by omega)]; rfl) | (rw [decide_eq_false (by omega)]; rfl) | (rw [p4, show (i + 1).toNat = i.toNat + 1 by omega, pplL_succ]))
          · ((try dsimp only); omega)
         replace hq_68 := bf hq_68
         refine aw_skip <| then_n <| at_ <| ar (ro_fld_ptr qfl100_1 rfl s7_67) rfl <| ar (ro_eq (ro_ld_ptr y72_ty98 rfl mo2_65 up_h (nle rfl)) (by simp only [pS, Value.cells, Nat.reduceAdd, one_pE, one_iE, app_m, boE] <;> rfl)) rfl ?_
         refine ar (ro_eq (ro_ld_ptr y72_ty104 rfl mon_40_1_65 (u2 rfl s14_67) (nle rfl)) (by simp only [pS, Value.cells, Nat.reduceAdd, one_pE, one_iE, app_m, boE] <;> rfl)) rfl ?_
         refine ar (ro_lit y72_sl98 (evP_cons up_h evP_nil) rfl rfl rfl rfl) rfl <| al_stm (st_app y72_sl98 rfl ml_65 mok_65 (u2 rfl up_h) up_h (by rfl) (by simp only [lnS] <;> omega)) trivial rfl (fun m_76 hm_76 => ?_)
         have mon_40_1_1_76 := m_swap hm_76 ml_65
         simp only [pS, Value.cells, Nat.reduceAdd, one_pE, one_iE, app_m, boE] at mon_40_1_1_76
         have mon_40_1_76 := m_swap_o hm_76 mon_40_1_65 (by omega)
         have mon_40_76 := m_swap_o hm_76 mon_40_65 (by omega)
         have mo2_76 := m_swap_o hm_76 mo2_65 (by omega)
         have mo1_76 := m_swap_o hm_76 mo1_65 (by omega)
         have mo0_76 := m_swap_o hm_76 mo0_65 (by omega)
         have moj8_40_76 := m_swap_o hm_76 moj8_40_65 (by omega)
         have ml_76 := m_swap_l hm_76 ml_65
         clear hm_76 mon_40_1_65 mon_40_65 mo2_65 mok_65 mo1_65 mo0_65 moj8_40_65
         refine ar (ro_move (up_m rfl (u4 rfl s8_67))) rfl <| ar (ro_move (u2 rfl (u4 rfl s12_67))) rfl <| ar (ro_lit y72_sl49 (evP_cons up_h evP_nil) rfl rfl rfl rfl) rfl <| al_stm (st_app y72_sl49 rfl ml_76 moj8_40_76 (u2 rfl up_h) up_h (by rfl) (by simp only [lnS] <;> omega)) trivial rfl (fun m_77 hm_77 => ?_)
         have mon_40_1_1_1_77 := m_swap hm_77 ml_76
         simp only [pS, Value.cells, Nat.reduceAdd, one_pE, one_iE, app_m, boE] at mon_40_1_1_1_77
         have mon_40_1_1_77 := m_swap_o hm_77 mon_40_1_1_76 (by omega)
         have mon_40_1_77 := m_swap_o hm_77 mon_40_1_76 (by omega)
         have mon_40_77 := m_swap_o hm_77 mon_40_76 (by omega)
         have mo2_77 := m_swap_o hm_77 mo2_76 (by omega)
         have mo1_77 := m_swap_o hm_77 mo1_76 (by omega)
         have mo0_77 := m_swap_o hm_77 mo0_76 (by omega)
         have ml_77 := m_swap_l hm_77 ml_76
         clear hm_77 mon_40_1_1_76 mon_40_1_76 mon_40_76 mo2_76 mo1_76 mo0_76 moj8_40_76
         refine ar (ro_fld_ptr qfl100_1 rfl (up_m rfl (u8 rfl s7_67))) rfl <| al_stm (st_store_own up_h (up_m rfl (u4 rfl up_h)) mo2_77 mon_40_1_1_77 y72_sz98 (nle rfl)) trivial rfl (fun m_78 hm_78 => ?_)
         have mo2_78 := m_set hm_78 mo2_77
         simp only [pS, Value.cells, Nat.reduceAdd, one_pE, one_iE, app_m, boE] at mo2_78
         have mon_40_1_1_1_78 := m_set_o hm_78 mon_40_1_1_1_77 (by omega)
         have mon_40_1_1_78 := m_set_o hm_78 mon_40_1_1_77 (by omega)
         have mon_40_1_78 := m_set_o hm_78 mon_40_1_77 (by omega)
         have mon_40_78 := m_set_o hm_78 mon_40_77 (by omega)
         have mo1_78 := m_set_o hm_78 mo1_77 (by decide)
         have mo0_78 := m_set_o hm_78 mo0_77 (by decide)
         have ml_78 := m_set_l hm_78 ml_77
         clear hm_78 mon_40_1_1_1_77 mon_40_1_1_77 mon_40_1_77 mon_40_77 mo2_77 mo1_77 mo0_77
         refine ar (ro_assign (up_n (up_m rfl up_h))) rfl <| ae6 (up_m rfl (up_n (u2 rfl (u8 rfl s2_67)))) (up_m rfl (up_n (u2 rfl (u8 rfl s3_67)))) (up_m rfl (up_n (u2 rfl (u8 rfl s5_67)))) (up_m rfl (up_n (u2 rfl (u8 rfl s7_67)))) up_h (up_m rfl (up_n (u2 rfl (u8 rfl s9_67)))) ?_; clear s12_67 s14_67 s165_67 s2_67 s3_67 s5_67 s7_67 s8_67 s9_67; intro e_79 s2_79 s3_79 s5_79 s7_79 s8_79 s9_79
         refine block_n <| then_n <| at_ <| ar (ro_move s9_79) rfl ?_
         (refine ar (ro_add' up_h ev_c ?_) rfl ?_; · (unfold In64; omega))
         refine ar (ro_assign up_h) rfl <| ae6 (up_m rfl (u2 rfl s2_79)) (up_m rfl (u2 rfl s3_79)) (up_m rfl (u2 rfl s5_79)) (up_m rfl (u2 rfl s7_79)) (up_m rfl (u2 rfl s8_79)) up_h ?_; clear s2_79 s3_79 s5_79 s7_79 s8_79 s9_79; intro e_80 s2_80 s3_80 s5_80 s7_80 s8_80 s9_80
         refine then_n <| ⟨⟨_, _, _, _⟩, ⟨s9_80, (s2_80.trans s2_38.symm), (s3_80.trans s3_38.symm), (s5_80.trans s5_38.symm), (s7_80.trans s7_38.symm), mo2_78, mon_40_1_1_78, (mo1_78.trans mo1_39.symm), (mo0_78.trans mo0_39.symm), ⟨_, s8_80, mon_40_1_1_1_78, (by omega), (by omega), (by omega), (by omega)⟩, ⟨_, ml_78, by omega⟩, ?_⟩, ?_⟩
         · (refine ⟨by omega, by omega, by omega, trip_next p1 p3 ?_ ?_, ?_⟩; (unfold limT limA; rw [show i.toNat - 1 = (i - 1).toNat by omega]; repeat' split); all_goals first | omega | (rw [decide_eq_true (by omega)]; rfl) | (rw [decide_eq_false (by omega)]; rfl) | (rw [p4, show (i + 1).toNat = i.toNat + 1 by omega, pplL_succ]))
         · ((try dsimp only); omega)
        replace hq_64 := bf hq_64
        refine aw_skip <| then_n <| aw_seq <| aw_seq <| at_ <| ar (ro_move s9_63) rfl <| ar (ro_move (up_m rfl s5_63)) rfl <| ar (ro_eq (ro_len_row up_h rfl y72_sl49.1) (by simp only [lnS] <;> rfl)) rfl ?_
        refine ar (ro_lss (u2 rfl up_h) up_h) rfl <| ae9 (u4 rfl s2_63) (u4 rfl s3_63) (u4 rfl s5_63) (u4 rfl s7_63) (u4 rfl s8_63) (u4 rfl s9_63) (u4 rfl s12_63) (u4 rfl s14_63) up_h ?_; clear s12_63 s14_63 s152_63 s2_63 s3_63 s5_63 s7_63 s8_63 s9_63; intro e_81 s2_81 s3_81 s5_81 s7_81 s8_81 s9_81 s12_81 s14_81 s165_81
        refine then_n <| aw_case s165_81 (fun hq_82 => ?_) (fun hq_82 => ?_)
        ·replace hq_82 := bt hq_82
         refine aw_draw 8 (by kernel_rfl) (by kernel_rfl) (by kernel_rfl) (by kernel_rfl) ?_
         refine dr (ro_fld_ptr qfl104_2 rfl s14_81) rfl <| dr (ro_eq (ro_ld_ptr y72_ty3 rfl mon_40_1_61 up_h (nle rfl)) (by simp only [pS, Value.cells, Nat.reduceAdd, one_pE, one_iE, app_m, boE] <;> rfl)) rfl ?_
         refine dr (ro_move (u2 rfl s5_81)) rfl <| dr (ro_move (up_m rfl (u2 rfl s9_81))) rfl <| dr (ro_eq (ro_ix y72_sl49 (up_m rfl up_h) up_h (by omega) (by first | (refine idx_map ?_; first | omega | (simp only [lnS]; omega)) | (refine idx_mapI ?_; first | omega | (simp only [lnS]; omega)) | (refine idx_mapN ?_; first | omega | (simp only [lnS]; omega)) | rfl)) (by simp only [pS, Value.cells, Nat.reduceAdd, one_pE, one_iE, app_m, boE] <;> rfl)) rfl ?_
         refine dr (ro_eq (ro_ld_ref y72_ty3 rfl up_h (nle rfl)) (by simp only [pS, Value.cells, Nat.reduceAdd, one_pE, one_iE, app_m, boE] <;> rfl)) rfl ?_
         refine dr (ro_min (u4 rfl up_h) up_h) rfl <| dr (ro_fld_ptr qfl104_2 rfl (up_m rfl (u2 rfl (u4 rfl s14_81)))) rfl <| ds_nil <| al_stm (st_store up_h (up_m rfl up_h) rfl rfl mon_40_1_61 qsz3 rfl (nle rfl)) trivial rfl (fun m_83 hm_83 => ?_)
         have mon_40_1_83 := m_set hm_83 mon_40_1_61
         simp only [pS, Value.cells, Nat.reduceAdd, one_pE, one_iE, app_m, boE] at mon_40_1_83
         have mon_40_83 := m_set_o hm_83 mon_40_61 (by omega)
         have mo2_83 := m_set_o hm_83 mo2_61 (by omega)
         have mok_83 := m_set_o hm_83 mok_61 (by omega)
         have mo1_83 := m_set_o hm_83 mo1_61 (by omega)
         have mo0_83 := m_set_o hm_83 mo0_61 (by omega)
         have moj8_40_83 := m_set_o hm_83 moj8_40_61 (by omega)
         have ml_83 := m_set_l hm_83 ml_61
         clear hm_83 mon_40_1_61 mon_40_61 mo2_61 mok_61 mo1_61 mo0_61 moj8_40_61
         refine ae8 (up_n (u8 rfl s2_81)) (up_n (u8 rfl s3_81)) (up_n (u8 rfl s5_81)) (up_n (u8 rfl s7_81)) (up_n (u8 rfl s8_81)) (up_n (u8 rfl s9_81)) (up_n (u8 rfl s12_81)) (up_n (u8 rfl s14_81)) ?_; clear s12_81 s14_81 s165_81 s2_81 s3_81 s5_81 s7_81 s8_81 s9_81; intro e_84 s2_84 s3_84 s5_84 s7_84 s8_84 s9_84 s12_84 s14_84
         refine then_n <| at_ <| ar (ro_fld_ptr qfl100_1 rfl s7_84) rfl <| ar (ro_eq (ro_ld_ptr y72_ty98 rfl mo2_83 up_h (nle rfl)) (by simp only [pS, Value.cells, Nat.reduceAdd, one_pE, one_iE, app_m, boE] <;> rfl)) rfl ?_
         refine ar (ro_eq (ro_ld_ptr y72_ty104 rfl mon_40_1_83 (u2 rfl s14_84) (nle rfl)) (by simp only [pS, Value.cells, Nat.reduceAdd, one_pE, one_iE, app_m, boE] <;> rfl)) rfl ?_
         refine ar (ro_lit y72_sl98 (evP_cons up_h evP_nil) rfl rfl rfl rfl) rfl <| al_stm (st_app y72_sl98 rfl ml_83 mok_83 (u2 rfl up_h) up_h (by rfl) (by simp only [lnS] <;> omega)) trivial rfl (fun m_85 hm_85 => ?_)
         have mon_40_1_1_85 := m_swap hm_85 ml_83
         simp only [pS, Value.cells, Nat.reduceAdd, one_pE, one_iE, app_m, boE] at mon_40_1_1_85
         have mon_40_1_85 := m_swap_o hm_85 mon_40_1_83 (by omega)
         have mon_40_85 := m_swap_o hm_85 mon_40_83 (by omega)
         have mo2_85 := m_swap_o hm_85 mo2_83 (by omega)
         have mo1_85 := m_swap_o hm_85 mo1_83 (by omega)
         have mo0_85 := m_swap_o hm_85 mo0_83 (by omega)
         have moj8_40_85 := m_swap_o hm_85 moj8_40_83 (by omega)
         have ml_85 := m_swap_l hm_85 ml_83
         clear hm_85 mon_40_1_83 mon_40_83 mo2_83 mok_83 mo1_83 mo0_83 moj8_40_83
         refine ar (ro_move (up_m rfl (u4 rfl s8_84))) rfl <| ar (ro_move (u2 rfl (u4 rfl s12_84))) rfl <| ar (ro_lit y72_sl49 (evP_cons up_h evP_nil) rfl rfl rfl rfl) rfl <| al_stm (st_app y72_sl49 rfl ml_85 moj8_40_85 (u2 rfl up_h) up_h (by rfl) (by simp only [lnS] <;> omega)) trivial rfl (fun m_86 hm_86 => ?_)
         have mon_40_1_1_1_86 := m_swap hm_86 ml_85
         simp only [pS, Value.cells, Nat.reduceAdd, one_pE, one_iE, app_m, boE] at mon_40_1_1_1_86
         have mon_40_1_1_86 := m_swap_o hm_86 mon_40_1_1_85 (by omega)
         have mon_40_1_86 := m_swap_o hm_86 mon_40_1_85 (by omega)
         have mon_40_86 := m_swap_o hm_86 mon_40_85 (by omega)
         have mo2_86 := m_swap_o hm_86 mo2_85 (by omega)
         have mo1_86 := m_swap_o hm_86 mo1_85 (by omega)
         have mo0_86 := m_swap_o hm_86 mo0_85 (by omega)
         have ml_86 := m_swap_l hm_86 ml_85
         clear hm_86 mon_40_1_1_85 mon_40_1_85 mon_40_85 mo2_85 mo1_85 mo0_85 moj8_40_85
         refine ar (ro_fld_ptr qfl100_1 rfl (up_m rfl (u8 rfl s7_84))) rfl <| al_stm (st_store_own up_h (up_m rfl (u4 rfl up_h)) mo2_86 mon_40_1_1_86 y72_sz98 (nle rfl)) trivial rfl (fun m_87 hm_87 => ?_)
         have mo2_87 := m_set hm_87 mo2_86
         simp only [pS, Value.cells, Nat.reduceAdd, one_pE, one_iE, app_m, boE] at mo2_87
         have mon_40_1_1_1_87 := m_set_o hm_87 mon_40_1_1_1_86 (by omega)
         have mon_40_1_1_87 := m_set_o hm_87 mon_40_1_1_86 (by omega)
         have mon_40_1_87 := m_set_o hm_87 mon_40_1_86 (by omega)
         have mon_40_87 := m_set_o hm_87 mon_40_86 (by omega)
         have mo1_87 := m_set_o hm_87 mo1_86 (by decide)
         have mo0_87 := m_set_o hm_87 mo0_86 (by decide)
         have ml_87 := m_set_l hm_87 ml_86
         clear hm_87 mon_40_1_1_1_86 mon_40_1_1_86 mon_40_1_86 mon_40_86 mo2_86 mo1_86 mo0_86
         refine ar (ro_assign (up_n (up_m rfl up_h))) rfl <| ae6 (up_m rfl (up_n (u2 rfl (u8 rfl s2_84)))) (up_m rfl (up_n (u2 rfl (u8 rfl s3_84)))) (up_m rfl (up_n (u2 rfl (u8 rfl s5_84)))) (up_m rfl (up_n (u2 rfl (u8 rfl s7_84)))) up_h (up_m rfl (up_n (u2 rfl (u8 rfl s9_84)))) ?_; clear s12_84 s14_84 s2_84 s3_84 s5_84 s7_84 s8_84 s9_84; intro e_88 s2_88 s3_88 s5_88 s7_88 s8_88 s9_88
         refine block_n <| then_n <| at_ <| ar (ro_move s9_88) rfl ?_
         (refine ar (ro_add' up_h ev_c ?_) rfl ?_; · (unfold In64; omega))
         refine ar (ro_assign up_h) rfl <| ae6 (up_m rfl (u2 rfl s2_88)) (up_m rfl (u2 rfl s3_88)) (up_m rfl (u2 rfl s5_88)) (up_m rfl (u2 rfl s7_88)) (up_m rfl (u2 rfl s8_88)) up_h ?_; clear s2_88 s3_88 s5_88 s7_88 s8_88 s9_88; intro e_89 s2_89 s3_89 s5_89 s7_89 s8_89 s9_89
         refine then_n <| ⟨⟨_, _, _, _⟩, ⟨s9_89, (s2_89.trans s2_38.symm), (s3_89.trans s3_38.symm), (s5_89.trans s5_38.symm), (s7_89.trans s7_38.symm), mo2_87, mon_40_1_1_87, (mo1_87.trans mo1_39.symm), (mo0_87.trans mo0_39.symm), ⟨_, s8_89, mon_40_1_1_1_87, (by omega), (by omega), (by omega), (by omega)⟩, ⟨_, ml_87, by omega⟩, ?_⟩, ?_⟩
         · (refine ⟨by omega, by omega, by omega, trip_next p1 p3 ?_ ?_, ?_⟩; (unfold limT limA; rw [show i.toNat - 1 = (i - 1).toNat by omega]; repeat' split); all_goals first | omega | (rw [decide_eq_true (by omega)]; rfl) | (rw [decide_eq_false (by omega)]; rfl) | (rw [p4, show (i + 1).toNat = i.toNat + 1 by omega, pplL_succ]))
         · ((try dsimp only); omega)
        replace hq_82 := bf hq_82
        refine aw_skip <| then_n <| at_ <| ar (ro_fld_ptr qfl100_1 rfl s7_81) rfl <| ar (ro_eq (ro_ld_ptr y72_ty98 rfl mo2_61 up_h (nle rfl)) (by simp only [pS, Value.cells, Nat.reduceAdd, one_pE, one_iE, app_m, boE] <;> rfl)) rfl ?_
        refine ar (ro_eq (ro_ld_ptr y72_ty104 rfl mon_40_1_61 (u2 rfl s14_81) (nle rfl)) (by simp only [pS, Value.cells, Nat.reduceAdd, one_pE, one_iE, app_m, boE] <;> rfl)) rfl ?_
        refine ar (ro_lit y72_sl98 (evP_cons up_h evP_nil) rfl rfl rfl rfl) rfl <| al_stm (st_app y72_sl98 rfl ml_61 mok_61 (u2 rfl up_h) up_h (by rfl) (by simp only [lnS] <;> omega)) trivial rfl (fun m_90 hm_90 => ?_)
        have mon_40_1_1_90 := m_swap hm_90 ml_61
        simp only [pS, Value.cells, Nat.reduceAdd, one_pE, one_iE, app_m, boE] at mon_40_1_1_90
        have mon_40_1_90 := m_swap_o hm_90 mon_40_1_61 (by omega)
        have mon_40_90 := m_swap_o hm_90 mon_40_61 (by omega)
        have mo2_90 := m_swap_o hm_90 mo2_61 (by omega)
        have mo1_90 := m_swap_o hm_90 mo1_61 (by omega)
        have mo0_90 := m_swap_o hm_90 mo0_61 (by omega)
        have moj8_40_90 := m_swap_o hm_90 moj8_40_61 (by omega)
        have ml_90 := m_swap_l hm_90 ml_61
        clear hm_90 mon_40_1_61 mon_40_61 mo2_61 mok_61 mo1_61 mo0_61 moj8_40_61
        refine ar (ro_move (up_m rfl (u4 rfl s8_81))) rfl <| ar (ro_move (u2 rfl (u4 rfl s12_81))) rfl <| ar (ro_lit y72_sl49 (evP_cons up_h evP_nil) rfl rfl rfl rfl) rfl <| al_stm (st_app y72_sl49 rfl ml_90 moj8_40_90 (u2 rfl up_h) up_h (by rfl) (by simp only [lnS] <;> omega)) trivial rfl (fun m_91 hm_91 => ?_)
        have mon_40_1_1_1_91 := m_swap hm_91 ml_90
        simp only [pS, Value.cells, Nat.reduceAdd, one_pE, one_iE, app_m, boE] at mon_40_1_1_1_91
        have mon_40_1_1_91 := m_swap_o hm_91 mon_40_1_1_90 (by omega)
        have mon_40_1_91 := m_swap_o hm_91 mon_40_1_90 (by omega)
        have mon_40_91 := m_swap_o hm_91 mon_40_90 (by omega)
        have mo2_91 := m_swap_o hm_91 mo2_90 (by omega)
        have mo1_91 := m_swap_o hm_91 mo1_90 (by omega)
        have mo0_91 := m_swap_o hm_91 mo0_90 (by omega)
        have ml_91 := m_swap_l hm_91 ml_90
        clear hm_91 mon_40_1_1_90 mon_40_1_90 mon_40_90 mo2_90 mo1_90 mo0_90 moj8_40_90
        refine ar (ro_fld_ptr qfl100_1 rfl (up_m rfl (u8 rfl s7_81))) rfl <| al_stm (st_store_own up_h (up_m rfl (u4 rfl up_h)) mo2_91 mon_40_1_1_91 y72_sz98 (nle rfl)) trivial rfl (fun m_92 hm_92 => ?_)
        have mo2_92 := m_set hm_92 mo2_91
        simp only [pS, Value.cells, Nat.reduceAdd, one_pE, one_iE, app_m, boE] at mo2_92
        have mon_40_1_1_1_92 := m_set_o hm_92 mon_40_1_1_1_91 (by omega)
        have mon_40_1_1_92 := m_set_o hm_92 mon_40_1_1_91 (by omega)
        have mon_40_1_92 := m_set_o hm_92 mon_40_1_91 (by omega)
        have mon_40_92 := m_set_o hm_92 mon_40_91 (by omega)
        have mo1_92 := m_set_o hm_92 mo1_91 (by decide)
        have mo0_92 := m_set_o hm_92 mo0_91 (by decide)
        have ml_92 := m_set_l hm_92 ml_91
        clear hm_92 mon_40_1_1_1_91 mon_40_1_1_91 mon_40_1_91 mon_40_91 mo2_91 mo1_91 mo0_91
        refine ar (ro_assign (up_n (up_m rfl up_h))) rfl <| ae6 (up_m rfl (up_n (u2 rfl (u8 rfl s2_81)))) (up_m rfl (up_n (u2 rfl (u8 rfl s3_81)))) (up_m rfl (up_n (u2 rfl (u8 rfl s5_81)))) (up_m rfl (up_n (u2 rfl (u8 rfl s7_81)))) up_h (up_m rfl (up_n (u2 rfl (u8 rfl s9_81)))) ?_; clear s12_81 s14_81 s165_81 s2_81 s3_81 s5_81 s7_81 s8_81 s9_81; intro e_93 s2_93 s3_93 s5_93 s7_93 s8_93 s9_93
        refine block_n <| then_n <| at_ <| ar (ro_move s9_93) rfl ?_
        (refine ar (ro_add' up_h ev_c ?_) rfl ?_; · (unfold In64; omega))
        refine ar (ro_assign up_h) rfl <| ae6 (up_m rfl (u2 rfl s2_93)) (up_m rfl (u2 rfl s3_93)) (up_m rfl (u2 rfl s5_93)) (up_m rfl (u2 rfl s7_93)) (up_m rfl (u2 rfl s8_93)) up_h ?_; clear s2_93 s3_93 s5_93 s7_93 s8_93 s9_93; intro e_94 s2_94 s3_94 s5_94 s7_94 s8_94 s9_94
        refine then_n <| ⟨⟨_, _, _, _⟩, ⟨s9_94, (s2_94.trans s2_38.symm), (s3_94.trans s3_38.symm), (s5_94.trans s5_38.symm), (s7_94.trans s7_38.symm), mo2_92, mon_40_1_1_92, (mo1_92.trans mo1_39.symm), (mo0_92.trans mo0_39.symm), ⟨_, s8_94, mon_40_1_1_1_92, (by omega), (by omega), (by omega), (by omega)⟩, ⟨_, ml_92, by omega⟩, ?_⟩, ?_⟩
        · (refine ⟨by omega, by omega, by omega, trip_next p1 p3 ?_ ?_, ?_⟩; (unfold limT limA; rw [show i.toNat - 1 = (i - 1).toNat by omega]; repeat' split); all_goals first | omega | (rw [decide_eq_true (by omega)]; rfl) | (rw [decide_eq_false (by omega)]; rfl) | (rw [p4, show (i + 1).toNat = i.toNat + 1 by omega, pplL_succ]))
        · ((try dsimp only); omega)
       replace hq_59 := bf hq_59
       refine dh_skip ⟨_, rfl, .inl hb_59⟩ ?_
       refine dh_skip ⟨_, rfl, .inl (up_m rfl hb_59)⟩ ?_
       refine dh_skip ⟨_, rfl, .inl (u2 rfl hb_59)⟩ ?_
       refine dh_skip ⟨_, rfl, .inl (up_m rfl (u2 rfl hb_59))⟩ ?_
       refine dh_skip ⟨_, rfl, .inl (u4 rfl hb_59)⟩ ?_
       refine dh_ro (fun M_ hM_ => (ro_pickF (up_m rfl (u4 rfl hb_59)) ev_c)) trivial ?_
       refine dh_ro (fun M_ hM_ => (ro_build (evP_cons (up_m rfl (u16 rfl up_h)) (evP_cons (u4 rfl (u8 rfl up_h)) (evP_cons ev_c (evP_cons up_h evP_nil)))) qbz104 qbu104 qbp104 rfl)) trivial ?_
       refine dh_nw (n_40 + 1) (fun M_ hM_ => (nw_alloc qaz104 rfl)) trivial mon_40_1_58 rfl trivial ⟨.inl (by simp <;> omega), ⟨.inl (by simp <;> omega), ⟨.inl (by simp <;> omega), ⟨.inl (by simp <;> omega), trivial⟩⟩⟩⟩ (fun m_95 hm_95 => ?_)
       have mon_40_1_95 := m_set hm_95 mon_40_1_58
       simp only [pS, Value.cells, Nat.reduceAdd, one_pE, one_iE, app_m, boE] at mon_40_1_95
       have mon_40_95 := m_set_o hm_95 mon_40_58 (by omega)
       have mo2_95 := m_set_o hm_95 mo2_58 (by omega)
       have mok_95 := m_set_o hm_95 mok_58 (by omega)
       have mo1_95 := m_set_o hm_95 mo1_58 (by omega)
       have mo0_95 := m_set_o hm_95 mo0_58 (by omega)
       have moj8_40_95 := m_set_o hm_95 moj8_40_58 (by omega)
       have ml_95 := m_set_l hm_95 ml_58
       clear hm_95 mon_40_58 mo2_58 mok_58 mo1_58 mo0_58 moj8_40_58 mon_40_1_58
       refine dh_nil rfl ?_
       refine al_stm (st_store up_h (up_m rfl up_h) rfl rfl mon_40_1_95 qsz104 rfl (nle rfl)) trivial rfl (fun m_96 hm_96 => ?_)
       have mon_40_1_96 := m_set hm_96 mon_40_1_95
       simp only [pS, Value.cells, Nat.reduceAdd, one_pE, one_iE, app_m, boE] at mon_40_1_96
       have mon_40_96 := m_set_o hm_96 mon_40_95 (by omega)
       have mo2_96 := m_set_o hm_96 mo2_95 (by omega)
       have mok_96 := m_set_o hm_96 mok_95 (by omega)
       have mo1_96 := m_set_o hm_96 mo1_95 (by omega)
       have mo0_96 := m_set_o hm_96 mo0_95 (by omega)
       have moj8_40_96 := m_set_o hm_96 moj8_40_95 (by omega)
       have ml_96 := m_set_l hm_96 ml_95
       clear hm_96 mon_40_1_95 mon_40_95 mo2_95 mok_95 mo1_95 mo0_95 moj8_40_95
       refine ae8 (up_n (up_m rfl (u8 rfl (u16 rfl s2_55)))) (up_n (up_m rfl (u8 rfl (u16 rfl s3_55)))) (up_n (up_m rfl (u8 rfl (u16 rfl s5_55)))) (up_n (up_m rfl (u8 rfl (u16 rfl s7_55)))) (up_n (up_m rfl (u8 rfl (u16 rfl s8_55)))) (up_n (up_m rfl (u8 rfl (u16 rfl s9_55)))) (up_n (up_m rfl (u8 rfl (u16 rfl s12_55)))) (up_n up_h) ?_; clear hb_59 s10_55 s126_55 s12_55 s2_55 s3_55 s5_55 s7_55 s8_55 s9_55; intro e_97 s2_97 s3_97 s5_97 s7_97 s8_97 s9_97 s12_97 s14_97
       refine then_n <| aw_seq <| aw_seq <| at_ <| ar (ro_move s9_97) rfl <| ar (ro_gtr up_h ev_c) rfl <| ae9 (u2 rfl s2_97) (u2 rfl s3_97) (u2 rfl s5_97) (u2 rfl s7_97) (u2 rfl s8_97) (u2 rfl s9_97) (u2 rfl s12_97) (u2 rfl s14_97) up_h ?_; clear s12_97 s14_97 s2_97 s3_97 s5_97 s7_97 s8_97 s9_97; intro e_98 s2_98 s3_98 s5_98 s7_98 s8_98 s9_98 s12_98 s14_98 s152_98
       refine then_n <| aw_case s152_98 (fun hq_99 => ?_) (fun hq_99 => ?_)
       ·replace hq_99 := bt hq_99
        refine aw_draw 9 (by kernel_rfl) (by kernel_rfl) (by kernel_rfl) (by kernel_rfl) ?_
        refine dr (ro_fld_ptr qfl104_2 rfl s14_98) rfl <| dr (ro_eq (ro_ld_ptr y72_ty3 rfl mon_40_1_96 up_h (nle rfl)) (by simp only [pS, Value.cells, Nat.reduceAdd, one_pE, one_iE, app_m, boE] <;> rfl)) rfl ?_
        refine dr (ro_move (u2 rfl s5_98)) rfl <| dr (ro_move (up_m rfl (u2 rfl s9_98))) rfl ?_
        (refine dr (ro_sub' up_h ev_c ?_) rfl ?_; · (unfold In64; omega))
        refine dr (ro_eq (ro_ix y72_sl49 (u2 rfl up_h) up_h (by omega) (by first | (refine idx_map ?_; first | omega | (simp only [lnS]; omega)) | (refine idx_mapI ?_; first | omega | (simp only [lnS]; omega)) | (refine idx_mapN ?_; first | omega | (simp only [lnS]; omega)) | rfl)) (by simp only [pS, Value.cells, Nat.reduceAdd, one_pE, one_iE, app_m, boE] <;> rfl)) rfl ?_
        refine dr (ro_eq (ro_ld_ref y72_ty3 rfl up_h (nle rfl)) (by simp only [pS, Value.cells, Nat.reduceAdd, one_pE, one_iE, app_m, boE] <;> rfl)) rfl ?_
        refine dr (ro_min (up_m rfl (u4 rfl up_h)) up_h) rfl <| dr (ro_fld_ptr qfl104_2 rfl (u8 rfl s14_98)) rfl <| ds_nil <| al_stm (st_store up_h (up_m rfl up_h) rfl rfl mon_40_1_96 qsz3 rfl (nle rfl)) trivial rfl (fun m_100 hm_100 => ?_)
        have mon_40_1_100 := m_set hm_100 mon_40_1_96
        simp only [pS, Value.cells, Nat.reduceAdd, one_pE, one_iE, app_m, boE] at mon_40_1_100
        have mon_40_100 := m_set_o hm_100 mon_40_96 (by omega)
        have mo2_100 := m_set_o hm_100 mo2_96 (by omega)
        have mok_100 := m_set_o hm_100 mok_96 (by omega)
        have mo1_100 := m_set_o hm_100 mo1_96 (by omega)
        have mo0_100 := m_set_o hm_100 mo0_96 (by omega)
        have moj8_40_100 := m_set_o hm_100 moj8_40_96 (by omega)
        have ml_100 := m_set_l hm_100 ml_96
        clear hm_100 mon_40_1_96 mon_40_96 mo2_96 mok_96 mo1_96 mo0_96 moj8_40_96
        refine ae8 (up_n (up_m rfl (u8 rfl s2_98))) (up_n (up_m rfl (u8 rfl s3_98))) (up_n (up_m rfl (u8 rfl s5_98))) (up_n (up_m rfl (u8 rfl s7_98))) (up_n (up_m rfl (u8 rfl s8_98))) (up_n (up_m rfl (u8 rfl s9_98))) (up_n (up_m rfl (u8 rfl s12_98))) (up_n (up_m rfl (u8 rfl s14_98))) ?_; clear s12_98 s14_98 s152_98 s2_98 s3_98 s5_98 s7_98 s8_98 s9_98; intro e_101 s2_101 s3_101 s5_101 s7_101 s8_101 s9_101 s12_101 s14_101
        refine then_n <| aw_seq <| aw_seq <| at_ <| ar (ro_move s9_101) rfl <| ar (ro_move (up_m rfl s5_101)) rfl <| ar (ro_eq (ro_len_row up_h rfl y72_sl49.1) (by simp only [lnS] <;> rfl)) rfl ?_
        refine ar (ro_lss (u2 rfl up_h) up_h) rfl <| ae9 (u4 rfl s2_101) (u4 rfl s3_101) (u4 rfl s5_101) (u4 rfl s7_101) (u4 rfl s8_101) (u4 rfl s9_101) (u4 rfl s12_101) (u4 rfl s14_101) up_h ?_; clear s12_101 s14_101 s2_101 s3_101 s5_101 s7_101 s8_101 s9_101; intro e_102 s2_102 s3_102 s5_102 s7_102 s8_102 s9_102 s12_102 s14_102 s165_102
        refine then_n <| aw_case s165_102 (fun hq_103 => ?_) (fun hq_103 => ?_)
        ·replace hq_103 := bt hq_103
         refine aw_draw 8 (by kernel_rfl) (by kernel_rfl) (by kernel_rfl) (by kernel_rfl) ?_
         refine dr (ro_fld_ptr qfl104_2 rfl s14_102) rfl <| dr (ro_eq (ro_ld_ptr y72_ty3 rfl mon_40_1_100 up_h (nle rfl)) (by simp only [pS, Value.cells, Nat.reduceAdd, one_pE, one_iE, app_m, boE] <;> rfl)) rfl ?_
         refine dr (ro_move (u2 rfl s5_102)) rfl <| dr (ro_move (up_m rfl (u2 rfl s9_102))) rfl <| dr (ro_eq (ro_ix y72_sl49 (up_m rfl up_h) up_h (by omega) (by first | (refine idx_map ?_; first | omega | (simp only [lnS]; omega)) | (refine idx_mapI ?_; first | omega | (simp only [lnS]; omega)) | (refine idx_mapN ?_; first | omega | (simp only [lnS]; omega)) | rfl)) (by simp only [pS, Value.cells, Nat.reduceAdd, one_pE, one_iE, app_m, boE] <;> rfl)) rfl ?_
         refine dr (ro_eq (ro_ld_ref y72_ty3 rfl up_h (nle rfl)) (by simp only [pS, Value.cells, Nat.reduceAdd, one_pE, one_iE, app_m, boE] <;> rfl)) rfl ?_
         refine dr (ro_min (u4 rfl up_h) up_h) rfl <| dr (ro_fld_ptr qfl104_2 rfl (up_m rfl (u2 rfl (u4 rfl s14_102)))) rfl <| ds_nil <| al_stm (st_store up_h (up_m rfl up_h) rfl rfl mon_40_1_100 qsz3 rfl (nle rfl)) trivial rfl (fun m_104 hm_104 => ?_)
         have mon_40_1_104 := m_set hm_104 mon_40_1_100
         simp only [pS, Value.cells, Nat.reduceAdd, one_pE, one_iE, app_m, boE] at mon_40_1_104
         have mon_40_104 := m_set_o hm_104 mon_40_100 (by omega)
         have mo2_104 := m_set_o hm_104 mo2_100 (by omega)
         have mok_104 := m_set_o hm_104 mok_100 (by omega)
         have mo1_104 := m_set_o hm_104 mo1_100 (by omega)
         have mo0_104 := m_set_o hm_104 mo0_100 (by omega)
         have moj8_40_104 := m_set_o hm_104 moj8_40_100 (by omega)
         have ml_104 := m_set_l hm_104 ml_100
         clear hm_104 mon_40_1_100 mon_40_100 mo2_100 mok_100 mo1_100 mo0_100 moj8_40_100
         refine ae8 (up_n (u8 rfl s2_102)) (up_n (u8 rfl s3_102)) (up_n (u8 rfl s5_102)) (up_n (u8 rfl s7_102)) (up_n (u8 rfl s8_102)) (up_n (u8 rfl s9_102)) (up_n (u8 rfl s12_102)) (up_n (u8 rfl s14_102)) ?_; clear s12_102 s14_102 s165_102 s2_102 s3_102 s5_102 s7_102 s8_102 s9_102; intro e_105 s2_105 s3_105 s5_105 s7_105 s8_105 s9_105 s12_105 s14_105
         refine then_n <| at_ <| ar (ro_fld_ptr qfl100_1 rfl s7_105) rfl <| ar (ro_eq (ro_ld_ptr y72_ty98 rfl mo2_104 up_h (nle rfl)) (by simp only [pS, Value.cells, Nat.reduceAdd, one_pE, one_iE, app_m, boE] <;> rfl)) rfl ?_
         refine ar (ro_eq (ro_ld_ptr y72_ty104 rfl mon_40_1_104 (u2 rfl s14_105) (nle rfl)) (by simp only [pS, Value.cells, Nat.reduceAdd, one_pE, one_iE, app_m, boE] <;> rfl)) rfl ?_
         refine ar (ro_lit y72_sl98 (evP_cons up_h evP_nil) rfl rfl rfl rfl) rfl <| al_stm (st_app y72_sl98 rfl ml_104 mok_104 (u2 rfl up_h) up_h (by rfl) (by simp only [lnS] <;> omega)) trivial rfl (fun m_106 hm_106 => ?_)
         have mon_40_1_1_106 := m_swap hm_106 ml_104
         simp only [pS, Value.cells, Nat.reduceAdd, one_pE, one_iE, app_m, boE] at mon_40_1_1_106
         have mon_40_1_106 := m_swap_o hm_106 mon_40_1_104 (by omega)
         have mon_40_106 := m_swap_o hm_106 mon_40_104 (by omega)
         have mo2_106 := m_swap_o hm_106 mo2_104 (by omega)
         have mo1_106 := m_swap_o hm_106 mo1_104 (by omega)
         have mo0_106 := m_swap_o hm_106 mo0_104 (by omega)
         have moj8_40_106 := m_swap_o hm_106 moj8_40_104 (by omega)
         have ml_106 := m_swap_l hm_106 ml_104
         clear hm_106 mon_40_1_104 mon_40_104 mo2_104 mok_104 mo1_104 mo0_104 moj8_40_104
         refine ar (ro_move (up_m rfl (u4 rfl s8_105))) rfl <| ar (ro_move (u2 rfl (u4 rfl s12_105))) rfl <| ar (ro_lit y72_sl49 (evP_cons up_h evP_nil) rfl rfl rfl rfl) rfl <| al_stm (st_app y72_sl49 rfl ml_106 moj8_40_106 (u2 rfl up_h) up_h (by rfl) (by simp only [lnS] <;> omega)) trivial rfl (fun m_107 hm_107 => ?_)
         have mon_40_1_1_1_107 := m_swap hm_107 ml_106
         simp only [pS, Value.cells, Nat.reduceAdd, one_pE, one_iE, app_m, boE] at mon_40_1_1_1_107
         have mon_40_1_1_107 := m_swap_o hm_107 mon_40_1_1_106 (by omega)
         have mon_40_1_107 := m_swap_o hm_107 mon_40_1_106 (by omega)
         have mon_40_107 := m_swap_o hm_107 mon_40_106 (by omega)
         have mo2_107 := m_swap_o hm_107 mo2_106 (by omega)
         have mo1_107 := m_swap_o hm_107 mo1_106 (by omega)
         have mo0_107 := m_swap_o hm_107 mo0_106 (by omega)
         have ml_107 := m_swap_l hm_107 ml_106
         clear hm_107 mon_40_1_1_106 mon_40_1_106 mon_40_106 mo2_106 mo1_106 mo0_106 moj8_40_106
         refine ar (ro_fld_ptr qfl100_1 rfl (up_m rfl (u8 rfl s7_105))) rfl <| al_stm (st_store_own up_h (up_m rfl (u4 rfl up_h)) mo2_107 mon_40_1_1_107 y72_sz98 (nle rfl)) trivial rfl (fun m_108 hm_108 => ?_)
         have mo2_108 := m_set hm_108 mo2_107
         simp only [pS, Value.cells, Nat.reduceAdd, one_pE, one_iE, app_m, boE] at mo2_108
         have mon_40_1_1_1_108 := m_set_o hm_108 mon_40_1_1_1_107 (by omega)
         have mon_40_1_1_108 := m_set_o hm_108 mon_40_1_1_107 (by omega)
         have mon_40_1_108 := m_set_o hm_108 mon_40_1_107 (by omega)
         have mon_40_108 := m_set_o hm_108 mon_40_107 (by omega)
         have mo1_108 := m_set_o hm_108 mo1_107 (by decide)
         have mo0_108 := m_set_o hm_108 mo0_107 (by decide)
         have ml_108 := m_set_l hm_108 ml_107
         clear hm_108 mon_40_1_1_1_107 mon_40_1_1_107 mon_40_1_107 mon_40_107 mo2_107 mo1_107 mo0_107
         refine ar (ro_assign (up_n (up_m rfl up_h))) rfl <| ae6 (up_m rfl (up_n (u2 rfl (u8 rfl s2_105)))) (up_m rfl (up_n (u2 rfl (u8 rfl s3_105)))) (up_m rfl (up_n (u2 rfl (u8 rfl s5_105)))) (up_m rfl (up_n (u2 rfl (u8 rfl s7_105)))) up_h (up_m rfl (up_n (u2 rfl (u8 rfl s9_105)))) ?_; clear s12_105 s14_105 s2_105 s3_105 s5_105 s7_105 s8_105 s9_105; intro e_109 s2_109 s3_109 s5_109 s7_109 s8_109 s9_109
         refine block_n <| then_n <| at_ <| ar (ro_move s9_109) rfl ?_
         (refine ar (ro_add' up_h ev_c ?_) rfl ?_; · (unfold In64; omega))
         refine ar (ro_assign up_h) rfl <| ae6 (up_m rfl (u2 rfl s2_109)) (up_m rfl (u2 rfl s3_109)) (up_m rfl (u2 rfl s5_109)) (up_m rfl (u2 rfl s7_109)) (up_m rfl (u2 rfl s8_109)) up_h ?_; clear s2_109 s3_109 s5_109 s7_109 s8_109 s9_109; intro e_110 s2_110 s3_110 s5_110 s7_110 s8_110 s9_110
         refine then_n <| ⟨⟨_, _, _, _⟩, ⟨s9_110, (s2_110.trans s2_38.symm), (s3_110.trans s3_38.symm), (s5_110.trans s5_38.symm), (s7_110.trans s7_38.symm), mo2_108, mon_40_1_1_108, (mo1_108.trans mo1_39.symm), (mo0_108.trans mo0_39.symm), ⟨_, s8_110, mon_40_1_1_1_108, (by omega), (by omega), (by omega), (by omega)⟩, ⟨_, ml_108, by omega⟩, ?_⟩, ?_⟩
         · (refine ⟨by omega, by omega, by omega, trip_next p1 p3 ?_ ?_, ?_⟩; (unfold limT limA; rw [show i.toNat - 1 = (i - 1).toNat by omega]; repeat' split); all_goals first | omega | (rw [decide_eq_true (by omega)]; rfl) | (rw [decide_eq_false (by omega)]; rfl) | (rw [p4, show (i + 1).toNat = i.toNat + 1 by omega, pplL_succ]))
         · ((try dsimp only); omega)
        replace hq_103 := bf hq_103
        refine aw_skip <| then_n <| at_ <| ar (ro_fld_ptr qfl100_1 rfl s7_102) rfl <| ar (ro_eq (ro_ld_ptr y72_ty98 rfl mo2_100 up_h (nle rfl)) (by simp only [pS, Value.cells, Nat.reduceAdd, one_pE, one_iE, app_m, boE] <;> rfl)) rfl ?_
        refine ar (ro_eq (ro_ld_ptr y72_ty104 rfl mon_40_1_100 (u2 rfl s14_102) (nle rfl)) (by simp only [pS, Value.cells, Nat.reduceAdd, one_pE, one_iE, app_m, boE] <;> rfl)) rfl ?_
        refine ar (ro_lit y72_sl98 (evP_cons up_h evP_nil) rfl rfl rfl rfl) rfl <| al_stm (st_app y72_sl98 rfl ml_100 mok_100 (u2 rfl up_h) up_h (by rfl) (by simp only [lnS] <;> omega)) trivial rfl (fun m_111 hm_111 => ?_)
        have mon_40_1_1_111 := m_swap hm_111 ml_100
        simp only [pS, Value.cells, Nat.reduceAdd, one_pE, one_iE, app_m, boE] at mon_40_1_1_111
        have mon_40_1_111 := m_swap_o hm_111 mon_40_1_100 (by omega)
        have mon_40_111 := m_swap_o hm_111 mon_40_100 (by omega)
        have mo2_111 := m_swap_o hm_111 mo2_100 (by omega)
        have mo1_111 := m_swap_o hm_111 mo1_100 (by omega)
        have mo0_111 := m_swap_o hm_111 mo0_100 (by omega)
        have moj8_40_111 := m_swap_o hm_111 moj8_40_100 (by omega)
        have ml_111 := m_swap_l hm_111 ml_100
        clear hm_111 mon_40_1_100 mon_40_100 mo2_100 mok_100 mo1_100 mo0_100 moj8_40_100
        refine ar (ro_move (up_m rfl (u4 rfl s8_102))) rfl <| ar (ro_move (u2 rfl (u4 rfl s12_102))) rfl <| ar (ro_lit y72_sl49 (evP_cons up_h evP_nil) rfl rfl rfl rfl) rfl <| al_stm (st_app y72_sl49 rfl ml_111 moj8_40_111 (u2 rfl up_h) up_h (by rfl) (by simp only [lnS] <;> omega)) trivial rfl (fun m_112 hm_112 => ?_)
        have mon_40_1_1_1_112 := m_swap hm_112 ml_111
        simp only [pS, Value.cells, Nat.reduceAdd, one_pE, one_iE, app_m, boE] at mon_40_1_1_1_112
        have mon_40_1_1_112 := m_swap_o hm_112 mon_40_1_1_111 (by omega)
        have mon_40_1_112 := m_swap_o hm_112 mon_40_1_111 (by omega)
        have mon_40_112 := m_swap_o hm_112 mon_40_111 (by omega)
        have mo2_112 := m_swap_o hm_112 mo2_111 (by omega)
        have mo1_112 := m_swap_o hm_112 mo1_111 (by omega)
        have mo0_112 := m_swap_o hm_112 mo0_111 (by omega)
        have ml_112 := m_swap_l hm_112 ml_111
        clear hm_112 mon_40_1_1_111 mon_40_1_111 mon_40_111 mo2_111 mo1_111 mo0_111 moj8_40_111
        refine ar (ro_fld_ptr qfl100_1 rfl (up_m rfl (u8 rfl s7_102))) rfl <| al_stm (st_store_own up_h (up_m rfl (u4 rfl up_h)) mo2_112 mon_40_1_1_112 y72_sz98 (nle rfl)) trivial rfl (fun m_113 hm_113 => ?_)
        have mo2_113 := m_set hm_113 mo2_112
        simp only [pS, Value.cells, Nat.reduceAdd, one_pE, one_iE, app_m, boE] at mo2_113
        have mon_40_1_1_1_113 := m_set_o hm_113 mon_40_1_1_1_112 (by omega)
        have mon_40_1_1_113 := m_set_o hm_113 mon_40_1_1_112 (by omega)
        have mon_40_1_113 := m_set_o hm_113 mon_40_1_112 (by omega)
        have mon_40_113 := m_set_o hm_113 mon_40_112 (by omega)
        have mo1_113 := m_set_o hm_113 mo1_112 (by decide)
        have mo0_113 := m_set_o hm_113 mo0_112 (by decide)
        have ml_113 := m_set_l hm_113 ml_112
        clear hm_113 mon_40_1_1_1_112 mon_40_1_1_112 mon_40_1_112 mon_40_112 mo2_112 mo1_112 mo0_112
        refine ar (ro_assign (up_n (up_m rfl up_h))) rfl <| ae6 (up_m rfl (up_n (u2 rfl (u8 rfl s2_102)))) (up_m rfl (up_n (u2 rfl (u8 rfl s3_102)))) (up_m rfl (up_n (u2 rfl (u8 rfl s5_102)))) (up_m rfl (up_n (u2 rfl (u8 rfl s7_102)))) up_h (up_m rfl (up_n (u2 rfl (u8 rfl s9_102)))) ?_; clear s12_102 s14_102 s165_102 s2_102 s3_102 s5_102 s7_102 s8_102 s9_102; intro e_114 s2_114 s3_114 s5_114 s7_114 s8_114 s9_114
        refine block_n <| then_n <| at_ <| ar (ro_move s9_114) rfl ?_
        (refine ar (ro_add' up_h ev_c ?_) rfl ?_; · (unfold In64; omega))
        refine ar (ro_assign up_h) rfl <| ae6 (up_m rfl (u2 rfl s2_114)) (up_m rfl (u2 rfl s3_114)) (up_m rfl (u2 rfl s5_114)) (up_m rfl (u2 rfl s7_114)) (up_m rfl (u2 rfl s8_114)) up_h ?_; clear s2_114 s3_114 s5_114 s7_114 s8_114 s9_114; intro e_115 s2_115 s3_115 s5_115 s7_115 s8_115 s9_115
        refine then_n <| ⟨⟨_, _, _, _⟩, ⟨s9_115, (s2_115.trans s2_38.symm), (s3_115.trans s3_38.symm), (s5_115.trans s5_38.symm), (s7_115.trans s7_38.symm), mo2_113, mon_40_1_1_113, (mo1_113.trans mo1_39.symm), (mo0_113.trans mo0_39.symm), ⟨_, s8_115, mon_40_1_1_1_113, (by omega), (by omega), (by omega), (by omega)⟩, ⟨_, ml_113, by omega⟩, ?_⟩, ?_⟩
        · (refine ⟨by omega, by omega, by omega, trip_next p1 p3 ?_ ?_, ?_⟩; (unfold limT limA; rw [show i.toNat - 1 = (i - 1).toNat by omega]; repeat' split); all_goals first | omega | (rw [decide_eq_true (by omega)]; rfl) | (rw [decide_eq_false (by omega)]; rfl) | (rw [p4, show (i + 1).toNat = i.toNat + 1 by omega, pplL_succ]))
        · ((try dsimp only); omega)
       replace hq_99 := bf hq_99
       refine aw_skip <| then_n <| aw_seq <| aw_seq <| at_ <| ar (ro_move s9_98) rfl <| ar (ro_move (up_m rfl s5_98)) rfl <| ar (ro_eq (ro_len_row up_h rfl y72_sl49.1) (by simp only [lnS] <;> rfl)) rfl ?_
       refine ar (ro_lss (u2 rfl up_h) up_h) rfl <| ae9 (u4 rfl s2_98) (u4 rfl s3_98) (u4 rfl s5_98) (u4 rfl s7_98) (u4 rfl s8_98) (u4 rfl s9_98) (u4 rfl s12_98) (u4 rfl s14_98) up_h ?_; clear s12_98 s14_98 s152_98 s2_98 s3_98 s5_98 s7_98 s8_98 s9_98; intro e_116 s2_116 s3_116 s5_116 s7_116 s8_116 s9_116 s12_116 s14_116 s165_116
       refine then_n <| aw_case s165_116 (fun hq_117 => ?_) (fun hq_117 => ?_)
       ·replace hq_117 := bt hq_117
        refine aw_draw 8 (by kernel_rfl) (by kernel_rfl) (by kernel_rfl) (by kernel_rfl) ?_
        refine dr (ro_fld_ptr qfl104_2 rfl s14_116) rfl <| dr (ro_eq (ro_ld_ptr y72_ty3 rfl mon_40_1_96 up_h (nle rfl)) (by simp only [pS, Value.cells, Nat.reduceAdd, one_pE, one_iE, app_m, boE] <;> rfl)) rfl ?_
        refine dr (ro_move (u2 rfl s5_116)) rfl <| dr (ro_move (up_m rfl (u2 rfl s9_116))) rfl <| dr (ro_eq (ro_ix y72_sl49 (up_m rfl up_h) up_h (by omega) (by first | (refine idx_map ?_; first | omega | (simp only [lnS]; omega)) | (refine idx_mapI ?_; first | omega | (simp only [lnS]; omega)) | (refine idx_mapN ?_; first | omega | (simp only [lnS]; omega)) | rfl)) (by simp only [pS, Value.cells, Nat.reduceAdd, one_pE, one_iE, app_m, boE] <;> rfl)) rfl ?_
        refine dr (ro_eq (ro_ld_ref y72_ty3 rfl up_h (nle rfl)) (by simp only [pS, Value.cells, Nat.reduceAdd, one_pE, one_iE, app_m, boE] <;> rfl)) rfl ?_
        refine dr (ro_min (u4 rfl up_h) up_h) rfl <| dr (ro_fld_ptr qfl104_2 rfl (up_m rfl (u2 rfl (u4 rfl s14_116)))) rfl <| ds_nil <| al_stm (st_store up_h (up_m rfl up_h) rfl rfl mon_40_1_96 qsz3 rfl (nle rfl)) trivial rfl (fun m_118 hm_118 => ?_)
        have mon_40_1_118 := m_set hm_118 mon_40_1_96
        simp only [pS, Value.cells, Nat.reduceAdd, one_pE, one_iE, app_m, boE] at mon_40_1_118
        have mon_40_118 := m_set_o hm_118 mon_40_96 (by omega)
        have mo2_118 := m_set_o hm_118 mo2_96 (by omega)
        have mok_118 := m_set_o hm_118 mok_96 (by omega)
        have mo1_118 := m_set_o hm_118 mo1_96 (by omega)
        have mo0_118 := m_set_o hm_118 mo0_96 (by omega)
        have moj8_40_118 := m_set_o hm_118 moj8_40_96 (by omega)
        have ml_118 := m_set_l hm_118 ml_96
        clear hm_118 mon_40_1_96 mon_40_96 mo2_96 mok_96 mo1_96 mo0_96 moj8_40_96
        refine ae8 (up_n (u8 rfl s2_116)) (up_n (u8 rfl s3_116)) (up_n (u8 rfl s5_116)) (up_n (u8 rfl s7_116)) (up_n (u8 rfl s8_116)) (up_n (u8 rfl s9_116)) (up_n (u8 rfl s12_116)) (up_n (u8 rfl s14_116)) ?_; clear s12_116 s14_116 s165_116 s2_116 s3_116 s5_116 s7_116 s8_116 s9_116; intro e_119 s2_119 s3_119 s5_119 s7_119 s8_119 s9_119 s12_119 s14_119
        refine then_n <| at_ <| ar (ro_fld_ptr qfl100_1 rfl s7_119) rfl <| ar (ro_eq (ro_ld_ptr y72_ty98 rfl mo2_118 up_h (nle rfl)) (by simp only [pS, Value.cells, Nat.reduceAdd, one_pE, one_iE, app_m, boE] <;> rfl)) rfl ?_
        refine ar (ro_eq (ro_ld_ptr y72_ty104 rfl mon_40_1_118 (u2 rfl s14_119) (nle rfl)) (by simp only [pS, Value.cells, Nat.reduceAdd, one_pE, one_iE, app_m, boE] <;> rfl)) rfl ?_
        refine ar (ro_lit y72_sl98 (evP_cons up_h evP_nil) rfl rfl rfl rfl) rfl <| al_stm (st_app y72_sl98 rfl ml_118 mok_118 (u2 rfl up_h) up_h (by rfl) (by simp only [lnS] <;> omega)) trivial rfl (fun m_120 hm_120 => ?_)
        have mon_40_1_1_120 := m_swap hm_120 ml_118
        simp only [pS, Value.cells, Nat.reduceAdd, one_pE, one_iE, app_m, boE] at mon_40_1_1_120
        have mon_40_1_120 := m_swap_o hm_120 mon_40_1_118 (by omega)
        have mon_40_120 := m_swap_o hm_120 mon_40_118 (by omega)
        have mo2_120 := m_swap_o hm_120 mo2_118 (by omega)
        have mo1_120 := m_swap_o hm_120 mo1_118 (by omega)
        have mo0_120 := m_swap_o hm_120 mo0_118 (by omega)
        have moj8_40_120 := m_swap_o hm_120 moj8_40_118 (by omega)
        have ml_120 := m_swap_l hm_120 ml_118
        clear hm_120 mon_40_1_118 mon_40_118 mo2_118 mok_118 mo1_118 mo0_118 moj8_40_118
        refine ar (ro_move (up_m rfl (u4 rfl s8_119))) rfl <| ar (ro_move (u2 rfl (u4 rfl s12_119))) rfl <| ar (ro_lit y72_sl49 (evP_cons up_h evP_nil) rfl rfl rfl rfl) rfl <| al_stm (st_app y72_sl49 rfl ml_120 moj8_40_120 (u2 rfl up_h) up_h (by rfl) (by simp only [lnS] <;> omega)) trivial rfl (fun m_121 hm_121 => ?_)
        have mon_40_1_1_1_121 := m_swap hm_121 ml_120
        simp only [pS, Value.cells, Nat.reduceAdd, one_pE, one_iE, app_m, boE] at mon_40_1_1_1_121
        have mon_40_1_1_121 := m_swap_o hm_121 mon_40_1_1_120 (by omega)
        have mon_40_1_121 := m_swap_o hm_121 mon_40_1_120 (by omega)
        have mon_40_121 := m_swap_o hm_121 mon_40_120 (by omega)
        have mo2_121 := m_swap_o hm_121 mo2_120 (by omega)
        have mo1_121 := m_swap_o hm_121 mo1_120 (by omega)
        have mo0_121 := m_swap_o hm_121 mo0_120 (by omega)
        have ml_121 := m_swap_l hm_121 ml_120
        clear hm_121 mon_40_1_1_120 mon_40_1_120 mon_40_120 mo2_120 mo1_120 mo0_120 moj8_40_120
        refine ar (ro_fld_ptr qfl100_1 rfl (up_m rfl (u8 rfl s7_119))) rfl <| al_stm (st_store_own up_h (up_m rfl (u4 rfl up_h)) mo2_121 mon_40_1_1_121 y72_sz98 (nle rfl)) trivial rfl (fun m_122 hm_122 => ?_)
        have mo2_122 := m_set hm_122 mo2_121
        simp only [pS, Value.cells, Nat.reduceAdd, one_pE, one_iE, app_m, boE] at mo2_122
        have mon_40_1_1_1_122 := m_set_o hm_122 mon_40_1_1_1_121 (by omega)
        have mon_40_1_1_122 := m_set_o hm_122 mon_40_1_1_121 (by omega)
        have mon_40_1_122 := m_set_o hm_122 mon_40_1_121 (by omega)
        have mon_40_122 := m_set_o hm_122 mon_40_121 (by omega)
        have mo1_122 := m_set_o hm_122 mo1_121 (by decide)
        have mo0_122 := m_set_o hm_122 mo0_121 (by decide)
        have ml_122 := m_set_l hm_122 ml_121
        clear hm_122 mon_40_1_1_1_121 mon_40_1_1_121 mon_40_1_121 mon_40_121 mo2_121 mo1_121 mo0_121
        refine ar (ro_assign (up_n (up_m rfl up_h))) rfl <| ae6 (up_m rfl (up_n (u2 rfl (u8 rfl s2_119)))) (up_m rfl (up_n (u2 rfl (u8 rfl s3_119)))) (up_m rfl (up_n (u2 rfl (u8 rfl s5_119)))) (up_m rfl (up_n (u2 rfl (u8 rfl s7_119)))) up_h (up_m rfl (up_n (u2 rfl (u8 rfl s9_119)))) ?_; clear s12_119 s14_119 s2_119 s3_119 s5_119 s7_119 s8_119 s9_119; intro e_123 s2_123 s3_123 s5_123 s7_123 s8_123 s9_123
        refine block_n <| then_n <| at_ <| ar (ro_move s9_123) rfl ?_
        (refine ar (ro_add' up_h ev_c ?_) rfl ?_; · (unfold In64; omega))
        refine ar (ro_assign up_h) rfl <| ae6 (up_m rfl (u2 rfl s2_123)) (up_m rfl (u2 rfl s3_123)) (up_m rfl (u2 rfl s5_123)) (up_m rfl (u2 rfl s7_123)) (up_m rfl (u2 rfl s8_123)) up_h ?_; clear s2_123 s3_123 s5_123 s7_123 s8_123 s9_123; intro e_124 s2_124 s3_124 s5_124 s7_124 s8_124 s9_124
        refine then_n <| ⟨⟨_, _, _, _⟩, ⟨s9_124, (s2_124.trans s2_38.symm), (s3_124.trans s3_38.symm), (s5_124.trans s5_38.symm), (s7_124.trans s7_38.symm), mo2_122, mon_40_1_1_122, (mo1_122.trans mo1_39.symm), (mo0_122.trans mo0_39.symm), ⟨_, s8_124, mon_40_1_1_1_122, (by omega), (by omega), (by omega), (by omega)⟩, ⟨_, ml_122, by omega⟩, ?_⟩, ?_⟩
        · (refine ⟨by omega, by omega, by omega, trip_next p1 p3 ?_ ?_, ?_⟩; (unfold limT limA; rw [show i.toNat - 1 = (i - 1).toNat by omega]; repeat' split); all_goals first | omega | (rw [decide_eq_true (by omega)]; rfl) | (rw [decide_eq_false (by omega)]; rfl) | (rw [p4, show (i + 1).toNat = i.toNat + 1 by omega, pplL_succ]))
        · ((try dsimp only); omega)
       replace hq_117 := bf hq_117
       refine aw_skip <| then_n <| at_ <| ar (ro_fld_ptr qfl100_1 rfl s7_116) rfl <| ar (ro_eq (ro_ld_ptr y72_ty98 rfl mo2_96 up_h (nle rfl)) (by simp only [pS, Value.cells, Nat.reduceAdd, one_pE, one_iE, app_m, boE] <;> rfl)) rfl ?_
       refine ar (ro_eq (ro_ld_ptr y72_ty104 rfl mon_40_1_96 (u2 rfl s14_116) (nle rfl)) (by simp only [pS, Value.cells, Nat.reduceAdd, one_pE, one_iE, app_m, boE] <;> rfl)) rfl ?_
       refine ar (ro_lit y72_sl98 (evP_cons up_h evP_nil) rfl rfl rfl rfl) rfl <| al_stm (st_app y72_sl98 rfl ml_96 mok_96 (u2 rfl up_h) up_h (by rfl) (by simp only [lnS] <;> omega)) trivial rfl (fun m_125 hm_125 => ?_)
       have mon_40_1_1_125 := m_swap hm_125 ml_96
       simp only [pS, Value.cells, Nat.reduceAdd, one_pE, one_iE, app_m, boE] at mon_40_1_1_125
       have mon_40_1_125 := m_swap_o hm_125 mon_40_1_96 (by omega)
       have mon_40_125 := m_swap_o hm_125 mon_40_96 (by omega)
       have mo2_125 := m_swap_o hm_125 mo2_96 (by omega)
       have mo1_125 := m_swap_o hm_125 mo1_96 (by omega)
       have mo0_125 := m_swap_o hm_125 mo0_96 (by omega)
       have moj8_40_125 := m_swap_o hm_125 moj8_40_96 (by omega)
       have ml_125 := m_swap_l hm_125 ml_96
       clear hm_125 mon_40_1_96 mon_40_96 mo2_96 mok_96 mo1_96 mo0_96 moj8_40_96
       refine ar (ro_move (up_m rfl (u4 rfl s8_116))) rfl <| ar (ro_move (u2 rfl (u4 rfl s12_116))) rfl <| ar (ro_lit y72_sl49 (evP_cons up_h evP_nil) rfl rfl rfl rfl) rfl <| al_stm (st_app y72_sl49 rfl ml_125 moj8_40_125 (u2 rfl up_h) up_h (by rfl) (by simp only [lnS] <;> omega)) trivial rfl (fun m_126 hm_126 => ?_)
       have mon_40_1_1_1_126 := m_swap hm_126 ml_125
       simp only [pS, Value.cells, Nat.reduceAdd, one_pE, one_iE, app_m, boE] at mon_40_1_1_1_126
       have mon_40_1_1_126 := m_swap_o hm_126 mon_40_1_1_125 (by omega)
       have mon_40_1_126 := m_swap_o hm_126 mon_40_1_125 (by omega)
       have mon_40_126 := m_swap_o hm_126 mon_40_125 (by omega)
       have mo2_126 := m_swap_o hm_126 mo2_125 (by omega)
       have mo1_126 := m_swap_o hm_126 mo1_125 (by omega)
       have mo0_126 := m_swap_o hm_126 mo0_125 (by omega)
       have ml_126 := m_swap_l hm_126 ml_125
       clear hm_126 mon_40_1_1_125 mon_40_1_125 mon_40_125 mo2_125 mo1_125 mo0_125 moj8_40_125
       refine ar (ro_fld_ptr qfl100_1 rfl (up_m rfl (u8 rfl s7_116))) rfl <| al_stm (st_store_own up_h (up_m rfl (u4 rfl up_h)) mo2_126 mon_40_1_1_126 y72_sz98 (nle rfl)) trivial rfl (fun m_127 hm_127 => ?_)
       have mo2_127 := m_set hm_127 mo2_126
       simp only [pS, Value.cells, Nat.reduceAdd, one_pE, one_iE, app_m, boE] at mo2_127
       have mon_40_1_1_1_127 := m_set_o hm_127 mon_40_1_1_1_126 (by omega)
       have mon_40_1_1_127 := m_set_o hm_127 mon_40_1_1_126 (by omega)
       have mon_40_1_127 := m_set_o hm_127 mon_40_1_126 (by omega)
       have mon_40_127 := m_set_o hm_127 mon_40_126 (by omega)
       have mo1_127 := m_set_o hm_127 mo1_126 (by decide)
       have mo0_127 := m_set_o hm_127 mo0_126 (by decide)
       have ml_127 := m_set_l hm_127 ml_126
       clear hm_127 mon_40_1_1_1_126 mon_40_1_1_126 mon_40_1_126 mon_40_126 mo2_126 mo1_126 mo0_126
       refine ar (ro_assign (up_n (up_m rfl up_h))) rfl <| ae6 (up_m rfl (up_n (u2 rfl (u8 rfl s2_116)))) (up_m rfl (up_n (u2 rfl (u8 rfl s3_116)))) (up_m rfl (up_n (u2 rfl (u8 rfl s5_116)))) (up_m rfl (up_n (u2 rfl (u8 rfl s7_116)))) up_h (up_m rfl (up_n (u2 rfl (u8 rfl s9_116)))) ?_; clear s12_116 s14_116 s165_116 s2_116 s3_116 s5_116 s7_116 s8_116 s9_116; intro e_128 s2_128 s3_128 s5_128 s7_128 s8_128 s9_128
       refine block_n <| then_n <| at_ <| ar (ro_move s9_128) rfl ?_
       (refine ar (ro_add' up_h ev_c ?_) rfl ?_; · (unfold In64; omega))
       refine ar (ro_assign up_h) rfl <| ae6 (up_m rfl (u2 rfl s2_128)) (up_m rfl (u2 rfl s3_128)) (up_m rfl (u2 rfl s5_128)) (up_m rfl (u2 rfl s7_128)) (up_m rfl (u2 rfl s8_128)) up_h ?_; clear s2_128 s3_128 s5_128 s7_128 s8_128 s9_128; intro e_129 s2_129 s3_129 s5_129 s7_129 s8_129 s9_129
       refine then_n <| ⟨⟨_, _, _, _⟩, ⟨s9_129, (s2_129.trans s2_38.symm), (s3_129.trans s3_38.symm), (s5_129.trans s5_38.symm), (s7_129.trans s7_38.symm), mo2_127, mon_40_1_1_127, (mo1_127.trans mo1_39.symm), (mo0_127.trans mo0_39.symm), ⟨_, s8_129, mon_40_1_1_1_127, (by omega), (by omega), (by omega), (by omega)⟩, ⟨_, ml_127, by omega⟩, ?_⟩, ?_⟩
       · (refine ⟨by omega, by omega, by omega, trip_next p1 p3 ?_ ?_, ?_⟩; (unfold limT limA; rw [show i.toNat - 1 = (i - 1).toNat by omega]; repeat' split); all_goals first | omega | (rw [decide_eq_true (by omega)]; rfl) | (rw [decide_eq_false (by omega)]; rfl) | (rw [p4, show (i + 1).toNat = i.toNat + 1 by omega, pplL_succ]))
       · ((try dsimp only); omega)
      replace hq_42 := bf hq_42
      refine aw_exit <| then_x <| then_x <| block_hit <| then_n <| aw_seq <| aw_seq <| aw_freezeR s8_41 mo_j8_40 (fun m_130 e_130 hm_130 he_130 => ?_)
      have mo2_130 := m_set_o hm_130 mo2_40 (by omega)
      have mok_130 := m_set_o hm_130 mok_40 (by omega)
      have mo1_130 := m_set_o hm_130 mo1_40 (by omega)
      have mo0_130 := m_set_o hm_130 mo0_40 (by omega)
      have ml_130 := m_set_l hm_130 ml_40
      have s2_130 : evA e_130 (.tmp 2) = _ := (congrArg (fun q => evA q (.tmp 2)) he_130).trans (up_m rfl s2_41)
      have s3_130 : evA e_130 (.tmp 3) = _ := (congrArg (fun q => evA q (.tmp 3)) he_130).trans (up_m rfl s3_41)
      have s5_130 : evA e_130 (.tmp 5) = _ := (congrArg (fun q => evA q (.tmp 5)) he_130).trans (up_m rfl s5_41)
      have s7_130 : evA e_130 (.tmp 7) = _ := (congrArg (fun q => evA q (.tmp 7)) he_130).trans (up_m rfl s7_41)
      have s8_130 : evA e_130 (.tmp 8) = _ := (congrArg (fun q => evA q (.tmp 8)) he_130).trans up_h
      have s9_130 : evA e_130 (.tmp 9) = _ := (congrArg (fun q => evA q (.tmp 9)) he_130).trans (up_m rfl s9_41)
      have s98_130 : evA e_130 (.tmp 98) = _ := (congrArg (fun q => evA q (.tmp 98)) he_130).trans (up_m rfl s98_41)
      clear hm_130 he_130
      refine aw_freezeF 1 mo2_130 mok_130 (by omega) rfl (fun m_131 hm_131 => ?_)
      have mo2_131 := m_set hm_131 (m_set_o rfl mo2_130 (by omega))
      simp only [List.set_cons_zero, List.set_cons_succ] at mo2_131
      have mo1_131 := m_set_o hm_131 (m_set_o rfl mo1_130 (by omega)) (by decide)
      have mo0_131 := m_set_o hm_131 (m_set_o rfl mo0_130 (by omega)) (by decide)
      have ml_131 := m_set_l hm_131 (m_set_l rfl ml_130)
      clear hm_131 mo2_130 mok_130 mo1_130 mo0_130
      refine at_ <| ar (ro_eq (ro_ld_ptr y72_ty100 rfl mo2_131 s7_130 (nle rfl)) (by simp only [pS, Value.cells, Nat.reduceAdd, one_pE, one_iE, app_m, boE] <;> rfl)) rfl ?_
      refine ar (ro_call (evL_cons up_h evL_nil) rfl (rTrackErr_ok wayN ps (by decide) (by omega)) y72_hcf58) rfl ?_
      refine ar (ro_neq up_h ev_c) rfl <| ae5 (up_m rfl (u2 rfl s3_130)) (up_m rfl (u2 rfl s5_130)) (up_m rfl (u2 rfl s7_130)) (up_m rfl (u2 rfl s8_130)) up_h ?_; clear s2_130 s3_130 s5_130 s7_130 s8_130 s98_130 s9_130; intro e_132 s3_132 s5_132 s7_132 s8_132 s186_132
      refine then_n <| aw_case s186_132 (fun hq_133 => ?_) (fun hq_133 => ?_)
      ·replace hq_133 := bnt hq_133
       refine aw_seq <| at_ <| ar (ro_assign ev_c) rfl <| ae1 up_h ?_; clear s186_132 s3_132 s5_132 s7_132 s8_132; intro e_134 s4_134
       refine then_n <| aw_ret <| then_r <| ret1 (.inr rfl) (by kernel_rfl) (resV_tmp s4_134) (.ro _ rfl) ?_
       clear s4_134 mo2_131 mo1_131 mo0_131 ml_131
       (first | rfl | (exfalso; omega) | (exfalso; rw [c4] at hq_175; exact absurd hq_175 (by decide)) | (exfalso; simp_all; done) | (refine avb ?_; simp only [decide_eq_true_eq, Bool.false_eq_true, true_iff, false_iff, iff_true]; omega))
      replace hq_133 := bnf hq_133
      (have hck : (chk wayN ps).2 = 0 := (by omega); have hps : ps = tripN l ls lv l.bs.length := (by rw [p3, show i.toNat = l.bs.length by omega]); have hpsl : ps.length = l.bs.length := (by rw [hps, tripN_len]); have hpw : plW ps ps.length = pl := (by rw [hpsl, hps, plW_trip, p4, show i.toNat = l.bs.length by omega]); have hfe : firstE [(chk wayN ps).2, sysE b d v] = 0 := (by rw [hck, hsy]; rfl); have hRt := chk_right hck; have hSr := sys_right hsy; have hft := fas_two ps b v 0 0; have hpll : pl.length = ps.length + 1 := (by rw [p4, pplL_len]; omega); obtain ⟨y1, y2, y3, y4⟩ := id hSr)
      refine aw_skip <| then_n <| aw_seq <| at_ <| ar (ro_eq (ro_ld_ptr y72_ty100 rfl mo2_131 s7_132 (nle rfl)) (by simp only [pS, Value.cells, Nat.reduceAdd, one_pE, one_iE, app_m, boE] <;> rfl)) rfl ?_
      refine ar (ro_call (evL_cons up_h evL_nil) rfl (rCopy_ok wayN ps (by omega)) y72_hcf60) rfl ?_
      refine ar (ro_call (evL_cons up_h evL_nil) rfl (places3_ok (by decide) (by omega) hck) y72_hcf59) rfl ?_
      refine ar (ro_move up_h) rfl <| ar (ro_extract up_h rfl) rfl <| ar (ro_extract (up_m rfl up_h) rfl) rfl <| ar (ro_assign (up_m rfl up_h)) rfl <| ar (ro_assign (up_m rfl up_h)) rfl <| ae6 (u8 rfl s3_132) (u8 rfl s5_132) up_h (u8 rfl s7_132) (u8 rfl s8_132) (up_m rfl up_h) ?_; clear s186_132 s3_132 s5_132 s7_132 s8_132; intro e_135 s3_135 s5_135 s6_135 s7_135 s8_135 s15_135
      refine then_n <| aw_seq <| aw_seq <| at_ <| ar (ro_move s6_135) rfl <| ar (ro_neq up_h ev_c) rfl <| ar (ro_move up_h) rfl <| al_case up_h (fun hb_136 hq_136 => ?_) (fun hb_136 hq_136 => ?_)
      · replace hq_136 := bnt hq_136; exfalso; omega
      replace hq_136 := bnf hq_136
      refine al_ro' (ro_move (up_m rfl (u2 rfl s15_135))) ⟨_, rfl, hb_136⟩ rfl ?_
      refine al_ro' (ro_move (u4 rfl s8_135)) ⟨_, rfl, (up_m rfl hb_136)⟩ rfl ?_
      refine al_ro' (ro_call (evL_cons (up_m rfl up_h) (evL_cons up_h evL_nil)) rfl ((bIntsY_ok (plW ps ps.length) pl (by rw [hpw]; omega) (by omega)).mono (fun q h => show q = tbA true from h.trans (by rw [decide_eq_true hpw]))) qhcf26) ⟨_, rfl, (u2 rfl hb_136)⟩ rfl ?_
      refine al_ro' (ro_not up_h) ⟨_, rfl, (up_m rfl (u2 rfl hb_136))⟩ rfl ?_
      refine ar (ro_pickF (u4 rfl hb_136) up_h) rfl <| ae5 (u8 rfl s3_135) (u8 rfl s5_135) (u8 rfl s7_135) (u8 rfl s8_135) up_h ?_; clear hb_136 s15_135 s3_135 s5_135 s6_135 s7_135 s8_135; intro e_140 s3_140 s5_140 s7_140 s8_140 s200_140
      refine then_n <| aw_case s200_140 (fun hq_141 => ?_) (fun hq_141 => ?_)
      · replace hq_141 := bt' hq_141; cases hq_141
      replace hq_141 := bf' hq_141
      refine aw_skip <| then_n <| aw_seq <| aw_draw 11 (by kernel_rfl) (by kernel_rfl) (by kernel_rfl) (by kernel_rfl) ?_
      refine dr (ro_eq (ro_ld_ptr y72_ty100 rfl mo2_131 s7_140 (nle rfl)) (by simp only [pS, Value.cells, Nat.reduceAdd, one_pE, one_iE, app_m, boE] <;> rfl)) rfl ?_
      refine dr (ro_call (evL_cons up_h evL_nil) rfl (rCopy_ok wayN ps (by omega)) y72_hcf60) rfl ?_
      refine dr (ro_fld_ptr y72_fl96_0 rfl (u2 rfl s3_140)) rfl <| dr (ro_eq (ro_ld_ptr y72_ty93 rfl mo1_131 up_h (nle rfl)) (by simp only [pS, Value.cells, Nat.reduceAdd, one_pE, one_iE, app_m, boE] <;> rfl)) rfl ?_
      refine dr (ro_buildA evP_nil y72_bz85 y72_bu85 y72_bp85 rfl) rfl ?_
      refine dr (ro_call (evL_cons (up_m rfl (u2 rfl up_h)) (evL_cons (up_m rfl up_h) (evL_cons up_h evL_nil))) rfl (fastest0_ok (by decide) (by omega) hfe (by omega) (by omega)) y72_hcf61) rfl ?_
      refine dr (ro_move up_h) rfl <| dr (ro_extract up_h rfl) rfl <| dr (ro_extract (up_m rfl up_h) rfl) rfl <| dr (ro_assign (up_m rfl up_h)) rfl <| dr (ro_assign (up_m rfl up_h)) rfl <| ds_nil <| ae6 (up_m rfl (u2 rfl (u8 rfl s3_140))) (up_m rfl (u2 rfl (u8 rfl s5_140))) up_h (up_m rfl (u2 rfl (u8 rfl s7_140))) (up_m rfl (u2 rfl (u8 rfl s8_140))) (up_m rfl up_h) ?_; clear s200_140 s3_140 s5_140 s7_140 s8_140; intro e_143 s3_143 s5_143 s6_143 s7_143 s8_143 s16_143
      refine then_n <| aw_seq <| aw_seq <| at_ <| ar (ro_move s6_143) rfl <| ar (ro_neq up_h ev_c) rfl <| ae7 (u2 rfl s3_143) (u2 rfl s5_143) (u2 rfl s6_143) (u2 rfl s7_143) (u2 rfl s8_143) (u2 rfl s16_143) up_h ?_; clear s16_143 s3_143 s5_143 s6_143 s7_143 s8_143; intro e_144 s3_144 s5_144 s6_144 s7_144 s8_144 s16_144 s211_144
      refine then_n <| aw_case s211_144 (fun hq_145 => ?_) (fun hq_145 => ?_)
      ·replace hq_145 := bnt hq_145
       refine aw_seq <| at_ <| ar (ro_move s6_144) rfl <| ar (ro_eql up_h ev_c) rfl ?_
       refine ar (ro_assign up_h) rfl <| ae1 up_h ?_; clear s16_144 s211_144 s3_144 s5_144 s6_144 s7_144 s8_144; intro e_146 s4_146
       refine then_n <| aw_ret <| then_r <| ret1 (.inr rfl) (by kernel_rfl) (resV_tmp s4_146) (.ro _ rfl) ?_
       clear s4_146 mo2_131 mo1_131 mo0_131 ml_131
       (first | rfl | (exfalso; omega) | (exfalso; rw [c4] at hq_175; exact absurd hq_175 (by decide)) | (exfalso; simp_all; done) | (refine avb ?_; simp only [decide_eq_true_eq, Bool.false_eq_true, true_iff, false_iff, iff_true]; omega))
      replace hq_145 := bnf hq_145
      (have hfas : (fasW ps b v 0 0).2 = 0 := (by omega); have hriv := fast_runs hRt.1 hSr (by omega) hfas; have hxl := hriv.1; have hin0 : inL (fasW ps b v 0 0).1 0 ls := inL_fast (l := l) (lv := lv) (n := l.bs.length) (b := b) (v := v) (e0 := 0) (e1 := 0) (by omega) (by rw [← hps]; exact hriv); have hsq0 : sqsE ps (fasW ps b v 0 0).1 = 0 := sqs_zero hxl hriv.2.1)
      refine aw_skip <| then_n <| aw_seq <| aw_seq <| at_ <| ar (ro_move s16_144) rfl <| ar (ro_eq (ro_len_row up_h rfl y72_sl49.1) (by simp only [lnS] <;> rfl)) rfl ?_
      refine ar (ro_fld_ptr qfl100_1 rfl (u2 rfl s7_144)) rfl <| ar (ro_eq (ro_ld_ptr y72_ty98 rfl mo2_131 up_h (nle rfl)) (by simp only [pS, Value.cells, Nat.reduceAdd, one_pE, one_iE, app_m, boE] <;> rfl)) rfl ?_
      refine ar (ro_eq (ro_len_row up_h rfl y72_sl98.1) (by simp only [lnS] <;> rfl)) rfl ?_
      (refine ar (ro_add' up_h ev_c ?_) rfl ?_; · (unfold In64; omega))
      refine ar (ro_neq (u4 rfl up_h) up_h) rfl <| ar (ro_move up_h) rfl <| al_case up_h (fun hb_147 hq_147 => ?_) (fun hb_147 hq_147 => ?_)
      · replace hq_147 := bnt hq_147; exfalso; omega
      replace hq_147 := bnf hq_147
      refine al_ro' (ro_eq (ro_ld_ptr y72_ty100 rfl mo2_131 (u8 rfl s7_144) (nle rfl)) (by simp only [pS, Value.cells, Nat.reduceAdd, one_pE, one_iE, app_m, boE] <;> rfl)) ⟨_, rfl, hb_147⟩ rfl ?_
      refine al_ro' (ro_move (up_m rfl (u8 rfl s16_144))) ⟨_, rfl, (up_m rfl hb_147)⟩ rfl ?_
      refine al_ro' (ro_call (evL_cons (up_m rfl up_h) (evL_cons up_h evL_nil)) rfl ((rSquaresErr_ok (fasW ps b v 0 0).1 (by omega) wayN ps (by omega)).mono (fun q h => show q = iA 0 from h.trans (by rw [hsq0]))) y72_hcf62) ⟨_, rfl, (u2 rfl hb_147)⟩ rfl ?_
      refine al_ro' (ro_neq up_h ev_c) ⟨_, rfl, (up_m rfl (u2 rfl hb_147))⟩ rfl ?_
      refine ar (ro_pickF (u4 rfl hb_147) up_h) rfl <| ar (ro_move up_h) rfl <| al_case up_h (fun hb_151 hq_151 => ?_) (fun hb_151 hq_151 => ?_)
      · replace hq_151 := bnt hq_151; exfalso; omega
      replace hq_151 := bnf hq_151
      refine al_ro' (ro_move (u2 rfl (u4 rfl (u8 rfl s16_144)))) ⟨_, rfl, hb_151⟩ rfl ?_
      refine al_ro' (ro_move (up_m rfl (u2 rfl (u4 rfl (u8 rfl s5_144))))) ⟨_, rfl, (up_m rfl hb_151)⟩ rfl ?_
      refine al_ro' (ro_call (evL_cons (up_m rfl up_h) (evL_cons ev_c (evL_cons up_h evL_nil))) rfl (brakeWithin_ok (fasW ps b v 0 0).1 0 ls (by omega) (by omega) (by omega) hin0) y72_hcf63) ⟨_, rfl, (u2 rfl hb_151)⟩ rfl ?_
      refine al_ro' (ro_not up_h) ⟨_, rfl, (up_m rfl (u2 rfl hb_151))⟩ rfl ?_
      refine ar (ro_pickF (u4 rfl hb_151) up_h) rfl <| ae6 (up_m rfl (u2 rfl (u16 rfl s3_144))) (up_m rfl (u2 rfl (u16 rfl s5_144))) (up_m rfl (u2 rfl (u16 rfl s7_144))) (up_m rfl (u2 rfl (u16 rfl s8_144))) (up_m rfl (u2 rfl (u16 rfl s16_144))) up_h ?_; clear hb_147 hb_151 s16_144 s211_144 s3_144 s5_144 s6_144 s7_144 s8_144; intro e_155 s3_155 s5_155 s7_155 s8_155 s16_155 s232_155
      refine then_n <| aw_case s232_155 (fun hq_156 => ?_) (fun hq_156 => ?_)
      · replace hq_156 := bt' hq_156; cases hq_156
      replace hq_156 := bf' hq_156
      refine aw_skip <| then_n <| aw_seq <| aw_seq <| at_ <| ar (ro_assign ev_c) rfl <| ae6 (up_m rfl s3_155) (up_m rfl s5_155) (up_m rfl s7_155) (up_m rfl s8_155) (up_m rfl s16_155) up_h ?_; clear s16_155 s232_155 s3_155 s5_155 s7_155 s8_155; intro e_158 s3_158 s5_158 s7_158 s8_158 s16_158 s17_158
      refine then_n <| aw_block <| aw_loop (S := Int) (fun i e mem => (evA e (.tmp 17) = .v (.int .i64 i)) ∧ (evA e (.tmp 3) = evA e_158 (.tmp 3)) ∧ (evA e (.tmp 5) = evA e_158 (.tmp 5)) ∧ (evA e (.tmp 7) = evA e_158 (.tmp 7)) ∧ (evA e (.tmp 8) = evA e_158 (.tmp 8)) ∧ (evA e (.tmp 16) = evA e_158 (.tmp 16)) ∧ (mem[2]? = m_131[2]?) ∧ (mem[1]? = m_131[1]?) ∧ (mem[0]? = m_131[0]?) ∧ (∃ n, mem.length = n ∧ n_40 ≤ n) ∧ ((0 ≤ i ∧ i ≤ (fasW ps b v 0 0).1.length))) (fun i => ((fasW ps b v 0 0).1.length - i).toNat) _ ⟨s17_158, rfl, rfl, rfl, rfl, rfl, rfl, rfl, rfl, ⟨_, ml_131, Nat.le_refl _⟩, ?_⟩ ?_
      · (exact ⟨by omega, by omega⟩)
      · rintro i e_159 m_159 ⟨s17_159, k3_159, k5_159, k7_159, k8_159, k16_159, mk2_159, mk1_159, mk0_159, ⟨n_159, ml_159, hn_159⟩, hinv⟩
        have s3_159 := k3_159.trans s3_158
        have s5_159 := k5_159.trans s5_158
        have s7_159 := k7_159.trans s7_158
        have s8_159 := k8_159.trans s8_158
        have s16_159 := k16_159.trans s16_158
        have mo2_159 := mk2_159.trans mo2_131
        have mo1_159 := mk1_159.trans mo1_131
        have mo0_159 := mk0_159.trans mo0_131
        (obtain ⟨p1, p2⟩ := hinv)
        refine aw_seq <| aw_seq <| at_ <| ar (ro_move s17_159) rfl <| ar (ro_move (up_m rfl s16_159)) rfl <| ar (ro_eq (ro_len_row up_h rfl y72_sl49.1) (by simp only [lnS] <;> rfl)) rfl ?_
        refine ar (ro_lss (u2 rfl up_h) up_h) rfl <| ae7 (u4 rfl s3_159) (u4 rfl s5_159) (u4 rfl s7_159) (u4 rfl s8_159) (u4 rfl s16_159) (u4 rfl s17_159) up_h ?_; clear s16_159 s17_159 s3_159 s5_159 s7_159 s8_159; intro e_160 s3_160 s5_160 s7_160 s8_160 s16_160 s17_160 s236_160
        refine then_n <| aw_case s236_160 (fun hq_161 => ?_) (fun hq_161 => ?_)
        ·replace hq_161 := bt hq_161
         (have hxb := hriv.2.1 i.toNat; have hst := stE_of hfe (p := i) (s := (fasW ps b v 0 0).1.getD i.toNat default) (by omega) hxb; have hrl := rcW_len ps b d i ((fasW ps b v 0 0).1.getD i.toNat default))
         refine aw_skip <| then_n <| aw_seq <| aw_block <| aw_seq <| aw_draw 16 (by kernel_rfl) (by kernel_rfl) (by kernel_rfl) (by kernel_rfl) ?_
         refine dr (ro_eq (ro_ld_ptr y72_ty100 rfl mo2_159 s7_160 (nle rfl)) (by simp only [pS, Value.cells, Nat.reduceAdd, one_pE, one_iE, app_m, boE] <;> rfl)) rfl ?_
         refine dr (ro_call (evL_cons up_h evL_nil) rfl (rCopy_ok wayN ps (by omega)) y72_hcf60) rfl ?_
         refine dr (ro_fld_ptr y72_fl96_0 rfl (u2 rfl s3_160)) rfl <| dr (ro_eq (ro_ld_ptr y72_ty93 rfl mo1_159 up_h (nle rfl)) (by simp only [pS, Value.cells, Nat.reduceAdd, one_pE, one_iE, app_m, boE] <;> rfl)) rfl ?_
         refine dr (ro_move (u4 rfl s17_160)) rfl <| dr (ro_move (up_m rfl (u4 rfl s16_160))) rfl <| dr (ro_move (u2 rfl (u4 rfl s17_160))) rfl <| dr (ro_eq (ro_ix y72_sl49 (up_m rfl up_h) up_h (by omega) (by first | (refine idx_map ?_; first | omega | (simp only [lnS]; omega)) | (refine idx_mapI ?_; first | omega | (simp only [lnS]; omega)) | (refine idx_mapN ?_; first | omega | (simp only [lnS]; omega)) | rfl)) (by simp only [pS, Value.cells, Nat.reduceAdd, one_pE, one_iE, app_m, boE] <;> rfl)) rfl ?_
         refine dr (ro_eq (ro_ld_ref y72_ty3 rfl up_h (nle rfl)) (by simp only [pS, Value.cells, Nat.reduceAdd, one_pE, one_iE, app_m, boE] <;> rfl)) rfl ?_
         refine dr (ro_build (evP_cons (u4 rfl up_h) (evP_cons up_h evP_nil)) qbz113 qbu113 qbp113 rfl) rfl ?_
         refine dr (ro_call (evL_cons (u8 rfl up_h) (evL_cons (u2 rfl (u4 rfl up_h)) (evL_cons up_h evL_nil))) rfl ((stopsOf_ok wayN ps (by decide) (by omega) b d v i ((fasW ps b v 0 0).1.getD i.toNat default)).mono (fun q h => h.trans (by rw [hst, if_pos rfl]))) y72_hcf64) rfl ?_
         refine dr (ro_move up_h) rfl <| dr (ro_extract up_h rfl) rfl <| dr (ro_extract (up_m rfl up_h) rfl) rfl <| dr (ro_assign (up_m rfl up_h)) rfl <| dr (ro_assign (up_m rfl up_h)) rfl <| ds_nil <| ae8 (u16 rfl s3_160) (u16 rfl s5_160) (u16 rfl s7_160) (u16 rfl s8_160) (u16 rfl s16_160) (u16 rfl s17_160) (up_m rfl up_h) up_h ?_; clear s16_160 s17_160 s236_160 s3_160 s5_160 s7_160 s8_160; intro e_162 s3_162 s5_162 s7_162 s8_162 s16_162 s17_162 s18_162 s19_162
         refine then_n <| aw_seq <| aw_seq <| at_ <| ar (ro_move s19_162) rfl <| ar (ro_neq up_h ev_c) rfl <| ae8 (u2 rfl s3_162) (u2 rfl s5_162) (u2 rfl s7_162) (u2 rfl s8_162) (u2 rfl s16_162) (u2 rfl s17_162) (u2 rfl s18_162) up_h ?_; clear s16_162 s17_162 s18_162 s19_162 s3_162 s5_162 s7_162 s8_162; intro e_163 s3_163 s5_163 s7_163 s8_163 s16_163 s17_163 s18_163 s254_163
         refine then_n <| aw_case s254_163 (fun hq_164 => ?_) (fun hq_164 => ?_)
         · replace hq_164 := bnt hq_164; exfalso; omega
         replace hq_164 := bnf hq_164
         refine aw_skip <| then_n <| aw_seq <| at_ <| ar (ro_assign ev_c) rfl <| ae8 (up_m rfl s3_163) (up_m rfl s5_163) (up_m rfl s7_163) (up_m rfl s8_163) (up_m rfl s16_163) (up_m rfl s17_163) (up_m rfl s18_163) up_h ?_; clear s16_163 s17_163 s18_163 s254_163 s3_163 s5_163 s7_163 s8_163; intro e_166 s3_166 s5_166 s7_166 s8_166 s16_166 s17_166 s18_166 s20_166
         refine then_n <| aw_block <| aw_loop (S := Int) (fun k e mem => (evA e (.tmp 20) = .v (.int .i64 k)) ∧ (evA e (.tmp 3) = evA e_166 (.tmp 3)) ∧ (evA e (.tmp 5) = evA e_166 (.tmp 5)) ∧ (evA e (.tmp 7) = evA e_166 (.tmp 7)) ∧ (evA e (.tmp 8) = evA e_166 (.tmp 8)) ∧ (evA e (.tmp 16) = evA e_166 (.tmp 16)) ∧ (evA e (.tmp 17) = evA e_166 (.tmp 17)) ∧ (evA e (.tmp 18) = evA e_166 (.tmp 18)) ∧ (mem[2]? = m_159[2]?) ∧ (mem[1]? = m_159[1]?) ∧ (mem[0]? = m_159[0]?) ∧ (∃ n, mem.length = n ∧ n_159 ≤ n) ∧ ((0 ≤ k ∧ k ≤ (rcW ps b d i ((fasW ps b v 0 0).1.getD i.toNat default)).length))) (fun k => ((rcW ps b d i ((fasW ps b v 0 0).1.getD i.toNat default)).length - k).toNat) _ ⟨s20_166, rfl, rfl, rfl, rfl, rfl, rfl, rfl, rfl, rfl, rfl, ⟨_, ml_159, Nat.le_refl _⟩, ?_⟩ ?_
         · (exact ⟨by omega, by omega⟩)
         · rintro k e_167 m_167 ⟨s20_167, k3_167, k5_167, k7_167, k8_167, k16_167, k17_167, k18_167, mk2_167, mk1_167, mk0_167, ⟨n_167, ml_167, hn_167⟩, hinv⟩
           have s3_167 := k3_167.trans s3_166
           have s5_167 := k5_167.trans s5_166
           have s7_167 := k7_167.trans s7_166
           have s8_167 := k8_167.trans s8_166
           have s16_167 := k16_167.trans s16_166
           have s17_167 := k17_167.trans s17_166
           have s18_167 := k18_167.trans s18_166
           have mo2_167 := mk2_167.trans mo2_159
           have mo1_167 := mk1_167.trans mo1_159
           have mo0_167 := mk0_167.trans mo0_159
           (obtain ⟨p3, p4⟩ := hinv)
           refine aw_seq <| aw_seq <| at_ <| ar (ro_move s20_167) rfl <| ar (ro_move (up_m rfl s18_167)) rfl <| ar (ro_eq (ro_len_row up_h rfl y72_sl49.1) (by simp only [lnS] <;> rfl)) rfl ?_
           refine ar (ro_lss (u2 rfl up_h) up_h) rfl <| ae9 (u4 rfl s3_167) (u4 rfl s5_167) (u4 rfl s7_167) (u4 rfl s8_167) (u4 rfl s16_167) (u4 rfl s17_167) (u4 rfl s18_167) (u4 rfl s20_167) up_h ?_; clear s16_167 s17_167 s18_167 s20_167 s3_167 s5_167 s7_167 s8_167; intro e_168 s3_168 s5_168 s7_168 s8_168 s16_168 s17_168 s18_168 s20_168 s258_168
           refine then_n <| aw_case s258_168 (fun hq_169 => ?_) (fun hq_169 => ?_)
           ·replace hq_169 := bt hq_169
            (have hrc := rcW_at (ps := ps) (b := b) (d := d) (post := i) (sq := ((fasW ps b v 0 0).1.getD i.toNat default)) (k := k.toNat) (by omega); have hru := trip_run (v := v) hRt hSr hfe p1 hxb hrc; obtain ⟨r1, r2, r3, r4, r5, r6, r7, r8⟩ := hru; obtain ⟨c1, c2, c3, c4, c5⟩ := hrc; have hw1 : withinB ((rcW ps b d i ((fasW ps b v 0 0).1.getD i.toNat default)).getD k.toNat default) i (ps.length - 1) = true := withinB_iff.2 (by omega); have hin1 : inL (runW ps b d ((rcW ps b d i ((fasW ps b v 0 0).1.getD i.toNat default)).getD k.toNat default) i ((fasW ps b v 0 0).1.getD i.toNat default)).1 i ls := inL_run (l := l) (lv := lv) (n := l.bs.length) (by omega) p1 r2 (by rw [← hps]; exact r5); have hix : (((runW ps b d ((rcW ps b d i ((fasW ps b v 0 0).1.getD i.toNat default)).getD k.toNat default) i ((fasW ps b v 0 0).1.getD i.toNat default)).1.length : Int) - 1).toNat = (((rcW ps b d i ((fasW ps b v 0 0).1.getD i.toNat default)).getD k.toNat default) - i).toNat := (by omega); rw [← hix] at r4 r6 r7 r8; have hw2 := withinB_iff.2 r4; have hga := (hRt.1.at ((rcW ps b d i ((fasW ps b v 0 0).1.getD i.toNat default)).getD k.toNat default).toNat).2.1; have hp1 : pl.getD ((rcW ps b d i ((fasW ps b v 0 0).1.getD i.toNat default)).getD k.toNat default).toNat default = sumL ps ((rcW ps b d i ((fasW ps b v 0 0).1.getD i.toNat default)).getD k.toNat default).toNat := (by rw [← hpw, plW_at ps (by omega)]); have hp2 : pl.getD (((rcW ps b d i ((fasW ps b v 0 0).1.getD i.toNat default)).getD k.toNat default) + 1).toNat default = sumL ps (((rcW ps b d i ((fasW ps b v 0 0).1.getD i.toNat default)).getD k.toNat default).toNat + 1) := (by rw [← hpw, plW_at ps (by omega)]; congr 1; omega))
            refine aw_skip <| then_n <| aw_seq <| aw_block <| aw_seq <| aw_seq <| aw_draw 23 (by kernel_rfl) (by kernel_rfl) (by kernel_rfl) (by kernel_rfl) ?_
            refine dr (ro_move s18_168) rfl <| dr (ro_move (up_m rfl s20_168)) rfl <| dr (ro_eq (ro_ix y72_sl49 (up_m rfl up_h) up_h (by omega) (by first | (refine idx_map ?_; first | omega | (simp only [lnS]; omega)) | (refine idx_mapI ?_; first | omega | (simp only [lnS]; omega)) | (refine idx_mapN ?_; first | omega | (simp only [lnS]; omega)) | rfl)) (by simp only [pS, Value.cells, Nat.reduceAdd, one_pE, one_iE, app_m, boE] <;> rfl)) rfl ?_
            refine dr (ro_eq (ro_ld_ref y72_ty3 rfl up_h (nle rfl)) (by simp only [pS, Value.cells, Nat.reduceAdd, one_pE, one_iE, app_m, boE] <;> rfl)) rfl ?_
            refine dr (ro_move (u4 rfl s17_168)) rfl <| dr (ro_fld_ptr qfl100_1 rfl (up_m rfl (u4 rfl s7_168))) rfl <| dr (ro_eq (ro_ld_ptr y72_ty98 rfl mo2_167 up_h (nle rfl)) (by simp only [pS, Value.cells, Nat.reduceAdd, one_pE, one_iE, app_m, boE] <;> rfl)) rfl ?_
            refine dr (ro_eq (ro_len_row up_h rfl y72_sl98.1) (by simp only [lnS] <;> rfl)) rfl ?_
            (refine dr (ro_sub' up_h ev_c ?_) rfl ?_; · (unfold In64; omega))
            refine dr (ro_call (evL_cons (up_m rfl (u4 rfl up_h)) (evL_cons (u4 rfl up_h) (evL_cons up_h evL_nil))) rfl ((bWithin_ok _ _ _).mono (fun q h => show q = bA true from h.trans (by rw [hw1]))) qhcf30) rfl ?_
            refine dr (ro_not up_h) rfl <| dr (ro_move up_h) rfl <| ds_case up_h (fun hb_170 hq_170 => ?_) (fun hb_170 hq_170 => ?_)
            · replace hq_170 := bt' hq_170; cases hq_170
            replace hq_170 := bf' hq_170
            refine ds_ro' (ro_fld_ptr qfl100_1 rfl (u4 rfl (u8 rfl s7_168))) ⟨_, rfl, hb_170⟩ rfl ?_
            refine ds_ro' (ro_eq (ro_ld_ptr y72_ty98 rfl mo2_167 up_h (nle rfl)) (by simp only [pS, Value.cells, Nat.reduceAdd, one_pE, one_iE, app_m, boE] <;> rfl)) ⟨_, rfl, (up_m rfl hb_170)⟩ rfl ?_
            refine ds_ro' (ro_move (u2 rfl (u4 rfl (u8 rfl s18_168)))) ⟨_, rfl, (u2 rfl hb_170)⟩ rfl ?_
            refine ds_ro' (ro_move (up_m rfl (u2 rfl (u4 rfl (u8 rfl s20_168))))) ⟨_, rfl, (up_m rfl (u2 rfl hb_170))⟩ rfl ?_
            refine ds_ro' (ro_eq (ro_ix y72_sl49 (up_m rfl up_h) up_h (by omega) (by first | (refine idx_map ?_; first | omega | (simp only [lnS]; omega)) | (refine idx_mapI ?_; first | omega | (simp only [lnS]; omega)) | (refine idx_mapN ?_; first | omega | (simp only [lnS]; omega)) | rfl)) (by simp only [pS, Value.cells, Nat.reduceAdd, one_pE, one_iE, app_m, boE] <;> rfl)) ⟨_, rfl, (u4 rfl hb_170)⟩ rfl ?_
            refine ds_ro' (ro_eq (ro_ld_ref y72_ty3 rfl up_h (nle rfl)) (by simp only [pS, Value.cells, Nat.reduceAdd, one_pE, one_iE, app_m, boE] <;> rfl)) ⟨_, rfl, (up_m rfl (u4 rfl hb_170))⟩ rfl ?_
            refine ds_ro' (ro_eq (ro_ix y72_sl98 (u4 rfl up_h) up_h (by omega) (by first | (refine idx_map ?_; first | omega | (simp only [lnS]; omega)) | (refine idx_mapI ?_; first | omega | (simp only [lnS]; omega)) | (refine idx_mapN ?_; first | omega | (simp only [lnS]; omega)) | rfl)) (by rfl)) ⟨_, rfl, (u2 rfl (u4 rfl hb_170))⟩ rfl ?_
            refine ds_ro' (ro_eq (ro_fld_ref qfl104_3 rfl up_h) (by rfl)) ⟨_, rfl, (up_m rfl (u2 rfl (u4 rfl hb_170)))⟩ rfl ?_
            refine ds_ro' (ro_eq (ro_ld_ref y72_ty4 rfl up_h (nle rfl)) (by simp only [pS, Value.cells, Nat.reduceAdd, one_pE, one_iE, app_m, boE] <;> rfl)) ⟨_, rfl, (u8 rfl hb_170)⟩ rfl ?_
            refine ds_ro' (ro_not up_h) ⟨_, rfl, (up_m rfl (u8 rfl hb_170))⟩ rfl ?_
            refine dr (ro_pickF (u2 rfl (u8 rfl hb_170)) up_h) rfl <| ds_nil <| ae9 (up_m rfl (u2 rfl (u4 rfl (u16 rfl s3_168)))) (up_m rfl (u2 rfl (u4 rfl (u16 rfl s5_168)))) (up_m rfl (u2 rfl (u4 rfl (u16 rfl s7_168)))) (up_m rfl (u2 rfl (u4 rfl (u16 rfl s8_168)))) (up_m rfl (u2 rfl (u4 rfl (u16 rfl s16_168)))) (up_m rfl (u2 rfl (u4 rfl (u16 rfl s17_168)))) (up_m rfl (u2 rfl (u4 rfl (u16 rfl s18_168)))) (up_m rfl (u2 rfl (u4 rfl (u16 rfl s20_168)))) up_h ?_; clear hb_170 s16_168 s17_168 s18_168 s20_168 s258_168 s3_168 s5_168 s7_168 s8_168; intro e_174 s3_174 s5_174 s7_174 s8_174 s16_174 s17_174 s18_174 s20_174 s283_174
            refine then_n <| aw_case s283_174 (fun hq_175 => ?_) (fun hq_175 => ?_)
            ·replace hq_175 := bt' hq_175
             refine aw_seq <| at_ <| ar (ro_assign ev_c) rfl <| ae1 up_h ?_; clear s16_174 s17_174 s18_174 s20_174 s283_174 s3_174 s5_174 s7_174 s8_174; intro e_176 s4_176
             refine then_n <| aw_ret <| then_r <| block_r <| then_r <| then_r <| block_r <| block_r <| then_r <| then_r <| block_r <| then_r <| ret1 (.inr rfl) (by kernel_rfl) (resV_tmp s4_176) (.ro _ rfl) ?_
             clear s4_176 mo2_167 mo1_167 mo0_167 ml_167
             (first | rfl | (exfalso; omega) | (exfalso; rw [c4] at hq_175; exact absurd hq_175 (by decide)) | (exfalso; simp_all; done) | (refine avb ?_; simp only [decide_eq_true_eq, Bool.false_eq_true, true_iff, false_iff, iff_true]; omega))
            replace hq_175 := bf' hq_175
            refine aw_skip <| then_n <| aw_seq <| aw_draw 20 (by kernel_rfl) (by kernel_rfl) (by kernel_rfl) (by kernel_rfl) ?_
            refine dr (ro_eq (ro_ld_ptr y72_ty100 rfl mo2_167 s7_174 (nle rfl)) (by simp only [pS, Value.cells, Nat.reduceAdd, one_pE, one_iE, app_m, boE] <;> rfl)) rfl ?_
            refine dr (ro_call (evL_cons up_h evL_nil) rfl (rCopy_ok wayN ps (by omega)) y72_hcf60) rfl ?_
            refine dr (ro_fld_ptr y72_fl96_0 rfl (u2 rfl s3_174)) rfl <| dr (ro_eq (ro_ld_ptr y72_ty93 rfl mo1_167 up_h (nle rfl)) (by simp only [pS, Value.cells, Nat.reduceAdd, one_pE, one_iE, app_m, boE] <;> rfl)) rfl ?_
            refine dr (ro_move (u4 rfl s17_174)) rfl <| dr (ro_move (up_m rfl (u4 rfl s16_174))) rfl <| dr (ro_move (u2 rfl (u4 rfl s17_174))) rfl <| dr (ro_eq (ro_ix y72_sl49 (up_m rfl up_h) up_h (by omega) (by first | (refine idx_map ?_; first | omega | (simp only [lnS]; omega)) | (refine idx_mapI ?_; first | omega | (simp only [lnS]; omega)) | (refine idx_mapN ?_; first | omega | (simp only [lnS]; omega)) | rfl)) (by simp only [pS, Value.cells, Nat.reduceAdd, one_pE, one_iE, app_m, boE] <;> rfl)) rfl ?_
            refine dr (ro_eq (ro_ld_ref y72_ty3 rfl up_h (nle rfl)) (by simp only [pS, Value.cells, Nat.reduceAdd, one_pE, one_iE, app_m, boE] <;> rfl)) rfl ?_
            refine dr (ro_build (evP_cons (u4 rfl up_h) (evP_cons up_h evP_nil)) qbz113 qbu113 qbp113 rfl) rfl ?_
            refine dr (ro_move (u2 rfl (u8 rfl s18_174))) rfl <| dr (ro_move (up_m rfl (u2 rfl (u8 rfl s20_174)))) rfl <| dr (ro_eq (ro_ix y72_sl49 (up_m rfl up_h) up_h (by omega) (by first | (refine idx_map ?_; first | omega | (simp only [lnS]; omega)) | (refine idx_mapI ?_; first | omega | (simp only [lnS]; omega)) | (refine idx_mapN ?_; first | omega | (simp only [lnS]; omega)) | rfl)) (by simp only [pS, Value.cells, Nat.reduceAdd, one_pE, one_iE, app_m, boE] <;> rfl)) rfl ?_
            refine dr (ro_eq (ro_ld_ref y72_ty3 rfl up_h (nle rfl)) (by simp only [pS, Value.cells, Nat.reduceAdd, one_pE, one_iE, app_m, boE] <;> rfl)) rfl ?_
            refine dr (ro_call (evL_cons (u4 rfl (u8 rfl up_h)) (evL_cons (u2 rfl (u8 rfl up_h)) (evL_cons (u4 rfl up_h) (evL_cons up_h evL_nil)))) rfl (runTo3_ok (by decide) (by omega) r1) qhcf65) rfl ?_
            refine dr (ro_move up_h) rfl <| dr (ro_extract up_h rfl) rfl <| dr (ro_extract (up_m rfl up_h) rfl) rfl <| dr (ro_assign (up_m rfl up_h)) rfl <| dr (ro_assign (up_m rfl up_h)) rfl <| ds_nil <| ae10 (u4 rfl (u16 rfl s3_174)) (u4 rfl (u16 rfl s5_174)) (u4 rfl (u16 rfl s7_174)) (u4 rfl (u16 rfl s8_174)) (u4 rfl (u16 rfl s16_174)) (u4 rfl (u16 rfl s17_174)) (u4 rfl (u16 rfl s18_174)) (u4 rfl (u16 rfl s20_174)) (up_m rfl up_h) up_h ?_; clear s16_174 s17_174 s18_174 s20_174 s283_174 s3_174 s5_174 s7_174 s8_174; intro e_177 s3_177 s5_177 s7_177 s8_177 s16_177 s17_177 s18_177 s20_177 s21_177 s22_177
            refine then_n <| aw_seq <| aw_seq <| aw_draw 31 (by kernel_rfl) (by kernel_rfl) (by kernel_rfl) (by kernel_rfl) ?_
            refine dr (ro_move s22_177) rfl <| dr (ro_neq up_h ev_c) rfl <| dr (ro_move up_h) rfl <| ds_case up_h (fun hb_178 hq_178 => ?_) (fun hb_178 hq_178 => ?_)
            · replace hq_178 := bnt hq_178; exfalso; omega
            replace hq_178 := bnf hq_178
            refine ds_ro' (ro_move (up_m rfl (u2 rfl s21_177))) ⟨_, rfl, hb_178⟩ rfl ?_
            refine ds_ro' (ro_eq (ro_len_row up_h rfl y72_sl49.1) (by simp only [lnS] <;> rfl)) ⟨_, rfl, (up_m rfl hb_178)⟩ rfl ?_
            refine ds_ro' (ro_move (up_m rfl (u4 rfl s18_177))) ⟨_, rfl, (u2 rfl hb_178)⟩ rfl ?_
            refine ds_ro' (ro_move (u2 rfl (u4 rfl s20_177))) ⟨_, rfl, (up_m rfl (u2 rfl hb_178))⟩ rfl ?_
            refine ds_ro' (ro_eq (ro_ix y72_sl49 (up_m rfl up_h) up_h (by omega) (by first | (refine idx_map ?_; first | omega | (simp only [lnS]; omega)) | (refine idx_mapI ?_; first | omega | (simp only [lnS]; omega)) | (refine idx_mapN ?_; first | omega | (simp only [lnS]; omega)) | rfl)) (by simp only [pS, Value.cells, Nat.reduceAdd, one_pE, one_iE, app_m, boE] <;> rfl)) ⟨_, rfl, (u4 rfl hb_178)⟩ rfl ?_
            refine ds_ro' (ro_eq (ro_ld_ref y72_ty3 rfl up_h (nle rfl)) (by simp only [pS, Value.cells, Nat.reduceAdd, one_pE, one_iE, app_m, boE] <;> rfl)) ⟨_, rfl, (up_m rfl (u4 rfl hb_178))⟩ rfl ?_
            refine ds_ro' (ro_move (up_m rfl (u8 rfl s17_177))) ⟨_, rfl, (u2 rfl (u4 rfl hb_178))⟩ rfl ?_
            (refine ds_ro' (ro_sub' (up_m rfl up_h) up_h ?_) ⟨_, rfl, (up_m rfl (u2 rfl (u4 rfl hb_178)))⟩ rfl ?_; · (unfold In64; omega))
            (refine ds_ro' (ro_add' up_h ev_c ?_) ⟨_, rfl, (u8 rfl hb_178)⟩ rfl ?_; · (unfold In64; omega))
            refine ds_ro' (ro_neq (up_m rfl (u2 rfl (u4 rfl up_h))) up_h) ⟨_, rfl, (up_m rfl (u8 rfl hb_178))⟩ rfl ?_
            refine dr (ro_pickF (u2 rfl (u8 rfl hb_178)) up_h) rfl <| dr (ro_move up_h) rfl <| ds_case up_h (fun hb_182 hq_182 => ?_) (fun hb_182 hq_182 => ?_)
            · replace hq_182 := bnt hq_182; exfalso; omega
            replace hq_182 := bnf hq_182
            refine ds_ro' (ro_move (up_m rfl (u2 rfl (u4 rfl (u8 rfl s21_177))))) ⟨_, rfl, hb_182⟩ rfl ?_
            refine ds_ro' (ro_eq (ro_ix y72_sl49 up_h ev_c (by decide) (by refine idx_map ?_; first | omega | (simp only [lnS]; omega))) (by simp only [pS, Value.cells, Nat.reduceAdd, one_pE, one_iE, app_m, boE] <;> rfl)) ⟨_, rfl, (up_m rfl hb_182)⟩ rfl ?_
            refine ds_ro' (ro_eq (ro_ld_ref y72_ty3 rfl up_h (nle rfl)) (by simp only [pS, Value.cells, Nat.reduceAdd, one_pE, one_iE, app_m, boE] <;> rfl)) ⟨_, rfl, (u2 rfl hb_182)⟩ rfl ?_
            refine ds_ro' (ro_move (u2 rfl (u16 rfl s16_177))) ⟨_, rfl, (up_m rfl (u2 rfl hb_182))⟩ rfl ?_
            refine ds_ro' (ro_move (up_m rfl (u2 rfl (u16 rfl s17_177)))) ⟨_, rfl, (u4 rfl hb_182)⟩ rfl ?_
            refine ds_ro' (ro_eq (ro_ix y72_sl49 (up_m rfl up_h) up_h (by omega) (by first | (refine idx_map ?_; first | omega | (simp only [lnS]; omega)) | (refine idx_mapI ?_; first | omega | (simp only [lnS]; omega)) | (refine idx_mapN ?_; first | omega | (simp only [lnS]; omega)) | rfl)) (by simp only [pS, Value.cells, Nat.reduceAdd, one_pE, one_iE, app_m, boE] <;> rfl)) ⟨_, rfl, (up_m rfl (u4 rfl hb_182))⟩ rfl ?_
            refine ds_ro' (ro_eq (ro_ld_ref y72_ty3 rfl up_h (nle rfl)) (by simp only [pS, Value.cells, Nat.reduceAdd, one_pE, one_iE, app_m, boE] <;> rfl)) ⟨_, rfl, (u2 rfl (u4 rfl hb_182))⟩ rfl ?_
            refine ds_ro' (ro_neq (u4 rfl up_h) up_h) ⟨_, rfl, (up_m rfl (u2 rfl (u4 rfl hb_182)))⟩ rfl ?_
            refine dr (ro_pickF (u8 rfl hb_182) up_h) rfl <| dr (ro_move up_h) rfl <| ds_case up_h (fun hb_186 hq_186 => ?_) (fun hb_186 hq_186 => ?_)
            · replace hq_186 := bnt hq_186; exfalso; omega
            replace hq_186 := bnf hq_186
            refine ds_ro' (ro_move (up_m rfl (u8 rfl (u16 rfl s21_177)))) ⟨_, rfl, hb_186⟩ rfl ?_
            refine ds_ro' (ro_move (u2 rfl (u8 rfl (u16 rfl s17_177)))) ⟨_, rfl, (up_m rfl hb_186)⟩ rfl ?_
            refine ds_ro' (ro_move (up_m rfl (u2 rfl (u8 rfl (u16 rfl s5_177))))) ⟨_, rfl, (u2 rfl hb_186)⟩ rfl ?_
            refine ds_ro' (ro_call (evL_cons (u2 rfl up_h) (evL_cons (up_m rfl up_h) (evL_cons up_h evL_nil))) rfl (brakeWithin_ok (runW ps b d ((rcW ps b d i ((fasW ps b v 0 0).1.getD i.toNat default)).getD k.toNat default) i ((fasW ps b v 0 0).1.getD i.toNat default)).1 i ls (by omega) (by omega) (by omega) hin1) y72_hcf63) ⟨_, rfl, (up_m rfl (u2 rfl hb_186))⟩ rfl ?_
            refine ds_ro' (ro_not up_h) ⟨_, rfl, (u4 rfl hb_186)⟩ rfl ?_
            refine dr (ro_pickF (up_m rfl (u4 rfl hb_186)) up_h) rfl <| ds_nil <| ae10 (up_m rfl (u2 rfl (u4 rfl (u8 rfl (u16 rfl s3_177))))) (up_m rfl (u2 rfl (u4 rfl (u8 rfl (u16 rfl s5_177))))) (up_m rfl (u2 rfl (u4 rfl (u8 rfl (u16 rfl s7_177))))) (up_m rfl (u2 rfl (u4 rfl (u8 rfl (u16 rfl s8_177))))) (up_m rfl (u2 rfl (u4 rfl (u8 rfl (u16 rfl s16_177))))) (up_m rfl (u2 rfl (u4 rfl (u8 rfl (u16 rfl s17_177))))) (up_m rfl (u2 rfl (u4 rfl (u8 rfl (u16 rfl s18_177))))) (up_m rfl (u2 rfl (u4 rfl (u8 rfl (u16 rfl s20_177))))) (up_m rfl (u2 rfl (u4 rfl (u8 rfl (u16 rfl s21_177))))) up_h ?_; clear hb_178 hb_182 hb_186 s16_177 s17_177 s18_177 s20_177 s21_177 s22_177 s3_177 s5_177 s7_177 s8_177; intro e_190 s3_190 s5_190 s7_190 s8_190 s16_190 s17_190 s18_190 s20_190 s21_190 s332_190
            refine then_n <| aw_case s332_190 (fun hq_191 => ?_) (fun hq_191 => ?_)
            · replace hq_191 := bt' hq_191; cases hq_191
            replace hq_191 := bf' hq_191
            refine aw_skip <| then_n <| aw_seq <| at_ <| ar (ro_move s21_190) rfl <| ar (ro_move (up_m rfl s21_190)) rfl <| ar (ro_eq (ro_len_row up_h rfl y72_sl49.1) (by simp only [lnS] <;> rfl)) rfl ?_
            (refine ar (ro_sub' up_h ev_c ?_) rfl ?_; · (unfold In64; omega))
            refine ar (ro_eq (ro_ix y72_sl49 (up_m rfl (u2 rfl up_h)) up_h (by omega) (by first | (refine idx_map ?_; first | omega | (simp only [lnS]; omega)) | (refine idx_mapI ?_; first | omega | (simp only [lnS]; omega)) | (refine idx_mapN ?_; first | omega | (simp only [lnS]; omega)) | rfl)) (by simp only [pS, Value.cells, Nat.reduceAdd, one_pE, one_iE, app_m, boE] <;> rfl)) rfl ?_
            refine ar (ro_eq (ro_ld_ref y72_ty3 rfl up_h (nle rfl)) (by simp only [pS, Value.cells, Nat.reduceAdd, one_pE, one_iE, app_m, boE] <;> rfl)) rfl ?_
            refine ar (ro_assign up_h) rfl <| ae9 (up_m rfl (u2 rfl (u4 rfl s3_190))) (up_m rfl (u2 rfl (u4 rfl s5_190))) (up_m rfl (u2 rfl (u4 rfl s7_190))) (up_m rfl (u2 rfl (u4 rfl s8_190))) (up_m rfl (u2 rfl (u4 rfl s16_190))) (up_m rfl (u2 rfl (u4 rfl s17_190))) (up_m rfl (u2 rfl (u4 rfl s18_190))) (up_m rfl (u2 rfl (u4 rfl s20_190))) up_h ?_; clear s16_190 s17_190 s18_190 s20_190 s21_190 s332_190 s3_190 s5_190 s7_190 s8_190; intro e_193 s3_193 s5_193 s7_193 s8_193 s16_193 s17_193 s18_193 s20_193 s23_193
            refine then_n <| aw_seq <| aw_seq <| at_ <| ar (ro_move s23_193) rfl <| ar (ro_call (evL_cons up_h (evL_cons ev_c (evL_cons ev_c evL_nil))) rfl ((bWithin_ok _ _ _).mono (fun q h => show q = bA true from h.trans (by rw [hw2]))) qhcf30) rfl ?_
            refine ar (ro_not up_h) rfl <| ae10 (up_m rfl (u2 rfl s3_193)) (up_m rfl (u2 rfl s5_193)) (up_m rfl (u2 rfl s7_193)) (up_m rfl (u2 rfl s8_193)) (up_m rfl (u2 rfl s16_193)) (up_m rfl (u2 rfl s17_193)) (up_m rfl (u2 rfl s18_193)) (up_m rfl (u2 rfl s20_193)) (up_m rfl (u2 rfl s23_193)) up_h ?_; clear s16_193 s17_193 s18_193 s20_193 s23_193 s3_193 s5_193 s7_193 s8_193; intro e_194 s3_194 s5_194 s7_194 s8_194 s16_194 s17_194 s18_194 s20_194 s23_194 s341_194
            refine then_n <| aw_case s341_194 (fun hq_195 => ?_) (fun hq_195 => ?_)
            · replace hq_195 := bt' hq_195; cases hq_195
            replace hq_195 := bf' hq_195
            refine aw_skip <| then_n <| aw_seq <| aw_seq <| aw_draw 15 (by kernel_rfl) (by kernel_rfl) (by kernel_rfl) (by kernel_rfl) ?_
            refine dr (ro_fld_ptr y72_fl96_0 rfl s3_194) rfl <| dr (ro_fld_ptr qfl93_0 rfl up_h) rfl <| dr (ro_eq (ro_ld_ptr y72_ty3 rfl mo1_167 up_h (nle rfl)) (by simp only [pS, Value.cells, Nat.reduceAdd, one_pE, one_iE, app_m, boE] <;> rfl)) rfl ?_
            refine dr (ro_fld_ptr qfl100_1 rfl (up_m rfl (u2 rfl s7_194))) rfl <| dr (ro_eq (ro_ld_ptr y72_ty98 rfl mo2_167 up_h (nle rfl)) (by simp only [pS, Value.cells, Nat.reduceAdd, one_pE, one_iE, app_m, boE] <;> rfl)) rfl ?_
            refine dr (ro_move (up_m rfl (u4 rfl s18_194))) rfl <| dr (ro_move (u2 rfl (u4 rfl s20_194))) rfl <| dr (ro_eq (ro_ix y72_sl49 (up_m rfl up_h) up_h (by omega) (by first | (refine idx_map ?_; first | omega | (simp only [lnS]; omega)) | (refine idx_mapI ?_; first | omega | (simp only [lnS]; omega)) | (refine idx_mapN ?_; first | omega | (simp only [lnS]; omega)) | rfl)) (by simp only [pS, Value.cells, Nat.reduceAdd, one_pE, one_iE, app_m, boE] <;> rfl)) rfl ?_
            refine dr (ro_eq (ro_ld_ref y72_ty3 rfl up_h (nle rfl)) (by simp only [pS, Value.cells, Nat.reduceAdd, one_pE, one_iE, app_m, boE] <;> rfl)) rfl ?_
            refine dr (ro_eq (ro_ix y72_sl98 (u4 rfl up_h) up_h (by omega) (by first | (refine idx_map ?_; first | omega | (simp only [lnS]; omega)) | (refine idx_mapI ?_; first | omega | (simp only [lnS]; omega)) | (refine idx_mapN ?_; first | omega | (simp only [lnS]; omega)) | rfl)) (by rfl)) rfl ?_
            refine dr (ro_eq (ro_fld_ref qfl104_1 rfl up_h) (by rfl)) rfl ?_
            refine dr (ro_eq (ro_ld_ref y72_ty3 rfl up_h (nle rfl)) (by simp only [pS, Value.cells, Nat.reduceAdd, one_pE, one_iE, app_m, boE] <;> rfl)) rfl ?_
            (refine dr (ro_mul' ev_c up_h ?_) rfl ?_; · (unfold In64; omega))
            (refine dr (ro_add' (u2 rfl (u8 rfl up_h)) up_h ?_) rfl ?_; · (unfold In64; omega))
            refine dr (ro_leq up_h ev_c) rfl <| ds_nil <| ae10 (up_m rfl (u2 rfl (u4 rfl (u8 rfl s3_194)))) (up_m rfl (u2 rfl (u4 rfl (u8 rfl s5_194)))) (up_m rfl (u2 rfl (u4 rfl (u8 rfl s7_194)))) (up_m rfl (u2 rfl (u4 rfl (u8 rfl s8_194)))) (up_m rfl (u2 rfl (u4 rfl (u8 rfl s16_194)))) (up_m rfl (u2 rfl (u4 rfl (u8 rfl s17_194)))) (up_m rfl (u2 rfl (u4 rfl (u8 rfl s18_194)))) (up_m rfl (u2 rfl (u4 rfl (u8 rfl s20_194)))) (up_m rfl (u2 rfl (u4 rfl (u8 rfl s23_194)))) up_h ?_; clear s16_194 s17_194 s18_194 s20_194 s23_194 s341_194 s3_194 s5_194 s7_194 s8_194; intro e_197 s3_197 s5_197 s7_197 s8_197 s16_197 s17_197 s18_197 s20_197 s23_197 s356_197
            refine then_n <| aw_case s356_197 (fun hq_198 => ?_) (fun hq_198 => ?_)
            ·replace hq_198 := bt hq_198
             refine aw_seq <| aw_seq <| at_ <| ar (ro_move s23_197) rfl <| ar (ro_neq up_h ev_c) rfl <| ae9 (u2 rfl s3_197) (u2 rfl s5_197) (u2 rfl s7_197) (u2 rfl s8_197) (u2 rfl s16_197) (u2 rfl s17_197) (u2 rfl s18_197) (u2 rfl s20_197) up_h ?_; clear s16_197 s17_197 s18_197 s20_197 s23_197 s356_197 s3_197 s5_197 s7_197 s8_197; intro e_199 s3_199 s5_199 s7_199 s8_199 s16_199 s17_199 s18_199 s20_199 s358_199
             refine then_n <| aw_case s358_199 (fun hq_200 => ?_) (fun hq_200 => ?_)
             · replace hq_200 := bnt hq_200; exfalso; omega
             replace hq_200 := bnf hq_200
             refine aw_skip <| then_n <| aw_exit <| then_x <| block_hit <| then_n <| at_ <| ar (ro_move s20_199) rfl ?_
             (refine ar (ro_add' up_h ev_c ?_) rfl ?_; · (unfold In64; omega))
             refine ar (ro_assign up_h) rfl <| ae8 (up_m rfl (u2 rfl s3_199)) (up_m rfl (u2 rfl s5_199)) (up_m rfl (u2 rfl s7_199)) (up_m rfl (u2 rfl s8_199)) (up_m rfl (u2 rfl s16_199)) (up_m rfl (u2 rfl s17_199)) (up_m rfl (u2 rfl s18_199)) up_h ?_; clear s16_199 s17_199 s18_199 s20_199 s358_199 s3_199 s5_199 s7_199 s8_199; intro e_202 s3_202 s5_202 s7_202 s8_202 s16_202 s17_202 s18_202 s20_202
             refine then_n <| ⟨_, ⟨s20_202, (s3_202.trans s3_166.symm), (s5_202.trans s5_166.symm), (s7_202.trans s7_166.symm), (s8_202.trans s8_166.symm), (s16_202.trans s16_166.symm), (s17_202.trans s17_166.symm), (s18_202.trans s18_166.symm), (mo2_167.trans mo2_159.symm), (mo1_167.trans mo1_159.symm), (mo0_167.trans mo0_159.symm), ⟨_, ml_167, by omega⟩, ?_⟩, ?_⟩
             · (exact ⟨by omega, by omega⟩)
             · ((try dsimp only); omega)
            replace hq_198 := bf hq_198
            refine aw_skip <| then_n <| aw_seq <| aw_drawK 16 1 ml_167 (by kernel_rfl) (by kernel_rfl) (by kernel_rfl) (by kernel_rfl) (fun m_203 hm_203 => ?_)
            have mo2_203 := m_room_o hm_203 mo2_167
            have mo1_203 := m_room_o hm_203 mo1_167
            have mo0_203 := m_room_o hm_203 mo0_167
            have mon_167_203 : m_203[n_167]? = _ := m_room_g hm_203 ml_167 0 rfl rfl
            have ml_203 : _ = n_167 + 1 := m_room_l (K := 1) hm_203 ml_167
            clear hm_203 mo2_167 mo1_167 mo0_167 ml_167
            refine dh_ld (2) (fun M_ hM_ => (ro_eq (ro_ld_ptr y72_ty100 rfl (agr hM_ mo2_203 (by simp)) s7_197 (nle rfl)) (by simp only [pS, Value.cells, Nat.reduceAdd, one_pE, one_iE, app_m, boE] <;> rfl))) trivial trivial ?_
            refine dh_ro (fun M_ hM_ => (ro_call (evL_cons up_h evL_nil) rfl (rCopy_ok wayN ps (by omega)) y72_hcf60)) trivial ?_
            refine dh_ro (fun M_ hM_ => (ro_fld_ptr y72_fl96_0 rfl (u2 rfl s3_197))) trivial ?_
            refine dh_ld (1) (fun M_ hM_ => (ro_eq (ro_ld_ptr y72_ty93 rfl (agr hM_ mo1_203 (by simp)) up_h (nle rfl)) (by simp only [pS, Value.cells, Nat.reduceAdd, one_pE, one_iE, app_m, boE] <;> rfl))) trivial trivial ?_
            refine dh_ro (fun M_ hM_ => (ro_move (u4 rfl s18_197))) trivial ?_
            refine dh_ro (fun M_ hM_ => (ro_move (up_m rfl (u4 rfl s20_197)))) trivial ?_
            refine dh_ro (fun M_ hM_ => (ro_eq (ro_ix y72_sl49 (up_m rfl up_h) up_h (by omega) (by first | (refine idx_map ?_; first | omega | (simp only [lnS]; omega)) | (refine idx_mapI ?_; first | omega | (simp only [lnS]; omega)) | (refine idx_mapN ?_; first | omega | (simp only [lnS]; omega)) | rfl)) (by simp only [pS, Value.cells, Nat.reduceAdd, one_pE, one_iE, app_m, boE] <;> rfl))) trivial ?_
            refine dh_ro (fun M_ hM_ => (ro_eq (ro_ld_ref y72_ty3 rfl up_h (nle rfl)) (by simp only [pS, Value.cells, Nat.reduceAdd, one_pE, one_iE, app_m, boE] <;> rfl))) trivial ?_
            refine dh_ro (fun M_ hM_ => (ro_move (u8 rfl s23_197))) trivial ?_
            refine dh_ro (fun M_ hM_ => (ro_build (evP_cons (up_m rfl up_h) (evP_cons up_h evP_nil)) qbz113 qbu113 qbp113 rfl)) trivial ?_
            refine dh_ro (fun M_ hM_ => (ro_call (evL_cons (u8 rfl up_h) (evL_cons (u2 rfl (u4 rfl up_h)) (evL_cons up_h evL_nil))) rfl (standsAt3_ok (by decide) (by omega) r6) y72_hcf66)) trivial ?_
            refine dh_ro (fun M_ hM_ => (ro_move up_h)) trivial ?_
            refine dh_ro (fun M_ hM_ => (ro_extract up_h rfl)) trivial ?_
            refine dh_ro (fun M_ hM_ => (ro_extract (up_m rfl up_h) rfl)) trivial ?_
            refine dh_nw (n_167) (fun M_ hM_ => (nw_alloc qaz39 rfl)) trivial mon_167_203 rfl trivial ⟨.inl (by simp <;> omega), ⟨.inl (by simp <;> omega), trivial⟩⟩ (fun m_204 hm_204 => ?_)
            have mon_167_204 := m_set hm_204 mon_167_203
            simp only [pS, Value.cells, Nat.reduceAdd, one_pE, one_iE, app_m, boE] at mon_167_204
            have mo2_204 := m_set_o hm_204 mo2_203 (by omega)
            have mo1_204 := m_set_o hm_204 mo1_203 (by omega)
            have mo0_204 := m_set_o hm_204 mo0_203 (by omega)
            have ml_204 := m_set_l hm_204 ml_203
            clear hm_204 mo2_203 mo1_203 mo0_203 mon_167_203
            refine dh_set (n_167) (fun M_ hM_ => (se_store up_h (u2 rfl up_h) rfl rfl (agr hM_ mon_167_204 (by simp)) qsz39 rfl (nle rfl))) trivial ⟨.inr (wt_one 15 14 (by kernel_rfl)), trivial⟩ ⟨.inl (by simp <;> omega), ⟨.inl (by simp <;> omega), ⟨.inr (wt_one 15 14 (by kernel_rfl)), trivial⟩⟩⟩ (fun m_205 hm_205 => ?_)
            have mon_167_205 := m_set hm_205 mon_167_204
            simp only [pS, Value.cells, Nat.reduceAdd, one_pE, one_iE, app_m, boE] at mon_167_205
            have mo2_205 := m_set_o hm_205 mo2_204 (by omega)
            have mo1_205 := m_set_o hm_205 mo1_204 (by omega)
            have mo0_205 := m_set_o hm_205 mo0_204 (by omega)
            have ml_205 := m_set_l hm_205 ml_204
            clear hm_205 mon_167_204 mo2_204 mo1_204 mo0_204
            refine dh_nil rfl ?_
            refine ar (ro_assign (up_n (up_m rfl up_h))) rfl <| ae10 (up_m rfl (up_n (up_m rfl (u2 rfl (u4 rfl (u8 rfl s3_197)))))) (up_m rfl (up_n (up_m rfl (u2 rfl (u4 rfl (u8 rfl s5_197)))))) (up_m rfl (up_n (up_m rfl (u2 rfl (u4 rfl (u8 rfl s7_197)))))) (up_m rfl (up_n (up_m rfl (u2 rfl (u4 rfl (u8 rfl s8_197)))))) (up_m rfl (up_n (up_m rfl (u2 rfl (u4 rfl (u8 rfl s16_197)))))) (up_m rfl (up_n (up_m rfl (u2 rfl (u4 rfl (u8 rfl s17_197)))))) (up_m rfl (up_n (up_m rfl (u2 rfl (u4 rfl (u8 rfl s18_197)))))) (up_m rfl (up_n (up_m rfl (u2 rfl (u4 rfl (u8 rfl s20_197)))))) (up_m rfl (up_n up_h)) up_h ?_; clear s16_197 s17_197 s18_197 s20_197 s23_197 s356_197 s3_197 s5_197 s7_197 s8_197; intro e_206 s3_206 s5_206 s7_206 s8_206 s16_206 s17_206 s18_206 s20_206 s24_206 s25_206
            refine then_n <| aw_seq <| aw_draw 34 (by kernel_rfl) (by kernel_rfl) (by kernel_rfl) (by kernel_rfl) ?_
            refine dr (ro_move s25_206) rfl <| dr (ro_neq up_h ev_c) rfl <| dr (ro_move up_h) rfl <| ds_case up_h (fun hb_207 hq_207 => ?_) (fun hb_207 hq_207 => ?_)
            · replace hq_207 := bnt hq_207; exfalso; omega
            replace hq_207 := bnf hq_207
            refine ds_ro' (ro_fld_ptr qfl39_0 rfl (up_m rfl (u2 rfl s24_206))) ⟨_, rfl, hb_207⟩ rfl ?_
            refine ds_ro' (ro_eq (ro_ld_ptr y72_ty3 rfl mon_167_205 up_h (nle rfl)) (by simp only [pS, Value.cells, Nat.reduceAdd, one_pE, one_iE, app_m, boE] <;> rfl)) ⟨_, rfl, (up_m rfl hb_207)⟩ rfl ?_
            refine ds_ro' (ro_move (up_m rfl (u4 rfl s8_206))) ⟨_, rfl, (u2 rfl hb_207)⟩ rfl ?_
            refine ds_ro' (ro_move (u2 rfl (u4 rfl s18_206))) ⟨_, rfl, (up_m rfl (u2 rfl hb_207))⟩ rfl ?_
            refine ds_ro' (ro_move (up_m rfl (u2 rfl (u4 rfl s20_206)))) ⟨_, rfl, (u4 rfl hb_207)⟩ rfl ?_
            refine ds_ro' (ro_eq (ro_ix y72_sl49 (up_m rfl up_h) up_h (by omega) (by first | (refine idx_map ?_; first | omega | (simp only [lnS]; omega)) | (refine idx_mapI ?_; first | omega | (simp only [lnS]; omega)) | (refine idx_mapN ?_; first | omega | (simp only [lnS]; omega)) | rfl)) (by simp only [pS, Value.cells, Nat.reduceAdd, one_pE, one_iE, app_m, boE] <;> rfl)) ⟨_, rfl, (up_m rfl (u4 rfl hb_207))⟩ rfl ?_
            refine ds_ro' (ro_eq (ro_ld_ref y72_ty3 rfl up_h (nle rfl)) (by simp only [pS, Value.cells, Nat.reduceAdd, one_pE, one_iE, app_m, boE] <;> rfl)) ⟨_, rfl, (u2 rfl (u4 rfl hb_207))⟩ rfl ?_
            refine ds_ro' (ro_eq (ro_ix y72_sl49 (u4 rfl up_h) up_h (by omega) (by first | (refine idx_map ?_; first | omega | (simp only [lnS]; omega)) | (refine idx_mapI ?_; first | omega | (simp only [lnS]; omega)) | (refine idx_mapN ?_; first | omega | (simp only [lnS]; omega)) | rfl)) (by simp only [pS, Value.cells, Nat.reduceAdd, one_pE, one_iE, app_m, boE] <;> rfl)) ⟨_, rfl, (up_m rfl (u2 rfl (u4 rfl hb_207)))⟩ rfl ?_
            refine ds_ro' (ro_eq (ro_ld_ref y72_ty3 rfl up_h (nle rfl)) (by simp only [pS, Value.cells, Nat.reduceAdd, one_pE, one_iE, app_m, boE] <;> rfl)) ⟨_, rfl, (u8 rfl hb_207)⟩ rfl ?_
            refine ds_ro' (ro_lss (up_m rfl (u2 rfl (u4 rfl up_h))) up_h) ⟨_, rfl, (up_m rfl (u8 rfl hb_207))⟩ rfl ?_
            refine dr (ro_pickF (u2 rfl (u8 rfl hb_207)) up_h) rfl <| dr (ro_move up_h) rfl <| ds_case up_h (fun hb_211 hq_211 => ?_) (fun hb_211 hq_211 => ?_)
            · replace hq_211 := bt hq_211; exfalso; omega
            replace hq_211 := bf hq_211
            refine ds_ro' (ro_fld_ptr qfl39_1 rfl (up_m rfl (u2 rfl (u4 rfl (u8 rfl s24_206))))) ⟨_, rfl, hb_211⟩ rfl ?_
            refine ds_ro' (ro_eq (ro_ld_ptr y72_ty3 rfl mon_167_205 up_h (nle rfl)) (by simp only [pS, Value.cells, Nat.reduceAdd, one_pE, one_iE, app_m, boE] <;> rfl)) ⟨_, rfl, (up_m rfl hb_211)⟩ rfl ?_
            refine ds_ro' (ro_move (up_m rfl (u16 rfl s8_206))) ⟨_, rfl, (u2 rfl hb_211)⟩ rfl ?_
            refine ds_ro' (ro_move (u2 rfl (u16 rfl s18_206))) ⟨_, rfl, (up_m rfl (u2 rfl hb_211))⟩ rfl ?_
            refine ds_ro' (ro_move (up_m rfl (u2 rfl (u16 rfl s20_206)))) ⟨_, rfl, (u4 rfl hb_211)⟩ rfl ?_
            refine ds_ro' (ro_eq (ro_ix y72_sl49 (up_m rfl up_h) up_h (by omega) (by first | (refine idx_map ?_; first | omega | (simp only [lnS]; omega)) | (refine idx_mapI ?_; first | omega | (simp only [lnS]; omega)) | (refine idx_mapN ?_; first | omega | (simp only [lnS]; omega)) | rfl)) (by simp only [pS, Value.cells, Nat.reduceAdd, one_pE, one_iE, app_m, boE] <;> rfl)) ⟨_, rfl, (up_m rfl (u4 rfl hb_211))⟩ rfl ?_
            refine ds_ro' (ro_eq (ro_ld_ref y72_ty3 rfl up_h (nle rfl)) (by simp only [pS, Value.cells, Nat.reduceAdd, one_pE, one_iE, app_m, boE] <;> rfl)) ⟨_, rfl, (u2 rfl (u4 rfl hb_211))⟩ rfl ?_
            (refine ds_ro' (ro_add' up_h ev_c ?_) ⟨_, rfl, (up_m rfl (u2 rfl (u4 rfl hb_211)))⟩ rfl ?_; · (unfold In64; omega))
            refine ds_ro' (ro_eq (ro_ix y72_sl49 (up_m rfl (u4 rfl up_h)) up_h (by omega) (by first | (refine idx_map ?_; first | omega | (simp only [lnS]; omega)) | (refine idx_mapI ?_; first | omega | (simp only [lnS]; omega)) | (refine idx_mapN ?_; first | omega | (simp only [lnS]; omega)) | rfl)) (by simp only [pS, Value.cells, Nat.reduceAdd, one_pE, one_iE, app_m, boE] <;> rfl)) ⟨_, rfl, (u8 rfl hb_211)⟩ rfl ?_
            refine ds_ro' (ro_eq (ro_ld_ref y72_ty3 rfl up_h (nle rfl)) (by simp only [pS, Value.cells, Nat.reduceAdd, one_pE, one_iE, app_m, boE] <;> rfl)) ⟨_, rfl, (up_m rfl (u8 rfl hb_211))⟩ rfl ?_
            refine ds_ro' (ro_gtr (u8 rfl up_h) up_h) ⟨_, rfl, (u2 rfl (u8 rfl hb_211))⟩ rfl ?_
            refine dr (ro_pickF (up_m rfl (u2 rfl (u8 rfl hb_211))) up_h) rfl <| dr (ro_move up_h) rfl <| ds_case up_h (fun hb_215 hq_215 => ?_) (fun hb_215 hq_215 => ?_)
            · replace hq_215 := bt hq_215; exfalso; omega
            replace hq_215 := bf hq_215
            refine ds_ro' (ro_fld_ptr qfl39_0 rfl (u4 rfl (u8 rfl (u16 rfl s24_206)))) ⟨_, rfl, hb_215⟩ rfl ?_
            refine ds_ro' (ro_eq (ro_ld_ptr y72_ty3 rfl mon_167_205 up_h (nle rfl)) (by simp only [pS, Value.cells, Nat.reduceAdd, one_pE, one_iE, app_m, boE] <;> rfl)) ⟨_, rfl, (up_m rfl hb_215)⟩ rfl ?_
            refine ds_ro' (ro_fld_ptr qfl39_1 rfl (u2 rfl (u4 rfl (u8 rfl (u16 rfl s24_206))))) ⟨_, rfl, (u2 rfl hb_215)⟩ rfl ?_
            refine ds_ro' (ro_eq (ro_ld_ptr y72_ty3 rfl mon_167_205 up_h (nle rfl)) (by simp only [pS, Value.cells, Nat.reduceAdd, one_pE, one_iE, app_m, boE] <;> rfl)) ⟨_, rfl, (up_m rfl (u2 rfl hb_215))⟩ rfl ?_
            refine ds_ro' (ro_gtr (u2 rfl up_h) up_h) ⟨_, rfl, (u4 rfl hb_215)⟩ rfl ?_
            refine dr (ro_pickF (up_m rfl (u4 rfl hb_215)) up_h) rfl <| ds_nil <| ae9 (u2 rfl (u16 rfl (u16 rfl s3_206))) (u2 rfl (u16 rfl (u16 rfl s5_206))) (u2 rfl (u16 rfl (u16 rfl s7_206))) (u2 rfl (u16 rfl (u16 rfl s8_206))) (u2 rfl (u16 rfl (u16 rfl s16_206))) (u2 rfl (u16 rfl (u16 rfl s17_206))) (u2 rfl (u16 rfl (u16 rfl s18_206))) (u2 rfl (u16 rfl (u16 rfl s20_206))) up_h ?_; clear hb_207 hb_211 hb_215 s16_206 s17_206 s18_206 s20_206 s24_206 s25_206 s3_206 s5_206 s7_206 s8_206; intro e_219 s3_219 s5_219 s7_219 s8_219 s16_219 s17_219 s18_219 s20_219 s406_219
            refine then_n <| aw_case s406_219 (fun hq_220 => ?_) (fun hq_220 => ?_)
            · replace hq_220 := bt hq_220; exfalso; omega
            replace hq_220 := bf hq_220
            refine aw_skip <| block_n <| then_n <| at_ <| ar (ro_move s20_219) rfl ?_
            (refine ar (ro_add' up_h ev_c ?_) rfl ?_; · (unfold In64; omega))
            refine ar (ro_assign up_h) rfl <| ae8 (up_m rfl (u2 rfl s3_219)) (up_m rfl (u2 rfl s5_219)) (up_m rfl (u2 rfl s7_219)) (up_m rfl (u2 rfl s8_219)) (up_m rfl (u2 rfl s16_219)) (up_m rfl (u2 rfl s17_219)) (up_m rfl (u2 rfl s18_219)) up_h ?_; clear s16_219 s17_219 s18_219 s20_219 s3_219 s406_219 s5_219 s7_219 s8_219; intro e_222 s3_222 s5_222 s7_222 s8_222 s16_222 s17_222 s18_222 s20_222
            refine then_n <| ⟨_, ⟨s20_222, (s3_222.trans s3_166.symm), (s5_222.trans s5_166.symm), (s7_222.trans s7_166.symm), (s8_222.trans s8_166.symm), (s16_222.trans s16_166.symm), (s17_222.trans s17_166.symm), (s18_222.trans s18_166.symm), (mo2_205.trans mo2_159.symm), (mo1_205.trans mo1_159.symm), (mo0_205.trans mo0_159.symm), ⟨_, ml_205, by omega⟩, ?_⟩, ?_⟩
            · (exact ⟨by omega, by omega⟩)
            · ((try dsimp only); omega)
           replace hq_169 := bf hq_169
           refine aw_exit <| then_x <| then_x <| block_hit <| block_n <| then_n <| at_ <| ar (ro_move s17_168) rfl ?_
           (refine ar (ro_add' up_h ev_c ?_) rfl ?_; · (unfold In64; omega))
           refine ar (ro_assign up_h) rfl <| ae6 (up_m rfl (u2 rfl s3_168)) (up_m rfl (u2 rfl s5_168)) (up_m rfl (u2 rfl s7_168)) (up_m rfl (u2 rfl s8_168)) (up_m rfl (u2 rfl s16_168)) up_h ?_; clear s16_168 s17_168 s18_168 s20_168 s258_168 s3_168 s5_168 s7_168 s8_168; intro e_223 s3_223 s5_223 s7_223 s8_223 s16_223 s17_223
           refine then_n <| ⟨_, ⟨s17_223, (s3_223.trans s3_158.symm), (s5_223.trans s5_158.symm), (s7_223.trans s7_158.symm), (s8_223.trans s8_158.symm), (s16_223.trans s16_158.symm), (mo2_167.trans mo2_131.symm), (mo1_167.trans mo1_131.symm), (mo0_167.trans mo0_131.symm), ⟨_, ml_167, by omega⟩, ?_⟩, ?_⟩
           · (exact ⟨by omega, by omega⟩)
           · ((try dsimp only); omega)
        replace hq_161 := bf hq_161
        refine aw_exit <| then_x <| then_x <| block_hit <| then_n <| aw_seq <| at_ <| ar (ro_assign ev_c) rfl <| ae1 up_h ?_; clear s16_160 s17_160 s236_160 s3_160 s5_160 s7_160 s8_160; intro e_224 s4_224
        refine then_n <| aw_ret <| ret1 (.inr rfl) (by kernel_rfl) (resV_tmp s4_224) (.ro _ rfl) ?_
        clear s4_224 mo2_159 mo1_159 mo0_159 ml_159
        (first | rfl | (exfalso; omega) | (exfalso; rw [c4] at hq_175; exact absurd hq_175 (by decide)) | (exfalso; simp_all; done) | (refine avb ?_; simp only [decide_eq_true_eq, Bool.false_eq_true, true_iff, false_iff, iff_true]; omega))
end Go.Proofs.Ytonjcljnpcmenaa
