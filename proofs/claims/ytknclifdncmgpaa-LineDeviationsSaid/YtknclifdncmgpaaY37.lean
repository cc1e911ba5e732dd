/- The law of chapter 1 on deviations. No conditions on a program. -/
import Derived.Test.YtknclifdncmgpaaM8
namespace Go.Proofs.Ytknclifdncmgpaa
open Go Go.RowKit Go.Proofs
set_option linter.unusedSimpArgs false
set_option linter.unusedVariables false
theorem y37_az111 : (Try.prog.info? 111).bind (·.zero) = some (.pointer none) := by kernel_rfl
theorem y37_az30 : (Try.prog.info? 30).bind (·.zero) = some (.int .i64 0) := by kernel_rfl
theorem y37_az40 : (Try.prog.info? 40).bind (·.zero) = some (.agg #[.int .i64 0, .int .i64 0]) := by kernel_rfl
theorem y37_ar53 : ArIs Try.prog 53 2 1 := ⟨by kernel_rfl, by kernel_rfl⟩
theorem y37_bz40 : (Try.prog.info? 40).bind (·.zero) = some (.agg #[.int .i64 0, .int .i64 0]) := by kernel_rfl
theorem y37_bu40 : Try.prog.underlying 40 = some (.struct (fsOf Try.prog 40)) := by kernel_rfl
theorem y37_bp40 : ∀ w, ((fsOf Try.prog 40).mapM fun f => Prod.mk f.offset <$> sizeOf f.type : Sem (Array (Nat × Nat))).run Try.prog w = .ok (#[(0, 1), (1, 1)]) w := fun _ => by kernel_rfl
theorem y37_hcf13 : ∀ args w, (callFunc 13 args).run Try.prog w = .ok (.enter 13 args) w := fun _ _ => by kernel_rfl
theorem y37_hcf14 : ∀ args w, (callFunc 14 args).run Try.prog w = .ok (.enter 14 args) w := fun _ _ => by kernel_rfl
theorem y37_hcf15 : ∀ args w, (callFunc 15 args).run Try.prog w = .ok (.enter 15 args) w := fun _ _ => by kernel_rfl
theorem y37_hcf17 : ∀ args w, (callFunc 17 args).run Try.prog w = .ok (.enter 17 args) w := fun _ _ => by kernel_rfl
theorem y37_hcf26 : ∀ args w, (callFunc 26 args).run Try.prog w = .ok (.enter 26 args) w := fun _ _ => by kernel_rfl
theorem y37_hcf27 : ∀ args w, (callFunc 27 args).run Try.prog w = .ok (.enter 27 args) w := fun _ _ => by kernel_rfl
theorem y37_hcf28 : ∀ args w, (callFunc 28 args).run Try.prog w = .ok (.enter 28 args) w := fun _ _ => by kernel_rfl
theorem y37_hcf29 : ∀ args w, (callFunc 29 args).run Try.prog w = .ok (.enter 29 args) w := fun _ _ => by kernel_rfl
theorem y37_hcf30 : ∀ args w, (callFunc 30 args).run Try.prog w = .ok (.enter 30 args) w := fun _ _ => by kernel_rfl
theorem y37_hcf31 : ∀ args w, (callFunc 31 args).run Try.prog w = .ok (.enter 31 args) w := fun _ _ => by kernel_rfl
theorem y37_hcf32 : ∀ args w, (callFunc 32 args).run Try.prog w = .ok (.enter 32 args) w := fun _ _ => by kernel_rfl
theorem y37_hcf78 : ∀ args w, (callFunc 78 args).run Try.prog w = .ok (.enter 78 args) w := fun _ _ => by kernel_rfl
theorem y37_gq40 : Try.prog.eqGuardType Try.prog.depth 40 = false := by kernel_rfl
theorem y37_sq40 {a0 b0 : Int} {a1 b1 : Int} : EqV Try.prog 2 40 (.agg #[.int .i64 a0, .int .i64 a1]) (.agg #[.int .i64 b0, .int .i64 b1]) (decide (a0 = b0) && (decide (a1 = b1) && true)) := (eqs_struct [(3, 0), (3, 1)] (by kernel_rfl) (by kernel_rfl) (by kernel_rfl) (by kernel_rfl) (.cons (fun _ => by kernel_rfl) (fun _ => by kernel_rfl) (eqv_int (k := .i64) (k' := .i64) (by kernel_rfl) a0 b0) (.cons (fun _ => by kernel_rfl) (fun _ => by kernel_rfl) (eqv_int (k := .i64) (k' := .i64) (by kernel_rfl) a1 b1) .nil)))
theorem y37_sz111 : (Try.prog.info? 111).map (·.size) = some 1 := by kernel_rfl
theorem y37_sz30 : (Try.prog.info? 30).map (·.size) = some 1 := by kernel_rfl
theorem y37_sz40 : (Try.prog.info? 40).map (·.size) = some 2 := by kernel_rfl
theorem y37_ty26 : TyIs Try.prog 26 true 4 := ⟨by kernel_rfl, by kernel_rfl⟩
theorem y37_ty3 : TyIs Try.prog 3 false 1 := ⟨by kernel_rfl, by kernel_rfl⟩
theorem y37_ty30 : TyIs Try.prog 30 false 1 := ⟨by kernel_rfl, by kernel_rfl⟩
theorem y37_ty40 : TyIs Try.prog 40 true 2 := ⟨by kernel_rfl, by kernel_rfl⟩
theorem y37_ty52 : TyIs Try.prog 52 true 3 := ⟨by kernel_rfl, by kernel_rfl⟩
theorem y37_ty53 : TyIs Try.prog 53 true 2 := ⟨by kernel_rfl, by kernel_rfl⟩

set_option maxRecDepth 100000 in
set_option maxHeartbeats 4000000 in
theorem deviationAt_veh (l : Lin) (hl : Sho l) (hg : (linM l).2 = 0) (L c s p j : Int) (hv : vehE L c s ≠ 0) : FnOk Try.prog 27 [lnA l, vehA L c s, .agg [mA p, mA j]] (fun q => q = .tuple [.agg [mA 0, mA 0], mA (vehE L c s)]) := by
  refine fnOk_of (fn := Try.f27) 40 (by kernel_rfl) rfl (by kernel_rfl) (Nat.le_of_ble_eq_true rfl) ?_
  intro e_0 m_0 hA hm_0
  have s0_0 : evA e_0 (.tmp 0) = _ := hA 0 _ rfl
  have s1_0 : evA e_0 (.tmp 1) = _ := hA 1 _ rfl
  have s2_0 : evA e_0 (.tmp 2) = _ := hA 2 _ rfl
  have ml_0 : m_0.length = 0 := by rw [hm_0]; rfl
  clear hA hm_0
  refine aw_seq ?_
  refine aw_text (by kernel_rfl) ?_
  refine al_stm (st_box s0_0 rfl ml_0) trivial rfl (fun m_1 hm_1 => ?_)
  have mo0_1 := m_push hm_1 ml_0
  have ml_1 := m_push_l hm_1 ml_0
  have ml_1 : _ = 1 := ml_1
  clear hm_1
  refine al_stm (st_box (up_m rfl s1_0) rfl ml_1) trivial rfl (fun m_2 hm_2 => ?_)
  have mo1_2 := m_push hm_2 ml_1
  have mo0_2 := m_push_o hm_2 mo0_1
  have ml_2 := m_push_l hm_2 ml_1
  have ml_2 : _ = 2 := ml_2
  clear hm_2 mo0_1
  refine al_stm (st_box (u2 rfl s2_0) rfl ml_2) trivial rfl (fun m_3 hm_3 => ?_)
  have mo2_3 := m_push hm_3 ml_2
  have mo1_3 := m_push_o hm_3 mo1_2
  have mo0_3 := m_push_o hm_3 mo0_2
  have ml_3 := m_push_l hm_3 ml_2
  have ml_3 : _ = 3 := ml_3
  clear hm_3 mo1_2 mo0_2
  refine al_stm (st_alloc y37_az40 rfl ml_3) trivial rfl (fun m_4 hm_4 => ?_)
  have mo3_4 := m_push hm_4 ml_3
  simp only [packA_t, packA_f, iE, bE, setAt, cellsA, Value.cells, map_vc, map_vn, Nat.reduceAdd, qS] at mo3_4
  have mo2_4 := m_push_o hm_4 mo2_3
  have mo1_4 := m_push_o hm_4 mo1_3
  have mo0_4 := m_push_o hm_4 mo0_3
  have ml_4 := m_push_l hm_4 ml_3
  have ml_4 : _ = 4 := ml_4
  clear hm_4 mo2_3 mo1_3 mo0_3
  refine al_stm (st_alloc y37_az30 rfl ml_4) trivial rfl (fun m_5 hm_5 => ?_)
  have mo4_5 := m_push hm_5 ml_4
  simp only [packA_t, packA_f, iE, bE, setAt, cellsA, Value.cells, map_vc, map_vn, Nat.reduceAdd, qS] at mo4_5
  have mo3_5 := m_push_o hm_5 mo3_4
  have mo2_5 := m_push_o hm_5 mo2_4
  have mo1_5 := m_push_o hm_5 mo1_4
  have mo0_5 := m_push_o hm_5 mo0_4
  have ml_5 := m_push_l hm_5 ml_4
  have ml_5 : _ = 5 := ml_5
  clear hm_5 mo3_4 mo2_4 mo1_4 mo0_4
  refine al_end (fun e_6 he_6 => ?_)
  have s3_6 := ef 3 he_6 (u4 rfl up_h)
  have s4_6 := ef 4 he_6 (up_m rfl (u2 rfl up_h))
  have s5_6 := ef 5 he_6 (u2 rfl up_h)
  have s6_6 := ef 6 he_6 (up_m rfl up_h)
  have s7_6 := ef 7 he_6 up_h
  clear he_6 s0_0 s1_0 s2_0
  refine then_n ?_
  refine aw_seq ?_
  refine aw_text (by kernel_rfl) ?_
  refine al_ro' (ro_eq (ro_ld_ptr y37_ty26 rfl mo0_5 s3_6 (by exact Nat.le_of_ble_eq_true rfl)) (by simp only [packA_t, packA_f, iE, bE, setAt, cellsA, Value.cells, map_vc, map_vn, Nat.reduceAdd, qS] <;> rfl)) trivial rfl ?_
  refine al_ro' (ro_eq (ro_ld_ptr y37_ty52 rfl mo1_5 (up_m rfl s4_6) (by exact Nat.le_of_ble_eq_true rfl)) (by simp only [packA_t, packA_f, iE, bE, setAt, cellsA, Value.cells, map_vc, map_vn, Nat.reduceAdd, qS] <;> rfl)) trivial rfl ?_
  refine al_ro' (ro_ixa y37_ar53 (u2 rfl s5_6) ev_c rfl) trivial rfl ?_
  refine al_ro' (ro_eq (ro_ld_ptr y37_ty3 rfl mo2_5 up_h (by exact Nat.le_of_ble_eq_true rfl)) (by simp only [packA_t, packA_f, iE, bE, setAt, cellsA, Value.cells, map_vc, map_vn, Nat.reduceAdd, qS] <;> rfl)) trivial rfl ?_
  refine al_ro' (ro_call (evL_cons (up_m rfl (u2 rfl up_h)) (evL_cons (u2 rfl up_h) (evL_cons up_h evL_nil))) rfl (openPose_veh l hl hg L c s p hv) y37_hcf78) trivial rfl ?_
  refine al_ro' (ro_move up_h) trivial rfl ?_
  refine al_ro' (ro_extract up_h rfl) trivial rfl ?_
  refine al_ro' (ro_extract (up_m rfl up_h) rfl) trivial rfl ?_
  refine al_stm (st_alloc y37_az111 rfl ml_5) trivial rfl (fun m_7 hm_7 => ?_)
  have mo5_7 := m_push hm_7 ml_5
  simp only [packA_t, packA_f, iE, bE, setAt, cellsA, Value.cells, map_vc, map_vn, Nat.reduceAdd, qS] at mo5_7
  have mo4_7 := m_push_o hm_7 mo4_5
  have mo3_7 := m_push_o hm_7 mo3_5
  have mo2_7 := m_push_o hm_7 mo2_5
  have mo1_7 := m_push_o hm_7 mo1_5
  have mo0_7 := m_push_o hm_7 mo0_5
  have ml_7 := m_push_l hm_7 ml_5
  have ml_7 : _ = 6 := ml_7
  clear hm_7 mo4_5 mo3_5 mo2_5 mo1_5 mo0_5
  refine al_stm (st_store up_h (u2 rfl up_h) rfl rfl mo5_7 y37_sz111 rfl (by exact Nat.le_of_ble_eq_true rfl)) trivial rfl (fun m_8 hm_8 => ?_)
  have mo5_8 := m_set hm_8 mo5_7
  simp only [packA_t, packA_f, iE, bE, setAt, cellsA, Value.cells, map_vc, map_vn, Nat.reduceAdd, qS] at mo5_8
  have mo4_8 := m_set_o hm_8 mo4_7 (by decide)
  have mo3_8 := m_set_o hm_8 mo3_7 (by decide)
  have mo2_8 := m_set_o hm_8 mo2_7 (by decide)
  have mo1_8 := m_set_o hm_8 mo1_7 (by decide)
  have mo0_8 := m_set_o hm_8 mo0_7 (by decide)
  have ml_8 := m_set_l hm_8 ml_7
  clear hm_8 mo5_7 mo4_7 mo3_7 mo2_7 mo1_7 mo0_7
  refine al_ro' (ro_assign (up_n (up_m rfl up_h))) trivial rfl ?_
  refine al_end (fun e_9 he_9 => ?_)
  have s4_9 := ef 4 he_9 (up_m rfl (up_n (up_m rfl (u8 rfl s4_6))))
  have s5_9 := ef 5 he_9 (up_m rfl (up_n (up_m rfl (u8 rfl s5_6))))
  have s6_9 := ef 6 he_9 (up_m rfl (up_n (up_m rfl (u8 rfl s6_6))))
  have s7_9 := ef 7 he_9 (up_m rfl (up_n (up_m rfl (u8 rfl s7_6))))
  have s8_9 := ef 8 he_9 (up_m rfl (up_n up_h))
  have s9_9 := ef 9 he_9 up_h
  clear he_9 s3_6 s4_6 s5_6 s6_6 s7_6
  refine then_n ?_
  refine aw_seq ?_
  refine aw_seq ?_
  refine aw_text (by kernel_rfl) ?_
  refine al_ro' (ro_move s9_9) trivial rfl ?_
  refine al_ro' (ro_neq up_h ev_c) trivial rfl ?_
  refine al_end (fun e_10 he_10 => ?_)
  have s4_10 := ef 4 he_10 (u2 rfl s4_9)
  have s5_10 := ef 5 he_10 (u2 rfl s5_9)
  have s6_10 := ef 6 he_10 (u2 rfl s6_9)
  have s7_10 := ef 7 he_10 (u2 rfl s7_9)
  have s8_10 := ef 8 he_10 (u2 rfl s8_9)
  have s9_10 := ef 9 he_10 (u2 rfl s9_9)
  have s20_10 := ef 20 he_10 up_h
  clear he_10 s4_9 s5_9 s6_9 s7_9 s8_9 s9_9
  refine then_n ?_
  refine aw_case s20_10 (fun hq_11 => ?_) (fun hq_11 => ?_)
  ·replace hq_11 := bnt hq_11
   refine aw_seq ?_
   refine aw_text (by kernel_rfl) ?_
   refine al_ro' (ro_build evP_nil y37_bz40 y37_bu40 y37_bp40 rfl) trivial rfl ?_
   refine al_ro' (ro_move (up_m rfl s9_10)) trivial rfl ?_
   refine al_stm (st_store (u2 rfl s6_10) (up_m rfl up_h) rfl rfl mo3_8 y37_sz40 rfl (by exact Nat.le_of_ble_eq_true rfl)) trivial rfl (fun m_12 hm_12 => ?_)
   have mo3_12 := m_set hm_12 mo3_8
   simp only [packA_t, packA_f, iE, bE, setAt, cellsA, Value.cells, map_vc, map_vn, Nat.reduceAdd, qS] at mo3_12
   have mo5_12 := m_set_o hm_12 mo5_8 (by decide)
   have mo4_12 := m_set_o hm_12 mo4_8 (by decide)
   have mo2_12 := m_set_o hm_12 mo2_8 (by decide)
   have mo1_12 := m_set_o hm_12 mo1_8 (by decide)
   have mo0_12 := m_set_o hm_12 mo0_8 (by decide)
   have ml_12 := m_set_l hm_12 ml_8
   clear hm_12 mo5_8 mo4_8 mo3_8 mo2_8 mo1_8 mo0_8
   refine al_stm (st_store (up_n (u2 rfl s7_10)) (up_n up_h) rfl rfl mo4_12 y37_sz30 rfl (by exact Nat.le_of_ble_eq_true rfl)) trivial rfl (fun m_13 hm_13 => ?_)
   have mo4_13 := m_set hm_13 mo4_12
   simp only [packA_t, packA_f, iE, bE, setAt, cellsA, Value.cells, map_vc, map_vn, Nat.reduceAdd, qS] at mo4_13
   have mo3_13 := m_set_o hm_13 mo3_12 (by decide)
   have mo5_13 := m_set_o hm_13 mo5_12 (by decide)
   have mo2_13 := m_set_o hm_13 mo2_12 (by decide)
   have mo1_13 := m_set_o hm_13 mo1_12 (by decide)
   have mo0_13 := m_set_o hm_13 mo0_12 (by decide)
   have ml_13 := m_set_l hm_13 ml_12
   clear hm_13 mo3_12 mo5_12 mo4_12 mo2_12 mo1_12 mo0_12
   refine al_end (fun e_14 he_14 => ?_)
   have s6_14 := ef 6 he_14 (up_n (up_n (u2 rfl s6_10)))
   have s7_14 := ef 7 he_14 (up_n (up_n (u2 rfl s7_10)))
   clear he_14 s20_10 s4_10 s5_10 s6_10 s7_10 s8_10 s9_10
   refine then_n ?_
   refine aw_ret ?_
   refine then_r ?_
   refine ret2 (.inr rfl) (by kernel_rfl) (resV_cell s6_14 mo3_13 y37_ty40 (by exact Nat.le_of_ble_eq_true rfl) (by simp)) (resV_cell s7_14 mo4_13 y37_ty30 (by exact Nat.le_of_ble_eq_true rfl) (by simp)) (vw_r (.ro _ rfl)) (vw_c (.ro _ rfl)) ?_
   clear s6_14 s7_14 mo4_13 mo3_13 mo5_13 mo2_13 mo1_13 mo0_13 ml_13
   rfl
  · replace hq_11 := bnf hq_11; exfalso; omega
set_option maxRecDepth 100000 in
set_option maxHeartbeats 4000000 in
theorem deviationAt_pos (l : Lin) (hl : Sho l) (hg : (linM l).2 = 0) (L c s p j : Int) (hv : vehE L c s = 0) (hp : posE l L s p ≠ 0) : FnOk Try.prog 27 [lnA l, vehA L c s, .agg [mA p, mA j]] (fun q => q = .tuple [.agg [mA 0, mA 0], mA (posE l L s p)]) := by
  refine fnOk_of (fn := Try.f27) 40 (by kernel_rfl) rfl (by kernel_rfl) (Nat.le_of_ble_eq_true rfl) ?_
  intro e_0 m_0 hA hm_0
  have s0_0 : evA e_0 (.tmp 0) = _ := hA 0 _ rfl
  have s1_0 : evA e_0 (.tmp 1) = _ := hA 1 _ rfl
  have s2_0 : evA e_0 (.tmp 2) = _ := hA 2 _ rfl
  have ml_0 : m_0.length = 0 := by rw [hm_0]; rfl
  clear hA hm_0
  refine aw_seq ?_
  refine aw_text (by kernel_rfl) ?_
  refine al_stm (st_box s0_0 rfl ml_0) trivial rfl (fun m_1 hm_1 => ?_)
  have mo0_1 := m_push hm_1 ml_0
  have ml_1 := m_push_l hm_1 ml_0
  have ml_1 : _ = 1 := ml_1
  clear hm_1
  refine al_stm (st_box (up_m rfl s1_0) rfl ml_1) trivial rfl (fun m_2 hm_2 => ?_)
  have mo1_2 := m_push hm_2 ml_1
  have mo0_2 := m_push_o hm_2 mo0_1
  have ml_2 := m_push_l hm_2 ml_1
  have ml_2 : _ = 2 := ml_2
  clear hm_2 mo0_1
  refine al_stm (st_box (u2 rfl s2_0) rfl ml_2) trivial rfl (fun m_3 hm_3 => ?_)
  have mo2_3 := m_push hm_3 ml_2
  have mo1_3 := m_push_o hm_3 mo1_2
  have mo0_3 := m_push_o hm_3 mo0_2
  have ml_3 := m_push_l hm_3 ml_2
  have ml_3 : _ = 3 := ml_3
  clear hm_3 mo1_2 mo0_2
  refine al_stm (st_alloc y37_az40 rfl ml_3) trivial rfl (fun m_4 hm_4 => ?_)
  have mo3_4 := m_push hm_4 ml_3
  simp only [packA_t, packA_f, iE, bE, setAt, cellsA, Value.cells, map_vc, map_vn, Nat.reduceAdd, qS] at mo3_4
  have mo2_4 := m_push_o hm_4 mo2_3
  have mo1_4 := m_push_o hm_4 mo1_3
  have mo0_4 := m_push_o hm_4 mo0_3
  have ml_4 := m_push_l hm_4 ml_3
  have ml_4 : _ = 4 := ml_4
  clear hm_4 mo2_3 mo1_3 mo0_3
  refine al_stm (st_alloc y37_az30 rfl ml_4) trivial rfl (fun m_5 hm_5 => ?_)
  have mo4_5 := m_push hm_5 ml_4
  simp only [packA_t, packA_f, iE, bE, setAt, cellsA, Value.cells, map_vc, map_vn, Nat.reduceAdd, qS] at mo4_5
  have mo3_5 := m_push_o hm_5 mo3_4
  have mo2_5 := m_push_o hm_5 mo2_4
  have mo1_5 := m_push_o hm_5 mo1_4
  have mo0_5 := m_push_o hm_5 mo0_4
  have ml_5 := m_push_l hm_5 ml_4
  have ml_5 : _ = 5 := ml_5
  clear hm_5 mo3_4 mo2_4 mo1_4 mo0_4
  refine al_end (fun e_6 he_6 => ?_)
  have s3_6 := ef 3 he_6 (u4 rfl up_h)
  have s4_6 := ef 4 he_6 (up_m rfl (u2 rfl up_h))
  have s5_6 := ef 5 he_6 (u2 rfl up_h)
  have s6_6 := ef 6 he_6 (up_m rfl up_h)
  have s7_6 := ef 7 he_6 up_h
  clear he_6 s0_0 s1_0 s2_0
  refine then_n ?_
  refine aw_seq ?_
  refine aw_text (by kernel_rfl) ?_
  refine al_ro' (ro_eq (ro_ld_ptr y37_ty26 rfl mo0_5 s3_6 (by exact Nat.le_of_ble_eq_true rfl)) (by simp only [packA_t, packA_f, iE, bE, setAt, cellsA, Value.cells, map_vc, map_vn, Nat.reduceAdd, qS] <;> rfl)) trivial rfl ?_
  refine al_ro' (ro_eq (ro_ld_ptr y37_ty52 rfl mo1_5 (up_m rfl s4_6) (by exact Nat.le_of_ble_eq_true rfl)) (by simp only [packA_t, packA_f, iE, bE, setAt, cellsA, Value.cells, map_vc, map_vn, Nat.reduceAdd, qS] <;> rfl)) trivial rfl ?_
  refine al_ro' (ro_ixa y37_ar53 (u2 rfl s5_6) ev_c rfl) trivial rfl ?_
  refine al_ro' (ro_eq (ro_ld_ptr y37_ty3 rfl mo2_5 up_h (by exact Nat.le_of_ble_eq_true rfl)) (by simp only [packA_t, packA_f, iE, bE, setAt, cellsA, Value.cells, map_vc, map_vn, Nat.reduceAdd, qS] <;> rfl)) trivial rfl ?_
  refine al_ro' (ro_call (evL_cons (up_m rfl (u2 rfl up_h)) (evL_cons (u2 rfl up_h) (evL_cons up_h evL_nil))) rfl (openPose_good l hl hg L c s p hv) y37_hcf78) trivial rfl ?_
  refine al_ro' (ro_move up_h) trivial rfl ?_
  refine al_ro' (ro_extract up_h rfl) trivial rfl ?_
  refine al_ro' (ro_extract (up_m rfl up_h) rfl) trivial rfl ?_
  refine al_stm (st_alloc y37_az111 rfl ml_5) trivial rfl (fun m_7 hm_7 => ?_)
  have mo5_7 := m_push hm_7 ml_5
  simp only [packA_t, packA_f, iE, bE, setAt, cellsA, Value.cells, map_vc, map_vn, Nat.reduceAdd, qS] at mo5_7
  have mo4_7 := m_push_o hm_7 mo4_5
  have mo3_7 := m_push_o hm_7 mo3_5
  have mo2_7 := m_push_o hm_7 mo2_5
  have mo1_7 := m_push_o hm_7 mo1_5
  have mo0_7 := m_push_o hm_7 mo0_5
  have ml_7 := m_push_l hm_7 ml_5
  have ml_7 : _ = 6 := ml_7
  clear hm_7 mo4_5 mo3_5 mo2_5 mo1_5 mo0_5
  refine al_stm (st_store up_h (u2 rfl up_h) rfl rfl mo5_7 y37_sz111 rfl (by exact Nat.le_of_ble_eq_true rfl)) trivial rfl (fun m_8 hm_8 => ?_)
  have mo5_8 := m_set hm_8 mo5_7
  simp only [packA_t, packA_f, iE, bE, setAt, cellsA, Value.cells, map_vc, map_vn, Nat.reduceAdd, qS] at mo5_8
  have mo4_8 := m_set_o hm_8 mo4_7 (by decide)
  have mo3_8 := m_set_o hm_8 mo3_7 (by decide)
  have mo2_8 := m_set_o hm_8 mo2_7 (by decide)
  have mo1_8 := m_set_o hm_8 mo1_7 (by decide)
  have mo0_8 := m_set_o hm_8 mo0_7 (by decide)
  have ml_8 := m_set_l hm_8 ml_7
  clear hm_8 mo5_7 mo4_7 mo3_7 mo2_7 mo1_7 mo0_7
  refine al_ro' (ro_assign (up_n (up_m rfl up_h))) trivial rfl ?_
  refine al_end (fun e_9 he_9 => ?_)
  have s4_9 := ef 4 he_9 (up_m rfl (up_n (up_m rfl (u8 rfl s4_6))))
  have s5_9 := ef 5 he_9 (up_m rfl (up_n (up_m rfl (u8 rfl s5_6))))
  have s6_9 := ef 6 he_9 (up_m rfl (up_n (up_m rfl (u8 rfl s6_6))))
  have s7_9 := ef 7 he_9 (up_m rfl (up_n (up_m rfl (u8 rfl s7_6))))
  have s8_9 := ef 8 he_9 (up_m rfl (up_n up_h))
  have s9_9 := ef 9 he_9 up_h
  clear he_9 s3_6 s4_6 s5_6 s6_6 s7_6
  refine then_n ?_
  refine aw_seq ?_
  refine aw_seq ?_
  refine aw_text (by kernel_rfl) ?_
  refine al_ro' (ro_move s9_9) trivial rfl ?_
  refine al_ro' (ro_neq up_h ev_c) trivial rfl ?_
  refine al_end (fun e_10 he_10 => ?_)
  have s4_10 := ef 4 he_10 (u2 rfl s4_9)
  have s5_10 := ef 5 he_10 (u2 rfl s5_9)
  have s6_10 := ef 6 he_10 (u2 rfl s6_9)
  have s7_10 := ef 7 he_10 (u2 rfl s7_9)
  have s8_10 := ef 8 he_10 (u2 rfl s8_9)
  have s9_10 := ef 9 he_10 (u2 rfl s9_9)
  have s20_10 := ef 20 he_10 up_h
  clear he_10 s4_9 s5_9 s6_9 s7_9 s8_9 s9_9
  refine then_n ?_
  refine aw_case s20_10 (fun hq_11 => ?_) (fun hq_11 => ?_)
  ·replace hq_11 := bnt hq_11
   refine aw_seq ?_
   refine aw_text (by kernel_rfl) ?_
   refine al_ro' (ro_build evP_nil y37_bz40 y37_bu40 y37_bp40 rfl) trivial rfl ?_
   refine al_ro' (ro_move (up_m rfl s9_10)) trivial rfl ?_
   refine al_stm (st_store (u2 rfl s6_10) (up_m rfl up_h) rfl rfl mo3_8 y37_sz40 rfl (by exact Nat.le_of_ble_eq_true rfl)) trivial rfl (fun m_12 hm_12 => ?_)
   have mo3_12 := m_set hm_12 mo3_8
   simp only [packA_t, packA_f, iE, bE, setAt, cellsA, Value.cells, map_vc, map_vn, Nat.reduceAdd, qS] at mo3_12
   have mo5_12 := m_set_o hm_12 mo5_8 (by decide)
   have mo4_12 := m_set_o hm_12 mo4_8 (by decide)
   have mo2_12 := m_set_o hm_12 mo2_8 (by decide)
   have mo1_12 := m_set_o hm_12 mo1_8 (by decide)
   have mo0_12 := m_set_o hm_12 mo0_8 (by decide)
   have ml_12 := m_set_l hm_12 ml_8
   clear hm_12 mo5_8 mo4_8 mo3_8 mo2_8 mo1_8 mo0_8
   refine al_stm (st_store (up_n (u2 rfl s7_10)) (up_n up_h) rfl rfl mo4_12 y37_sz30 rfl (by exact Nat.le_of_ble_eq_true rfl)) trivial rfl (fun m_13 hm_13 => ?_)
   have mo4_13 := m_set hm_13 mo4_12
   simp only [packA_t, packA_f, iE, bE, setAt, cellsA, Value.cells, map_vc, map_vn, Nat.reduceAdd, qS] at mo4_13
   have mo3_13 := m_set_o hm_13 mo3_12 (by decide)
   have mo5_13 := m_set_o hm_13 mo5_12 (by decide)
   have mo2_13 := m_set_o hm_13 mo2_12 (by decide)
   have mo1_13 := m_set_o hm_13 mo1_12 (by decide)
   have mo0_13 := m_set_o hm_13 mo0_12 (by decide)
   have ml_13 := m_set_l hm_13 ml_12
   clear hm_13 mo3_12 mo5_12 mo4_12 mo2_12 mo1_12 mo0_12
   refine al_end (fun e_14 he_14 => ?_)
   have s6_14 := ef 6 he_14 (up_n (up_n (u2 rfl s6_10)))
   have s7_14 := ef 7 he_14 (up_n (up_n (u2 rfl s7_10)))
   clear he_14 s20_10 s4_10 s5_10 s6_10 s7_10 s8_10 s9_10
   refine then_n ?_
   refine aw_ret ?_
   refine then_r ?_
   refine ret2 (.inr rfl) (by kernel_rfl) (resV_cell s6_14 mo3_13 y37_ty40 (by exact Nat.le_of_ble_eq_true rfl) (by simp)) (resV_cell s7_14 mo4_13 y37_ty30 (by exact Nat.le_of_ble_eq_true rfl) (by simp)) (vw_r (.ro _ rfl)) (vw_c (.ro _ rfl)) ?_
   clear s6_14 s7_14 mo4_13 mo3_13 mo5_13 mo2_13 mo1_13 mo0_13 ml_13
   rfl
  · replace hq_11 := bnf hq_11; exfalso; omega
theorem deviationAt_in (l : Lin) (hl : Sho l) (hg : (linM l).2 = 0) (L c s p j : Int) (hv : vehE L c s = 0) (hp : posE l L s p = 0) (hb : benI l L p j = true) : FnOk Try.prog 27 [lnA l, vehA L c s, .agg [mA p, mA j]] (fun q => q = .tuple [.agg [mA (devLo l L p j.toNat), mA (devHi l L p j.toNat)], mA 0]) :=
  (deviationAt_good l hl hg L c s p j hv hp).mono fun q h => by rw [if_pos hb] at h; exact h
theorem deviationAt_out (l : Lin) (hl : Sho l) (hg : (linM l).2 = 0) (L c s p j : Int) (hv : vehE L c s = 0) (hp : posE l L s p = 0) (hb : benI l L p j = false) : FnOk Try.prog 27 [lnA l, vehA L c s, .agg [mA p, mA j]] (fun q => q = .tuple [.agg [mA 0, mA 0], mA 6]) :=
  (deviationAt_good l hl hg L c s p j hv hp).mono fun q h => by rw [if_neg (by rw [hb]; decide)] at h; exact h
theorem pos_of {l : Lin} {L c s p j : Int} (hv : vehE L c s = 0) (hp : posE l L s p = 0) (hb : benI l L p j = true) : 0 ≤ j ∧ Pos l L p j.toNat := by
  have h1 := vehE_z.1 hv
  have h2 := posE_z.1 hp
  unfold benI benB at hb
  simp only [Bool.and_eq_true, decide_eq_true_eq] at hb
  exact ⟨hb.1.1, ⟨by omega, by omega, by omega, by omega, by omega, by omega, by omega⟩⟩
set_option maxRecDepth 100000 in
set_option maxHeartbeats 4000000 in
theorem lineDeviations_many (l : Lin) (hf : fewL l = false) (L c s p j : Int) : FnOk Try.prog 4 [lnA l, vehA L c s, .agg [mA p, mA j]] (fun q => q = tbA true) := by
  refine fnOk_of (fn := Try.f4) 80 (by kernel_rfl) rfl (by kernel_rfl) (Nat.le_of_ble_eq_true rfl) ?_
  intro e_0 m_0 hA hm_0
  have s0_0 : evA e_0 (.tmp 0) = _ := hA 0 _ rfl
  have s1_0 : evA e_0 (.tmp 1) = _ := hA 1 _ rfl
  have s2_0 : evA e_0 (.tmp 2) = _ := hA 2 _ rfl
  have ml_0 : m_0.length = 0 := by rw [hm_0]; rfl
  clear hA hm_0
  refine aw_seq ?_
  refine aw_text (by kernel_rfl) ?_
  refine al_stm (st_box s0_0 rfl ml_0) trivial rfl (fun m_1 hm_1 => ?_)
  have mo0_1 := m_push hm_1 ml_0
  have ml_1 := m_push_l hm_1 ml_0
  have ml_1 : _ = 1 := ml_1
  clear hm_1
  refine al_stm (st_box (up_m rfl s1_0) rfl ml_1) trivial rfl (fun m_2 hm_2 => ?_)
  have mo1_2 := m_push hm_2 ml_1
  have mo0_2 := m_push_o hm_2 mo0_1
  have ml_2 := m_push_l hm_2 ml_1
  have ml_2 : _ = 2 := ml_2
  clear hm_2 mo0_1
  refine al_stm (st_box (u2 rfl s2_0) rfl ml_2) trivial rfl (fun m_3 hm_3 => ?_)
  have mo2_3 := m_push hm_3 ml_2
  have mo1_3 := m_push_o hm_3 mo1_2
  have mo0_3 := m_push_o hm_3 mo0_2
  have ml_3 := m_push_l hm_3 ml_2
  have ml_3 : _ = 3 := ml_3
  clear hm_3 mo1_2 mo0_2
  refine al_ro' (ro_assign ev_c) trivial rfl ?_
  refine al_end (fun e_4 he_4 => ?_)
  have s3_4 := ef 3 he_4 (up_m rfl (u2 rfl up_h))
  have s4_4 := ef 4 he_4 (u2 rfl up_h)
  have s5_4 := ef 5 he_4 (up_m rfl up_h)
  clear he_4 s0_0 s1_0 s2_0
  refine then_n ?_
  refine aw_seq ?_
  refine aw_seq ?_
  refine aw_text (by kernel_rfl) ?_
  refine al_ro' (ro_call evL_nil rfl (awake_ok) y37_hcf13) trivial rfl ?_
  refine al_ro' (ro_not up_h) trivial rfl ?_
  refine al_end (fun e_5 he_5 => ?_)
  have s3_5 := ef 3 he_5 (u2 rfl s3_4)
  have s4_5 := ef 4 he_5 (u2 rfl s4_4)
  have s5_5 := ef 5 he_5 (u2 rfl s5_4)
  have s13_5 := ef 13 he_5 up_h
  clear he_5 s3_4 s4_4 s5_4
  refine then_n ?_
  refine aw_case s13_5 (fun hq_6 => ?_) (fun hq_6 => ?_)
  · replace hq_6 := bt' hq_6; cases hq_6
  replace hq_6 := bf' hq_6
  refine aw_skip ?_
  refine then_n ?_
  refine aw_seq ?_
  refine aw_seq ?_
  refine aw_text (by kernel_rfl) ?_
  refine al_ro' (ro_eq (ro_ld_ptr y37_ty26 rfl mo0_3 s3_5 (by exact Nat.le_of_ble_eq_true rfl)) (by simp only [packA_t, packA_f, iE, bE, setAt, cellsA, Value.cells, map_vc, map_vn, Nat.reduceAdd, qS] <;> rfl)) trivial rfl ?_
  refine al_ro' (ro_call (evL_cons up_h evL_nil) rfl ((fewL_ok l).mono (fun q h => h.trans (by rw [hf]))) y37_hcf14) trivial rfl ?_
  refine al_ro' (ro_not up_h) trivial rfl ?_
  refine al_end (fun e_7 he_7 => ?_)
  have s3_7 := ef 3 he_7 (up_m rfl (u2 rfl s3_5))
  have s4_7 := ef 4 he_7 (up_m rfl (u2 rfl s4_5))
  have s5_7 := ef 5 he_7 (up_m rfl (u2 rfl s5_5))
  have s16_7 := ef 16 he_7 up_h
  clear he_7 s13_5 s3_5 s4_5 s5_5
  refine then_n ?_
  refine aw_case s16_7 (fun hq_8 => ?_) (fun hq_8 => ?_)
  ·replace hq_8 := bt' hq_8
   refine aw_seq ?_
   refine aw_text (by kernel_rfl) ?_
   refine al_ro' (ro_assign ev_c) trivial rfl ?_
   refine al_end (fun e_9 he_9 => ?_)
   have s6_9 := ef 6 he_9 up_h
   clear he_9 s16_7 s3_7 s4_7 s5_7
   refine then_n ?_
   refine aw_ret ?_
   refine then_r ?_
   refine ret1 (.inr rfl) (by kernel_rfl) (resV_tmp s6_9) (.ro _ rfl) ?_
   clear s6_9 mo2_3 mo1_3 mo0_3 ml_3
   first | rfl | simp_all
  · replace hq_8 := bf' hq_8; cases hq_8
set_option maxRecDepth 100000 in
set_option maxHeartbeats 4000000 in
theorem lineDeviations_bad (l : Lin) (hf : fewL l = true) (hb : (linM l).2 ≠ 0) (L c s p j : Int) : FnOk Try.prog 4 [lnA l, vehA L c s, .agg [mA p, mA j]] (fun q => q = tbA true) := by
  refine fnOk_of (fn := Try.f4) 80 (by kernel_rfl) rfl (by kernel_rfl) (Nat.le_of_ble_eq_true rfl) ?_
  intro e_0 m_0 hA hm_0
  have s0_0 : evA e_0 (.tmp 0) = _ := hA 0 _ rfl
  have s1_0 : evA e_0 (.tmp 1) = _ := hA 1 _ rfl
  have s2_0 : evA e_0 (.tmp 2) = _ := hA 2 _ rfl
  have ml_0 : m_0.length = 0 := by rw [hm_0]; rfl
  clear hA hm_0
  have hl := fewL_sho hf
  refine aw_seq ?_
  refine aw_text (by kernel_rfl) ?_
  refine al_stm (st_box s0_0 rfl ml_0) trivial rfl (fun m_1 hm_1 => ?_)
  have mo0_1 := m_push hm_1 ml_0
  have ml_1 := m_push_l hm_1 ml_0
  have ml_1 : _ = 1 := ml_1
  clear hm_1
  refine al_stm (st_box (up_m rfl s1_0) rfl ml_1) trivial rfl (fun m_2 hm_2 => ?_)
  have mo1_2 := m_push hm_2 ml_1
  have mo0_2 := m_push_o hm_2 mo0_1
  have ml_2 := m_push_l hm_2 ml_1
  have ml_2 : _ = 2 := ml_2
  clear hm_2 mo0_1
  refine al_stm (st_box (u2 rfl s2_0) rfl ml_2) trivial rfl (fun m_3 hm_3 => ?_)
  have mo2_3 := m_push hm_3 ml_2
  have mo1_3 := m_push_o hm_3 mo1_2
  have mo0_3 := m_push_o hm_3 mo0_2
  have ml_3 := m_push_l hm_3 ml_2
  have ml_3 : _ = 3 := ml_3
  clear hm_3 mo1_2 mo0_2
  refine al_ro' (ro_assign ev_c) trivial rfl ?_
  refine al_end (fun e_4 he_4 => ?_)
  have s3_4 := ef 3 he_4 (up_m rfl (u2 rfl up_h))
  have s4_4 := ef 4 he_4 (u2 rfl up_h)
  have s5_4 := ef 5 he_4 (up_m rfl up_h)
  clear he_4 s0_0 s1_0 s2_0
  refine then_n ?_
  refine aw_seq ?_
  refine aw_seq ?_
  refine aw_text (by kernel_rfl) ?_
  refine al_ro' (ro_call evL_nil rfl (awake_ok) y37_hcf13) trivial rfl ?_
  refine al_ro' (ro_not up_h) trivial rfl ?_
  refine al_end (fun e_5 he_5 => ?_)
  have s3_5 := ef 3 he_5 (u2 rfl s3_4)
  have s4_5 := ef 4 he_5 (u2 rfl s4_4)
  have s5_5 := ef 5 he_5 (u2 rfl s5_4)
  have s13_5 := ef 13 he_5 up_h
  clear he_5 s3_4 s4_4 s5_4
  refine then_n ?_
  refine aw_case s13_5 (fun hq_6 => ?_) (fun hq_6 => ?_)
  · cases hq_6
  replace hq_6 := bf' hq_6
  refine aw_skip ?_
  refine then_n ?_
  refine aw_seq ?_
  refine aw_seq ?_
  refine aw_text (by kernel_rfl) ?_
  refine al_ro' (ro_eq (ro_ld_ptr y37_ty26 rfl mo0_3 s3_5 (by exact Nat.le_of_ble_eq_true rfl)) (by simp only [packA_t, packA_f, iE, bE, setAt, cellsA, Value.cells, map_vc, map_vn, Nat.reduceAdd, qS] <;> rfl)) trivial rfl ?_
  refine al_ro' (ro_call (evL_cons up_h evL_nil) rfl ((fewL_ok l).mono (fun q h => h.trans (by rw [hf]))) y37_hcf14) trivial rfl ?_
  refine al_ro' (ro_not up_h) trivial rfl ?_
  refine al_end (fun e_7 he_7 => ?_)
  have s3_7 := ef 3 he_7 (up_m rfl (u2 rfl s3_5))
  have s4_7 := ef 4 he_7 (up_m rfl (u2 rfl s4_5))
  have s5_7 := ef 5 he_7 (up_m rfl (u2 rfl s5_5))
  have s16_7 := ef 16 he_7 up_h
  clear he_7 s13_5 s3_5 s4_5 s5_5
  refine then_n ?_
  refine aw_case s16_7 (fun hq_8 => ?_) (fun hq_8 => ?_)
  · cases hq_8
  replace hq_8 := bf' hq_8
  refine aw_skip ?_
  refine then_n ?_
  refine aw_seq ?_
  refine aw_text (by kernel_rfl) ?_
  refine al_ro' (ro_eq (ro_ld_ptr y37_ty52 rfl mo1_3 s4_7 (by exact Nat.le_of_ble_eq_true rfl)) (by simp only [packA_t, packA_f, iE, bE, setAt, cellsA, Value.cells, map_vc, map_vn, Nat.reduceAdd, qS] <;> rfl)) trivial rfl ?_
  refine al_ro' (ro_call (evL_cons up_h evL_nil) rfl (checkVehicle_ok L c s) y37_hcf26) trivial rfl ?_
  refine al_ro' (ro_assign up_h) trivial rfl ?_
  refine al_end (fun e_9 he_9 => ?_)
  have s3_9 := ef 3 he_9 (up_m rfl (u2 rfl s3_7))
  have s4_9 := ef 4 he_9 (up_m rfl (u2 rfl s4_7))
  have s5_9 := ef 5 he_9 (up_m rfl (u2 rfl s5_7))
  have s7_9 := ef 7 he_9 up_h
  clear he_9 s16_7 s3_7 s4_7 s5_7
  refine then_n ?_
  refine aw_seq ?_
  refine aw_drawK 10 1 ml_3 (by kernel_rfl) (by kernel_rfl) (by kernel_rfl) (by kernel_rfl) (fun m_10 hm_10 => ?_)
  have mo2_10 := m_room_o hm_10 mo2_3
  have mo1_10 := m_room_o hm_10 mo1_3
  have mo0_10 := m_room_o hm_10 mo0_3
  have mo3_10 : m_10[3]? = _ := m_room_g hm_10 ml_3 0 rfl rfl
  have ml_10 : _ = 4 := m_room_l (K := 1) hm_10 ml_3
  clear hm_10 mo2_3 mo1_3 mo0_3 ml_3
  refine dh_ld (0) (fun M_ hM_ => (ro_eq (ro_ld_ptr y37_ty26 rfl (agr hM_ mo0_10 (by simp)) s3_9 (by exact Nat.le_of_ble_eq_true rfl)) (by simp only [packA_t, packA_f, iE, bE, setAt, cellsA, Value.cells, map_vc, map_vn, Nat.reduceAdd, qS] <;> rfl))) trivial trivial ?_
  refine dh_ro (fun M_ hM_ => (ro_call (evL_cons up_h evL_nil) rfl (yCopy_ok l hl) y37_hcf17)) trivial ?_
  refine dh_ld (1) (fun M_ hM_ => (ro_eq (ro_ld_ptr y37_ty52 rfl (agr hM_ mo1_10 (by simp)) (u2 rfl s4_9) (by exact Nat.le_of_ble_eq_true rfl)) (by simp only [packA_t, packA_f, iE, bE, setAt, cellsA, Value.cells, map_vc, map_vn, Nat.reduceAdd, qS] <;> rfl))) trivial trivial ?_
  refine dh_ld (2) (fun M_ hM_ => (ro_ld_all y37_ty53 (agr hM_ mo2_10 (by simp)) (up_m rfl (u2 rfl s5_9)) (by first | rfl | (rw [flat_map_len (k := 1)] <;> first | omega | (intro _; rfl))))) trivial trivial ?_
  refine dh_ro (fun M_ hM_ => (ro_call (evL_cons (u2 rfl up_h) (evL_cons (up_m rfl up_h) (evL_cons up_h evL_nil))) rfl (deviationAt_bad l hl hb L c s p j) y37_hcf27)) trivial ?_
  refine dh_ro (fun M_ hM_ => (ro_move up_h)) trivial ?_
  refine dh_ro (fun M_ hM_ => (ro_extract up_h rfl)) trivial ?_
  refine dh_ro (fun M_ hM_ => (ro_extract (up_m rfl up_h) rfl)) trivial ?_
  refine dh_nw (3) (fun M_ hM_ => (nw_alloc y37_az40 rfl)) trivial mo3_10 rfl trivial ⟨.inl (by simp <;> omega), ⟨.inl (by simp <;> omega), ⟨.inl (by simp <;> omega), trivial⟩⟩⟩ (fun m_11 hm_11 => ?_)
  have mo3_11 := m_set hm_11 mo3_10
  simp only [packA_t, packA_f, iE, bE, setAt, cellsA, Value.cells, map_vc, map_vn, Nat.reduceAdd, qS] at mo3_11
  have mo2_11 := m_set_o hm_11 mo2_10 (by decide)
  have mo1_11 := m_set_o hm_11 mo1_10 (by decide)
  have mo0_11 := m_set_o hm_11 mo0_10 (by decide)
  have ml_11 := m_set_l hm_11 ml_10
  clear hm_11 mo2_10 mo1_10 mo0_10 mo3_10
  refine dh_set (3) (fun M_ hM_ => (se_store up_h (u2 rfl up_h) rfl rfl (agr hM_ mo3_11 (by simp)) y37_sz40 rfl (by exact Nat.le_of_ble_eq_true rfl))) trivial ⟨.inr (wt_one 9 8 (by kernel_rfl)), trivial⟩ ⟨.inl (by simp <;> omega), ⟨.inl (by simp <;> omega), ⟨.inl (by simp <;> omega), ⟨.inr (wt_one 9 8 (by kernel_rfl)), trivial⟩⟩⟩⟩ (fun m_12 hm_12 => ?_)
  have mo3_12 := m_set hm_12 mo3_11
  simp only [packA_t, packA_f, iE, bE, setAt, cellsA, Value.cells, map_vc, map_vn, Nat.reduceAdd, qS] at mo3_12
  have mo2_12 := m_set_o hm_12 mo2_11 (by decide)
  have mo1_12 := m_set_o hm_12 mo1_11 (by decide)
  have mo0_12 := m_set_o hm_12 mo0_11 (by decide)
  have ml_12 := m_set_l hm_12 ml_11
  clear hm_12 mo3_11 mo2_11 mo1_11 mo0_11
  refine dh_nil rfl ?_
  refine al_ro' (ro_assign (up_n (up_m rfl up_h))) trivial rfl ?_
  refine al_end (fun e_13 he_13 => ?_)
  have s3_13 := ef 3 he_13 (up_m rfl (up_n (up_m rfl (u8 rfl s3_9))))
  have s4_13 := ef 4 he_13 (up_m rfl (up_n (up_m rfl (u8 rfl s4_9))))
  have s5_13 := ef 5 he_13 (up_m rfl (up_n (up_m rfl (u8 rfl s5_9))))
  have s7_13 := ef 7 he_13 (up_m rfl (up_n (up_m rfl (u8 rfl s7_9))))
  have s8_13 := ef 8 he_13 (up_m rfl (up_n up_h))
  have s9_13 := ef 9 he_13 up_h
  clear he_13 s3_9 s4_9 s5_9 s7_9
  refine then_n ?_
  refine aw_seq ?_
  refine aw_text (by kernel_rfl) ?_
  refine al_ro' (ro_eq (ro_ld_ptr y37_ty52 rfl mo1_12 s4_13 (by exact Nat.le_of_ble_eq_true rfl)) (by simp only [packA_t, packA_f, iE, bE, setAt, cellsA, Value.cells, map_vc, map_vn, Nat.reduceAdd, qS] <;> rfl)) trivial rfl ?_
  refine al_ro' (ro_call (evL_cons up_h evL_nil) rfl (rVehicleErr_ok L c s) y37_hcf28) trivial rfl ?_
  refine al_ro' (ro_assign up_h) trivial rfl ?_
  refine al_end (fun e_14 he_14 => ?_)
  have s3_14 := ef 3 he_14 (up_m rfl (u2 rfl s3_13))
  have s4_14 := ef 4 he_14 (up_m rfl (u2 rfl s4_13))
  have s5_14 := ef 5 he_14 (up_m rfl (u2 rfl s5_13))
  have s7_14 := ef 7 he_14 (up_m rfl (u2 rfl s7_13))
  have s8_14 := ef 8 he_14 (up_m rfl (u2 rfl s8_13))
  have s9_14 := ef 9 he_14 (up_m rfl (u2 rfl s9_13))
  have s10_14 := ef 10 he_14 up_h
  clear he_14 s3_13 s4_13 s5_13 s7_13 s8_13 s9_13
  refine then_n ?_
  refine aw_seq ?_
  refine aw_seq ?_
  refine aw_text (by kernel_rfl) ?_
  refine al_ro' (ro_move s7_14) trivial rfl ?_
  refine al_ro' (ro_move (up_m rfl s10_14)) trivial rfl ?_
  refine al_ro' (ro_neq (up_m rfl up_h) up_h) trivial rfl ?_
  refine al_end (fun e_15 he_15 => ?_)
  have s3_15 := ef 3 he_15 (up_m rfl (u2 rfl s3_14))
  have s4_15 := ef 4 he_15 (up_m rfl (u2 rfl s4_14))
  have s5_15 := ef 5 he_15 (up_m rfl (u2 rfl s5_14))
  have s8_15 := ef 8 he_15 (up_m rfl (u2 rfl s8_14))
  have s9_15 := ef 9 he_15 (up_m rfl (u2 rfl s9_14))
  have s10_15 := ef 10 he_15 (up_m rfl (u2 rfl s10_14))
  have s31_15 := ef 31 he_15 up_h
  clear he_15 s10_14 s3_14 s4_14 s5_14 s7_14 s8_14 s9_14
  refine then_n ?_
  refine aw_case s31_15 (fun hq_16 => ?_) (fun hq_16 => ?_)
  · replace hq_16 := bnt hq_16; exfalso; omega
  replace hq_16 := bnf hq_16
  refine aw_skip ?_
  refine then_n ?_
  refine aw_seq ?_
  refine aw_seq ?_
  refine aw_text (by kernel_rfl) ?_
  refine al_ro' (ro_eq (ro_ld_ptr y37_ty26 rfl mo0_12 s3_15 (by exact Nat.le_of_ble_eq_true rfl)) (by simp only [packA_t, packA_f, iE, bE, setAt, cellsA, Value.cells, map_vc, map_vn, Nat.reduceAdd, qS] <;> rfl)) trivial rfl ?_
  refine al_ro' (ro_call (evL_cons up_h evL_nil) rfl (lineErr_ok l hl) y37_hcf15) trivial rfl ?_
  refine al_ro' (ro_assign up_h) trivial rfl ?_
  refine al_end (fun e_17 he_17 => ?_)
  have s3_17 := ef 3 he_17 (up_m rfl (u2 rfl s3_15))
  have s4_17 := ef 4 he_17 (up_m rfl (u2 rfl s4_15))
  have s5_17 := ef 5 he_17 (up_m rfl (u2 rfl s5_15))
  have s8_17 := ef 8 he_17 (up_m rfl (u2 rfl s8_15))
  have s9_17 := ef 9 he_17 (up_m rfl (u2 rfl s9_15))
  have s10_17 := ef 10 he_17 (up_m rfl (u2 rfl s10_15))
  have s11_17 := ef 11 he_17 up_h
  clear he_17 s10_15 s31_15 s3_15 s4_15 s5_15 s8_15 s9_15
  refine then_n ?_
  refine aw_seq ?_
  refine aw_text (by kernel_rfl) ?_
  refine al_ro' (ro_move s11_17) trivial rfl ?_
  refine al_ro' (ro_neq up_h ev_c) trivial rfl ?_
  refine al_end (fun e_18 he_18 => ?_)
  have s3_18 := ef 3 he_18 (u2 rfl s3_17)
  have s4_18 := ef 4 he_18 (u2 rfl s4_17)
  have s5_18 := ef 5 he_18 (u2 rfl s5_17)
  have s8_18 := ef 8 he_18 (u2 rfl s8_17)
  have s9_18 := ef 9 he_18 (u2 rfl s9_17)
  have s10_18 := ef 10 he_18 (u2 rfl s10_17)
  have s11_18 := ef 11 he_18 (u2 rfl s11_17)
  have s35_18 := ef 35 he_18 up_h
  clear he_18 s10_17 s11_17 s3_17 s4_17 s5_17 s8_17 s9_17
  refine then_n ?_
  refine aw_case s35_18 (fun hq_19 => ?_) (fun hq_19 => ?_)
  ·replace hq_19 := bnt hq_19
   refine aw_text (by kernel_rfl) ?_
   refine al_ro' (ro_move s11_18) trivial rfl ?_
   refine al_ro' (ro_assign up_h) trivial rfl ?_
   refine al_end (fun e_20 he_20 => ?_)
   have s3_20 := ef 3 he_20 (u2 rfl s3_18)
   have s4_20 := ef 4 he_20 (u2 rfl s4_18)
   have s5_20 := ef 5 he_20 (u2 rfl s5_18)
   have s8_20 := ef 8 he_20 (u2 rfl s8_18)
   have s9_20 := ef 9 he_20 (u2 rfl s9_18)
   have s10_20 := ef 10 he_20 up_h
   clear he_20 s10_18 s11_18 s35_18 s3_18 s4_18 s5_18 s8_18 s9_18
   refine then_n ?_
   refine aw_seq ?_
   refine aw_seq ?_
   refine aw_text (by kernel_rfl) ?_
   refine al_ro' (ro_move s10_20) trivial rfl ?_
   refine al_ro' (ro_eql up_h ev_c) trivial rfl ?_
   refine al_end (fun e_21 he_21 => ?_)
   have s3_21 := ef 3 he_21 (u2 rfl s3_20)
   have s4_21 := ef 4 he_21 (u2 rfl s4_20)
   have s5_21 := ef 5 he_21 (u2 rfl s5_20)
   have s8_21 := ef 8 he_21 (u2 rfl s8_20)
   have s9_21 := ef 9 he_21 (u2 rfl s9_20)
   have s10_21 := ef 10 he_21 (u2 rfl s10_20)
   have s38_21 := ef 38 he_21 up_h
   clear he_21 s10_20 s3_20 s4_20 s5_20 s8_20 s9_20
   refine then_n ?_
   refine aw_case s38_21 (fun hq_22 => ?_) (fun hq_22 => ?_)
   · replace hq_22 := bt hq_22; exfalso; omega
   replace hq_22 := bf hq_22
   refine aw_skip ?_
   refine then_n ?_
   refine aw_seq ?_
   refine aw_seq ?_
   refine aw_draw 13 (by kernel_rfl) (by kernel_rfl) (by kernel_rfl) (by kernel_rfl) ?_
   refine ds_ro' (ro_move s10_21) trivial rfl ?_
   refine ds_ro' (ro_eql up_h ev_c) trivial rfl ?_
   refine ds_ro' (ro_move up_h) trivial rfl ?_
   refine ds_case up_h (fun hb_54 hq_54 => ?_) (fun hb_54 hq_54 => ?_)
   · replace hq_54 := bt hq_54; exfalso; omega
   replace hq_54 := bf hq_54
   refine ds_skip' ⟨_, rfl, .inl hb_54⟩ rfl ?_
   refine ds_skip' ⟨_, rfl, .inl (up_m rfl hb_54)⟩ rfl ?_
   refine ds_skip' ⟨_, rfl, .inl (u2 rfl hb_54)⟩ rfl ?_
   refine ds_skip' ⟨_, rfl, .inl (up_m rfl (u2 rfl hb_54))⟩ rfl ?_
   refine ds_skip' ⟨_, rfl, .inl (u4 rfl hb_54)⟩ rfl ?_
   refine ds_skip' ⟨_, rfl, .inl (up_m rfl (u4 rfl hb_54))⟩ rfl ?_
   refine ds_skip' ⟨_, rfl, .inl (u2 rfl (u4 rfl hb_54))⟩ rfl ?_
   refine ds_skip' ⟨_, rfl, .inl (up_m rfl (u2 rfl (u4 rfl hb_54)))⟩ rfl ?_
   refine ds_skip' ⟨_, rfl, .inl (u8 rfl hb_54)⟩ rfl ?_
   refine ds_ro' (ro_pickF (up_m rfl (u8 rfl hb_54)) ev_c) trivial rfl ?_
   refine ds_nil ?_
   refine al_end (fun e_74 he_74 => ?_)
   have s3_74 := ef 3 he_74 (up_m rfl (u4 rfl (u8 rfl s3_21)))
   have s4_74 := ef 4 he_74 (up_m rfl (u4 rfl (u8 rfl s4_21)))
   have s5_74 := ef 5 he_74 (up_m rfl (u4 rfl (u8 rfl s5_21)))
   have s8_74 := ef 8 he_74 (up_m rfl (u4 rfl (u8 rfl s8_21)))
   have s9_74 := ef 9 he_74 (up_m rfl (u4 rfl (u8 rfl s9_21)))
   have s10_74 := ef 10 he_74 (up_m rfl (u4 rfl (u8 rfl s10_21)))
   have s56_74 := ef 56 he_74 up_h
   clear he_74 hb_54 s10_21 s38_21 s3_21 s4_21 s5_21 s8_21 s9_21
   refine then_n ?_
   refine aw_false s56_74 ?_
   refine aw_skip ?_
   refine then_n ?_
   refine aw_seq ?_
   refine aw_seq ?_
   refine aw_text (by kernel_rfl) ?_
   refine al_ro' (ro_move s10_74) trivial rfl ?_
   refine al_ro' (ro_neq up_h ev_c) trivial rfl ?_
   refine al_end (fun e_76 he_76 => ?_)
   have s3_76 := ef 3 he_76 (u2 rfl s3_74)
   have s4_76 := ef 4 he_76 (u2 rfl s4_74)
   have s5_76 := ef 5 he_76 (u2 rfl s5_74)
   have s8_76 := ef 8 he_76 (u2 rfl s8_74)
   have s9_76 := ef 9 he_76 (u2 rfl s9_74)
   have s10_76 := ef 10 he_76 (u2 rfl s10_74)
   have s58_76 := ef 58 he_76 up_h
   clear he_76 s10_74 s3_74 s4_74 s56_74 s5_74 s8_74 s9_74
   refine then_n ?_
   refine aw_case s58_76 (fun hq_77 => ?_) (fun hq_77 => ?_)
   ·replace hq_77 := bnt hq_77
    refine aw_seq ?_
    refine aw_text (by kernel_rfl) ?_
    refine al_ro' (ro_move s9_76) trivial rfl ?_
    refine al_ro' (ro_move (up_m rfl s10_76)) trivial rfl ?_
    refine al_ro' (ro_eql (up_m rfl up_h) up_h) trivial rfl ?_
    refine al_ro' (ro_move up_h) trivial rfl ?_
    refine al_case up_h (fun hb_78 hq_78 => ?_) (fun hb_78 hq_78 => ?_)
    ·replace hq_78 := bt hq_78
     refine al_ro' (ro_eq (ro_ld_ptr y37_ty40 rfl mo3_12 (u4 rfl s8_76) (by exact Nat.le_of_ble_eq_true rfl)) (by simp only [packA_t, packA_f, iE, bE, setAt, cellsA, Value.cells, map_vc, map_vn, Nat.reduceAdd, qS] <;> rfl)) ⟨_, rfl, hb_78⟩ rfl ?_
     refine al_ro' (ro_build evP_nil y37_bz40 y37_bu40 y37_bp40 rfl) ⟨_, rfl, (up_m rfl hb_78)⟩ rfl ?_
     refine al_ro' (ro_sqeql (up_m rfl up_h) up_h rfl rfl y37_gq40 y37_sq40 (by decide)) ⟨_, rfl, (u2 rfl hb_78)⟩ rfl ?_
     refine al_ro' (ro_pickT (up_m rfl (u2 rfl hb_78)) up_h) trivial rfl ?_
     refine al_ro' (ro_assign up_h) trivial rfl ?_
     refine al_end (fun e_79 he_79 => ?_)
     have s6_79 := ef 6 he_79 up_h
     clear he_79 hb_78 s10_76 s3_76 s4_76 s58_76 s5_76 s8_76 s9_76
     refine then_n ?_
     refine aw_ret ?_
     refine then_r ?_
     refine ret1 (.inr rfl) (by kernel_rfl) (resV_tmp s6_79) (.ro _ rfl) ?_
     clear s6_79 mo3_12 mo2_12 mo1_12 mo0_12 ml_12
     first | rfl | simp_all
    · replace hq_78 := bf hq_78; exfalso; omega
   · replace hq_77 := bnf hq_77; exfalso; omega
  · replace hq_19 := bnf hq_19; exfalso; omega
set_option maxRecDepth 100000 in
set_option maxHeartbeats 4000000 in
theorem lineDeviations_veh (l : Lin) (hf : fewL l = true) (hg : (linM l).2 = 0) (L c s p j : Int) (hv : vehE L c s ≠ 0) : FnOk Try.prog 4 [lnA l, vehA L c s, .agg [mA p, mA j]] (fun q => q = tbA true) := by
  refine fnOk_of (fn := Try.f4) 80 (by kernel_rfl) rfl (by kernel_rfl) (Nat.le_of_ble_eq_true rfl) ?_
  intro e_0 m_0 hA hm_0
  have s0_0 : evA e_0 (.tmp 0) = _ := hA 0 _ rfl
  have s1_0 : evA e_0 (.tmp 1) = _ := hA 1 _ rfl
  have s2_0 : evA e_0 (.tmp 2) = _ := hA 2 _ rfl
  have ml_0 : m_0.length = 0 := by rw [hm_0]; rfl
  clear hA hm_0
  have hl := fewL_sho hf; have hr := rgt_of hg; have hn0 := hr.n0; have hn1 := hr.n1; have hjs := hr.js
  refine aw_seq ?_
  refine aw_text (by kernel_rfl) ?_
  refine al_stm (st_box s0_0 rfl ml_0) trivial rfl (fun m_1 hm_1 => ?_)
  have mo0_1 := m_push hm_1 ml_0
  have ml_1 := m_push_l hm_1 ml_0
  have ml_1 : _ = 1 := ml_1
  clear hm_1
  refine al_stm (st_box (up_m rfl s1_0) rfl ml_1) trivial rfl (fun m_2 hm_2 => ?_)
  have mo1_2 := m_push hm_2 ml_1
  have mo0_2 := m_push_o hm_2 mo0_1
  have ml_2 := m_push_l hm_2 ml_1
  have ml_2 : _ = 2 := ml_2
  clear hm_2 mo0_1
  refine al_stm (st_box (u2 rfl s2_0) rfl ml_2) trivial rfl (fun m_3 hm_3 => ?_)
  have mo2_3 := m_push hm_3 ml_2
  have mo1_3 := m_push_o hm_3 mo1_2
  have mo0_3 := m_push_o hm_3 mo0_2
  have ml_3 := m_push_l hm_3 ml_2
  have ml_3 : _ = 3 := ml_3
  clear hm_3 mo1_2 mo0_2
  refine al_ro' (ro_assign ev_c) trivial rfl ?_
  refine al_end (fun e_4 he_4 => ?_)
  have s3_4 := ef 3 he_4 (up_m rfl (u2 rfl up_h))
  have s4_4 := ef 4 he_4 (u2 rfl up_h)
  have s5_4 := ef 5 he_4 (up_m rfl up_h)
  clear he_4 s0_0 s1_0 s2_0
  refine then_n ?_
  refine aw_seq ?_
  refine aw_seq ?_
  refine aw_text (by kernel_rfl) ?_
  refine al_ro' (ro_call evL_nil rfl (awake_ok) y37_hcf13) trivial rfl ?_
  refine al_ro' (ro_not up_h) trivial rfl ?_
  refine al_end (fun e_5 he_5 => ?_)
  have s3_5 := ef 3 he_5 (u2 rfl s3_4)
  have s4_5 := ef 4 he_5 (u2 rfl s4_4)
  have s5_5 := ef 5 he_5 (u2 rfl s5_4)
  have s13_5 := ef 13 he_5 up_h
  clear he_5 s3_4 s4_4 s5_4
  refine then_n ?_
  refine aw_case s13_5 (fun hq_6 => ?_) (fun hq_6 => ?_)
  · cases hq_6
  replace hq_6 := bf' hq_6
  refine aw_skip ?_
  refine then_n ?_
  refine aw_seq ?_
  refine aw_seq ?_
  refine aw_text (by kernel_rfl) ?_
  refine al_ro' (ro_eq (ro_ld_ptr y37_ty26 rfl mo0_3 s3_5 (by exact Nat.le_of_ble_eq_true rfl)) (by simp only [packA_t, packA_f, iE, bE, setAt, cellsA, Value.cells, map_vc, map_vn, Nat.reduceAdd, qS] <;> rfl)) trivial rfl ?_
  refine al_ro' (ro_call (evL_cons up_h evL_nil) rfl ((fewL_ok l).mono (fun q h => h.trans (by rw [hf]))) y37_hcf14) trivial rfl ?_
  refine al_ro' (ro_not up_h) trivial rfl ?_
  refine al_end (fun e_7 he_7 => ?_)
  have s3_7 := ef 3 he_7 (up_m rfl (u2 rfl s3_5))
  have s4_7 := ef 4 he_7 (up_m rfl (u2 rfl s4_5))
  have s5_7 := ef 5 he_7 (up_m rfl (u2 rfl s5_5))
  have s16_7 := ef 16 he_7 up_h
  clear he_7 s13_5 s3_5 s4_5 s5_5
  refine then_n ?_
  refine aw_case s16_7 (fun hq_8 => ?_) (fun hq_8 => ?_)
  · cases hq_8
  replace hq_8 := bf' hq_8
  refine aw_skip ?_
  refine then_n ?_
  refine aw_seq ?_
  refine aw_text (by kernel_rfl) ?_
  refine al_ro' (ro_eq (ro_ld_ptr y37_ty52 rfl mo1_3 s4_7 (by exact Nat.le_of_ble_eq_true rfl)) (by simp only [packA_t, packA_f, iE, bE, setAt, cellsA, Value.cells, map_vc, map_vn, Nat.reduceAdd, qS] <;> rfl)) trivial rfl ?_
  refine al_ro' (ro_call (evL_cons up_h evL_nil) rfl (checkVehicle_ok L c s) y37_hcf26) trivial rfl ?_
  refine al_ro' (ro_assign up_h) trivial rfl ?_
  refine al_end (fun e_9 he_9 => ?_)
  have s3_9 := ef 3 he_9 (up_m rfl (u2 rfl s3_7))
  have s4_9 := ef 4 he_9 (up_m rfl (u2 rfl s4_7))
  have s5_9 := ef 5 he_9 (up_m rfl (u2 rfl s5_7))
  have s7_9 := ef 7 he_9 up_h
  clear he_9 s16_7 s3_7 s4_7 s5_7
  refine then_n ?_
  refine aw_seq ?_
  refine aw_drawK 10 1 ml_3 (by kernel_rfl) (by kernel_rfl) (by kernel_rfl) (by kernel_rfl) (fun m_10 hm_10 => ?_)
  have mo2_10 := m_room_o hm_10 mo2_3
  have mo1_10 := m_room_o hm_10 mo1_3
  have mo0_10 := m_room_o hm_10 mo0_3
  have mo3_10 : m_10[3]? = _ := m_room_g hm_10 ml_3 0 rfl rfl
  have ml_10 : _ = 4 := m_room_l (K := 1) hm_10 ml_3
  clear hm_10 mo2_3 mo1_3 mo0_3 ml_3
  refine dh_ld (0) (fun M_ hM_ => (ro_eq (ro_ld_ptr y37_ty26 rfl (agr hM_ mo0_10 (by simp)) s3_9 (by exact Nat.le_of_ble_eq_true rfl)) (by simp only [packA_t, packA_f, iE, bE, setAt, cellsA, Value.cells, map_vc, map_vn, Nat.reduceAdd, qS] <;> rfl))) trivial trivial ?_
  refine dh_ro (fun M_ hM_ => (ro_call (evL_cons up_h evL_nil) rfl (yCopy_ok l hl) y37_hcf17)) trivial ?_
  refine dh_ld (1) (fun M_ hM_ => (ro_eq (ro_ld_ptr y37_ty52 rfl (agr hM_ mo1_10 (by simp)) (u2 rfl s4_9) (by exact Nat.le_of_ble_eq_true rfl)) (by simp only [packA_t, packA_f, iE, bE, setAt, cellsA, Value.cells, map_vc, map_vn, Nat.reduceAdd, qS] <;> rfl))) trivial trivial ?_
  refine dh_ld (2) (fun M_ hM_ => (ro_ld_all y37_ty53 (agr hM_ mo2_10 (by simp)) (up_m rfl (u2 rfl s5_9)) (by first | rfl | (rw [flat_map_len (k := 1)] <;> first | omega | (intro _; rfl))))) trivial trivial ?_
  refine dh_ro (fun M_ hM_ => (ro_call (evL_cons (u2 rfl up_h) (evL_cons (up_m rfl up_h) (evL_cons up_h evL_nil))) rfl (deviationAt_veh l hl hg L c s p j hv) y37_hcf27)) trivial ?_
  refine dh_ro (fun M_ hM_ => (ro_move up_h)) trivial ?_
  refine dh_ro (fun M_ hM_ => (ro_extract up_h rfl)) trivial ?_
  refine dh_ro (fun M_ hM_ => (ro_extract (up_m rfl up_h) rfl)) trivial ?_
  refine dh_nw (3) (fun M_ hM_ => (nw_alloc y37_az40 rfl)) trivial mo3_10 rfl trivial ⟨.inl (by simp <;> omega), ⟨.inl (by simp <;> omega), ⟨.inl (by simp <;> omega), trivial⟩⟩⟩ (fun m_11 hm_11 => ?_)
  have mo3_11 := m_set hm_11 mo3_10
  simp only [packA_t, packA_f, iE, bE, setAt, cellsA, Value.cells, map_vc, map_vn, Nat.reduceAdd, qS] at mo3_11
  have mo2_11 := m_set_o hm_11 mo2_10 (by decide)
  have mo1_11 := m_set_o hm_11 mo1_10 (by decide)
  have mo0_11 := m_set_o hm_11 mo0_10 (by decide)
  have ml_11 := m_set_l hm_11 ml_10
  clear hm_11 mo2_10 mo1_10 mo0_10 mo3_10
  refine dh_set (3) (fun M_ hM_ => (se_store up_h (u2 rfl up_h) rfl rfl (agr hM_ mo3_11 (by simp)) y37_sz40 rfl (by exact Nat.le_of_ble_eq_true rfl))) trivial ⟨.inr (wt_one 9 8 (by kernel_rfl)), trivial⟩ ⟨.inl (by simp <;> omega), ⟨.inl (by simp <;> omega), ⟨.inl (by simp <;> omega), ⟨.inr (wt_one 9 8 (by kernel_rfl)), trivial⟩⟩⟩⟩ (fun m_12 hm_12 => ?_)
  have mo3_12 := m_set hm_12 mo3_11
  simp only [packA_t, packA_f, iE, bE, setAt, cellsA, Value.cells, map_vc, map_vn, Nat.reduceAdd, qS] at mo3_12
  have mo2_12 := m_set_o hm_12 mo2_11 (by decide)
  have mo1_12 := m_set_o hm_12 mo1_11 (by decide)
  have mo0_12 := m_set_o hm_12 mo0_11 (by decide)
  have ml_12 := m_set_l hm_12 ml_11
  clear hm_12 mo3_11 mo2_11 mo1_11 mo0_11
  refine dh_nil rfl ?_
  refine al_ro' (ro_assign (up_n (up_m rfl up_h))) trivial rfl ?_
  refine al_end (fun e_13 he_13 => ?_)
  have s3_13 := ef 3 he_13 (up_m rfl (up_n (up_m rfl (u8 rfl s3_9))))
  have s4_13 := ef 4 he_13 (up_m rfl (up_n (up_m rfl (u8 rfl s4_9))))
  have s5_13 := ef 5 he_13 (up_m rfl (up_n (up_m rfl (u8 rfl s5_9))))
  have s7_13 := ef 7 he_13 (up_m rfl (up_n (up_m rfl (u8 rfl s7_9))))
  have s8_13 := ef 8 he_13 (up_m rfl (up_n up_h))
  have s9_13 := ef 9 he_13 up_h
  clear he_13 s3_9 s4_9 s5_9 s7_9
  refine then_n ?_
  refine aw_seq ?_
  refine aw_text (by kernel_rfl) ?_
  refine al_ro' (ro_eq (ro_ld_ptr y37_ty52 rfl mo1_12 s4_13 (by exact Nat.le_of_ble_eq_true rfl)) (by simp only [packA_t, packA_f, iE, bE, setAt, cellsA, Value.cells, map_vc, map_vn, Nat.reduceAdd, qS] <;> rfl)) trivial rfl ?_
  refine al_ro' (ro_call (evL_cons up_h evL_nil) rfl (rVehicleErr_ok L c s) y37_hcf28) trivial rfl ?_
  refine al_ro' (ro_assign up_h) trivial rfl ?_
  refine al_end (fun e_14 he_14 => ?_)
  have s3_14 := ef 3 he_14 (up_m rfl (u2 rfl s3_13))
  have s4_14 := ef 4 he_14 (up_m rfl (u2 rfl s4_13))
  have s5_14 := ef 5 he_14 (up_m rfl (u2 rfl s5_13))
  have s7_14 := ef 7 he_14 (up_m rfl (u2 rfl s7_13))
  have s8_14 := ef 8 he_14 (up_m rfl (u2 rfl s8_13))
  have s9_14 := ef 9 he_14 (up_m rfl (u2 rfl s9_13))
  have s10_14 := ef 10 he_14 up_h
  clear he_14 s3_13 s4_13 s5_13 s7_13 s8_13 s9_13
  refine then_n ?_
  refine aw_seq ?_
  refine aw_seq ?_
  refine aw_text (by kernel_rfl) ?_
  refine al_ro' (ro_move s7_14) trivial rfl ?_
  refine al_ro' (ro_move (up_m rfl s10_14)) trivial rfl ?_
  refine al_ro' (ro_neq (up_m rfl up_h) up_h) trivial rfl ?_
  refine al_end (fun e_15 he_15 => ?_)
  have s3_15 := ef 3 he_15 (up_m rfl (u2 rfl s3_14))
  have s4_15 := ef 4 he_15 (up_m rfl (u2 rfl s4_14))
  have s5_15 := ef 5 he_15 (up_m rfl (u2 rfl s5_14))
  have s8_15 := ef 8 he_15 (up_m rfl (u2 rfl s8_14))
  have s9_15 := ef 9 he_15 (up_m rfl (u2 rfl s9_14))
  have s10_15 := ef 10 he_15 (up_m rfl (u2 rfl s10_14))
  have s31_15 := ef 31 he_15 up_h
  clear he_15 s10_14 s3_14 s4_14 s5_14 s7_14 s8_14 s9_14
  refine then_n ?_
  refine aw_case s31_15 (fun hq_16 => ?_) (fun hq_16 => ?_)
  · replace hq_16 := bnt hq_16; exfalso; omega
  replace hq_16 := bnf hq_16
  refine aw_skip ?_
  refine then_n ?_
  refine aw_seq ?_
  refine aw_seq ?_
  refine aw_text (by kernel_rfl) ?_
  refine al_ro' (ro_eq (ro_ld_ptr y37_ty26 rfl mo0_12 s3_15 (by exact Nat.le_of_ble_eq_true rfl)) (by simp only [packA_t, packA_f, iE, bE, setAt, cellsA, Value.cells, map_vc, map_vn, Nat.reduceAdd, qS] <;> rfl)) trivial rfl ?_
  refine al_ro' (ro_call (evL_cons up_h evL_nil) rfl (lineErr_ok l hl) y37_hcf15) trivial rfl ?_
  refine al_ro' (ro_assign up_h) trivial rfl ?_
  refine al_end (fun e_17 he_17 => ?_)
  have s3_17 := ef 3 he_17 (up_m rfl (u2 rfl s3_15))
  have s4_17 := ef 4 he_17 (up_m rfl (u2 rfl s4_15))
  have s5_17 := ef 5 he_17 (up_m rfl (u2 rfl s5_15))
  have s8_17 := ef 8 he_17 (up_m rfl (u2 rfl s8_15))
  have s9_17 := ef 9 he_17 (up_m rfl (u2 rfl s9_15))
  have s10_17 := ef 10 he_17 (up_m rfl (u2 rfl s10_15))
  have s11_17 := ef 11 he_17 up_h
  clear he_17 s10_15 s31_15 s3_15 s4_15 s5_15 s8_15 s9_15
  refine then_n ?_
  refine aw_seq ?_
  refine aw_text (by kernel_rfl) ?_
  refine al_ro' (ro_move s11_17) trivial rfl ?_
  refine al_ro' (ro_neq up_h ev_c) trivial rfl ?_
  refine al_end (fun e_18 he_18 => ?_)
  have s3_18 := ef 3 he_18 (u2 rfl s3_17)
  have s4_18 := ef 4 he_18 (u2 rfl s4_17)
  have s5_18 := ef 5 he_18 (u2 rfl s5_17)
  have s8_18 := ef 8 he_18 (u2 rfl s8_17)
  have s9_18 := ef 9 he_18 (u2 rfl s9_17)
  have s10_18 := ef 10 he_18 (u2 rfl s10_17)
  have s11_18 := ef 11 he_18 (u2 rfl s11_17)
  have s35_18 := ef 35 he_18 up_h
  clear he_18 s10_17 s11_17 s3_17 s4_17 s5_17 s8_17 s9_17
  refine then_n ?_
  refine aw_case s35_18 (fun hq_19 => ?_) (fun hq_19 => ?_)
  · replace hq_19 := bnt hq_19; exfalso; omega
  replace hq_19 := bnf hq_19
  refine aw_skip ?_
  refine then_n ?_
  refine aw_seq ?_
  refine aw_seq ?_
  refine aw_text (by kernel_rfl) ?_
  refine al_ro' (ro_move s10_18) trivial rfl ?_
  refine al_ro' (ro_eql up_h ev_c) trivial rfl ?_
  refine al_end (fun e_20 he_20 => ?_)
  have s3_20 := ef 3 he_20 (u2 rfl s3_18)
  have s4_20 := ef 4 he_20 (u2 rfl s4_18)
  have s5_20 := ef 5 he_20 (u2 rfl s5_18)
  have s8_20 := ef 8 he_20 (u2 rfl s8_18)
  have s9_20 := ef 9 he_20 (u2 rfl s9_18)
  have s10_20 := ef 10 he_20 (u2 rfl s10_18)
  have s38_20 := ef 38 he_20 up_h
  clear he_20 s10_18 s11_18 s35_18 s3_18 s4_18 s5_18 s8_18 s9_18
  refine then_n ?_
  refine aw_case s38_20 (fun hq_21 => ?_) (fun hq_21 => ?_)
  · replace hq_21 := bt hq_21; exfalso; omega
  replace hq_21 := bf hq_21
  refine aw_skip ?_
  refine then_n ?_
  refine aw_seq ?_
  refine aw_seq ?_
  refine aw_draw 13 (by kernel_rfl) (by kernel_rfl) (by kernel_rfl) (by kernel_rfl) ?_
  refine ds_ro' (ro_move s10_20) trivial rfl ?_
  refine ds_ro' (ro_eql up_h ev_c) trivial rfl ?_
  refine ds_ro' (ro_move up_h) trivial rfl ?_
  refine ds_case up_h (fun hb_53 hq_53 => ?_) (fun hb_53 hq_53 => ?_)
  · replace hq_53 := bt hq_53; exfalso; omega
  replace hq_53 := bf hq_53
  refine ds_skip' ⟨_, rfl, .inl hb_53⟩ rfl ?_
  refine ds_skip' ⟨_, rfl, .inl (up_m rfl hb_53)⟩ rfl ?_
  refine ds_skip' ⟨_, rfl, .inl (u2 rfl hb_53)⟩ rfl ?_
  refine ds_skip' ⟨_, rfl, .inl (up_m rfl (u2 rfl hb_53))⟩ rfl ?_
  refine ds_skip' ⟨_, rfl, .inl (u4 rfl hb_53)⟩ rfl ?_
  refine ds_skip' ⟨_, rfl, .inl (up_m rfl (u4 rfl hb_53))⟩ rfl ?_
  refine ds_skip' ⟨_, rfl, .inl (u2 rfl (u4 rfl hb_53))⟩ rfl ?_
  refine ds_skip' ⟨_, rfl, .inl (up_m rfl (u2 rfl (u4 rfl hb_53)))⟩ rfl ?_
  refine ds_skip' ⟨_, rfl, .inl (u8 rfl hb_53)⟩ rfl ?_
  refine ds_ro' (ro_pickF (up_m rfl (u8 rfl hb_53)) ev_c) trivial rfl ?_
  refine ds_nil ?_
  refine al_end (fun e_73 he_73 => ?_)
  have s3_73 := ef 3 he_73 (up_m rfl (u4 rfl (u8 rfl s3_20)))
  have s4_73 := ef 4 he_73 (up_m rfl (u4 rfl (u8 rfl s4_20)))
  have s5_73 := ef 5 he_73 (up_m rfl (u4 rfl (u8 rfl s5_20)))
  have s8_73 := ef 8 he_73 (up_m rfl (u4 rfl (u8 rfl s8_20)))
  have s9_73 := ef 9 he_73 (up_m rfl (u4 rfl (u8 rfl s9_20)))
  have s10_73 := ef 10 he_73 (up_m rfl (u4 rfl (u8 rfl s10_20)))
  have s56_73 := ef 56 he_73 up_h
  clear he_73 hb_53 s10_20 s38_20 s3_20 s4_20 s5_20 s8_20 s9_20
  refine then_n ?_
  refine aw_false s56_73 ?_
  refine aw_skip ?_
  refine then_n ?_
  refine aw_seq ?_
  refine aw_seq ?_
  refine aw_text (by kernel_rfl) ?_
  refine al_ro' (ro_move s10_73) trivial rfl ?_
  refine al_ro' (ro_neq up_h ev_c) trivial rfl ?_
  refine al_end (fun e_75 he_75 => ?_)
  have s3_75 := ef 3 he_75 (u2 rfl s3_73)
  have s4_75 := ef 4 he_75 (u2 rfl s4_73)
  have s5_75 := ef 5 he_75 (u2 rfl s5_73)
  have s8_75 := ef 8 he_75 (u2 rfl s8_73)
  have s9_75 := ef 9 he_75 (u2 rfl s9_73)
  have s10_75 := ef 10 he_75 (u2 rfl s10_73)
  have s58_75 := ef 58 he_75 up_h
  clear he_75 s10_73 s3_73 s4_73 s56_73 s5_73 s8_73 s9_73
  refine then_n ?_
  refine aw_case s58_75 (fun hq_76 => ?_) (fun hq_76 => ?_)
  ·replace hq_76 := bnt hq_76
   refine aw_seq ?_
   refine aw_text (by kernel_rfl) ?_
   refine al_ro' (ro_move s9_75) trivial rfl ?_
   refine al_ro' (ro_move (up_m rfl s10_75)) trivial rfl ?_
   refine al_ro' (ro_eql (up_m rfl up_h) up_h) trivial rfl ?_
   refine al_ro' (ro_move up_h) trivial rfl ?_
   refine al_case up_h (fun hb_77 hq_77 => ?_) (fun hb_77 hq_77 => ?_)
   ·replace hq_77 := bt hq_77
    refine al_ro' (ro_eq (ro_ld_ptr y37_ty40 rfl mo3_12 (u4 rfl s8_75) (by exact Nat.le_of_ble_eq_true rfl)) (by simp only [packA_t, packA_f, iE, bE, setAt, cellsA, Value.cells, map_vc, map_vn, Nat.reduceAdd, qS] <;> rfl)) ⟨_, rfl, hb_77⟩ rfl ?_
    refine al_ro' (ro_build evP_nil y37_bz40 y37_bu40 y37_bp40 rfl) ⟨_, rfl, (up_m rfl hb_77)⟩ rfl ?_
    refine al_ro' (ro_sqeql (up_m rfl up_h) up_h rfl rfl y37_gq40 y37_sq40 (by decide)) ⟨_, rfl, (u2 rfl hb_77)⟩ rfl ?_
    refine al_ro' (ro_pickT (up_m rfl (u2 rfl hb_77)) up_h) trivial rfl ?_
    refine al_ro' (ro_assign up_h) trivial rfl ?_
    refine al_end (fun e_78 he_78 => ?_)
    have s6_78 := ef 6 he_78 up_h
    clear he_78 hb_77 s10_75 s3_75 s4_75 s58_75 s5_75 s8_75 s9_75
    refine then_n ?_
    refine aw_ret ?_
    refine then_r ?_
    refine ret1 (.inr rfl) (by kernel_rfl) (resV_tmp s6_78) (.ro _ rfl) ?_
    clear s6_78 mo3_12 mo2_12 mo1_12 mo0_12 ml_12
    first | rfl | simp_all
   · replace hq_77 := bf hq_77; exfalso; omega
  · replace hq_76 := bnf hq_76; exfalso; omega
set_option maxRecDepth 100000 in
set_option maxHeartbeats 4000000 in
theorem lineDeviations_pos (l : Lin) (hf : fewL l = true) (hg : (linM l).2 = 0) (L c s p j : Int) (hv : vehE L c s = 0) (hp : posE l L s p ≠ 0) : FnOk Try.prog 4 [lnA l, vehA L c s, .agg [mA p, mA j]] (fun q => q = tbA true) := by
  refine fnOk_of (fn := Try.f4) 80 (by kernel_rfl) rfl (by kernel_rfl) (Nat.le_of_ble_eq_true rfl) ?_
  intro e_0 m_0 hA hm_0
  have s0_0 : evA e_0 (.tmp 0) = _ := hA 0 _ rfl
  have s1_0 : evA e_0 (.tmp 1) = _ := hA 1 _ rfl
  have s2_0 : evA e_0 (.tmp 2) = _ := hA 2 _ rfl
  have ml_0 : m_0.length = 0 := by rw [hm_0]; rfl
  clear hA hm_0
  have hl := fewL_sho hf; have hr := rgt_of hg; have hn0 := hr.n0; have hn1 := hr.n1; have hjs := hr.js; have hv2 := vehE_z.1 hv; have hpb := hr.pla (n := l.bs.length) (Nat.le_refl _)
  refine aw_seq ?_
  refine aw_text (by kernel_rfl) ?_
  refine al_stm (st_box s0_0 rfl ml_0) trivial rfl (fun m_1 hm_1 => ?_)
  have mo0_1 := m_push hm_1 ml_0
  have ml_1 := m_push_l hm_1 ml_0
  have ml_1 : _ = 1 := ml_1
  clear hm_1
  refine al_stm (st_box (up_m rfl s1_0) rfl ml_1) trivial rfl (fun m_2 hm_2 => ?_)
  have mo1_2 := m_push hm_2 ml_1
  have mo0_2 := m_push_o hm_2 mo0_1
  have ml_2 := m_push_l hm_2 ml_1
  have ml_2 : _ = 2 := ml_2
  clear hm_2 mo0_1
  refine al_stm (st_box (u2 rfl s2_0) rfl ml_2) trivial rfl (fun m_3 hm_3 => ?_)
  have mo2_3 := m_push hm_3 ml_2
  have mo1_3 := m_push_o hm_3 mo1_2
  have mo0_3 := m_push_o hm_3 mo0_2
  have ml_3 := m_push_l hm_3 ml_2
  have ml_3 : _ = 3 := ml_3
  clear hm_3 mo1_2 mo0_2
  refine al_ro' (ro_assign ev_c) trivial rfl ?_
  refine al_end (fun e_4 he_4 => ?_)
  have s3_4 := ef 3 he_4 (up_m rfl (u2 rfl up_h))
  have s4_4 := ef 4 he_4 (u2 rfl up_h)
  have s5_4 := ef 5 he_4 (up_m rfl up_h)
  clear he_4 s0_0 s1_0 s2_0
  refine then_n ?_
  refine aw_seq ?_
  refine aw_seq ?_
  refine aw_text (by kernel_rfl) ?_
  refine al_ro' (ro_call evL_nil rfl (awake_ok) y37_hcf13) trivial rfl ?_
  refine al_ro' (ro_not up_h) trivial rfl ?_
  refine al_end (fun e_5 he_5 => ?_)
  have s3_5 := ef 3 he_5 (u2 rfl s3_4)
  have s4_5 := ef 4 he_5 (u2 rfl s4_4)
  have s5_5 := ef 5 he_5 (u2 rfl s5_4)
  have s13_5 := ef 13 he_5 up_h
  clear he_5 s3_4 s4_4 s5_4
  refine then_n ?_
  refine aw_case s13_5 (fun hq_6 => ?_) (fun hq_6 => ?_)
  · cases hq_6
  replace hq_6 := bf' hq_6
  refine aw_skip ?_
  refine then_n ?_
  refine aw_seq ?_
  refine aw_seq ?_
  refine aw_text (by kernel_rfl) ?_
  refine al_ro' (ro_eq (ro_ld_ptr y37_ty26 rfl mo0_3 s3_5 (by exact Nat.le_of_ble_eq_true rfl)) (by simp only [packA_t, packA_f, iE, bE, setAt, cellsA, Value.cells, map_vc, map_vn, Nat.reduceAdd, qS] <;> rfl)) trivial rfl ?_
  refine al_ro' (ro_call (evL_cons up_h evL_nil) rfl ((fewL_ok l).mono (fun q h => h.trans (by rw [hf]))) y37_hcf14) trivial rfl ?_
  refine al_ro' (ro_not up_h) trivial rfl ?_
  refine al_end (fun e_7 he_7 => ?_)
  have s3_7 := ef 3 he_7 (up_m rfl (u2 rfl s3_5))
  have s4_7 := ef 4 he_7 (up_m rfl (u2 rfl s4_5))
  have s5_7 := ef 5 he_7 (up_m rfl (u2 rfl s5_5))
  have s16_7 := ef 16 he_7 up_h
  clear he_7 s13_5 s3_5 s4_5 s5_5
  refine then_n ?_
  refine aw_case s16_7 (fun hq_8 => ?_) (fun hq_8 => ?_)
  · cases hq_8
  replace hq_8 := bf' hq_8
  refine aw_skip ?_
  refine then_n ?_
  refine aw_seq ?_
  refine aw_text (by kernel_rfl) ?_
  refine al_ro' (ro_eq (ro_ld_ptr y37_ty52 rfl mo1_3 s4_7 (by exact Nat.le_of_ble_eq_true rfl)) (by simp only [packA_t, packA_f, iE, bE, setAt, cellsA, Value.cells, map_vc, map_vn, Nat.reduceAdd, qS] <;> rfl)) trivial rfl ?_
  refine al_ro' (ro_call (evL_cons up_h evL_nil) rfl (checkVehicle_ok L c s) y37_hcf26) trivial rfl ?_
  refine al_ro' (ro_assign up_h) trivial rfl ?_
  refine al_end (fun e_9 he_9 => ?_)
  have s3_9 := ef 3 he_9 (up_m rfl (u2 rfl s3_7))
  have s4_9 := ef 4 he_9 (up_m rfl (u2 rfl s4_7))
  have s5_9 := ef 5 he_9 (up_m rfl (u2 rfl s5_7))
  have s7_9 := ef 7 he_9 up_h
  clear he_9 s16_7 s3_7 s4_7 s5_7
  refine then_n ?_
  refine aw_seq ?_
  refine aw_drawK 10 1 ml_3 (by kernel_rfl) (by kernel_rfl) (by kernel_rfl) (by kernel_rfl) (fun m_10 hm_10 => ?_)
  have mo2_10 := m_room_o hm_10 mo2_3
  have mo1_10 := m_room_o hm_10 mo1_3
  have mo0_10 := m_room_o hm_10 mo0_3
  have mo3_10 : m_10[3]? = _ := m_room_g hm_10 ml_3 0 rfl rfl
  have ml_10 : _ = 4 := m_room_l (K := 1) hm_10 ml_3
  clear hm_10 mo2_3 mo1_3 mo0_3 ml_3
  refine dh_ld (0) (fun M_ hM_ => (ro_eq (ro_ld_ptr y37_ty26 rfl (agr hM_ mo0_10 (by simp)) s3_9 (by exact Nat.le_of_ble_eq_true rfl)) (by simp only [packA_t, packA_f, iE, bE, setAt, cellsA, Value.cells, map_vc, map_vn, Nat.reduceAdd, qS] <;> rfl))) trivial trivial ?_
  refine dh_ro (fun M_ hM_ => (ro_call (evL_cons up_h evL_nil) rfl (yCopy_ok l hl) y37_hcf17)) trivial ?_
  refine dh_ld (1) (fun M_ hM_ => (ro_eq (ro_ld_ptr y37_ty52 rfl (agr hM_ mo1_10 (by simp)) (u2 rfl s4_9) (by exact Nat.le_of_ble_eq_true rfl)) (by simp only [packA_t, packA_f, iE, bE, setAt, cellsA, Value.cells, map_vc, map_vn, Nat.reduceAdd, qS] <;> rfl))) trivial trivial ?_
  refine dh_ld (2) (fun M_ hM_ => (ro_ld_all y37_ty53 (agr hM_ mo2_10 (by simp)) (up_m rfl (u2 rfl s5_9)) (by first | rfl | (rw [flat_map_len (k := 1)] <;> first | omega | (intro _; rfl))))) trivial trivial ?_
  refine dh_ro (fun M_ hM_ => (ro_call (evL_cons (u2 rfl up_h) (evL_cons (up_m rfl up_h) (evL_cons up_h evL_nil))) rfl (deviationAt_pos l hl hg L c s p j hv hp) y37_hcf27)) trivial ?_
  refine dh_ro (fun M_ hM_ => (ro_move up_h)) trivial ?_
  refine dh_ro (fun M_ hM_ => (ro_extract up_h rfl)) trivial ?_
  refine dh_ro (fun M_ hM_ => (ro_extract (up_m rfl up_h) rfl)) trivial ?_
  refine dh_nw (3) (fun M_ hM_ => (nw_alloc y37_az40 rfl)) trivial mo3_10 rfl trivial ⟨.inl (by simp <;> omega), ⟨.inl (by simp <;> omega), ⟨.inl (by simp <;> omega), trivial⟩⟩⟩ (fun m_11 hm_11 => ?_)
  have mo3_11 := m_set hm_11 mo3_10
  simp only [packA_t, packA_f, iE, bE, setAt, cellsA, Value.cells, map_vc, map_vn, Nat.reduceAdd, qS] at mo3_11
  have mo2_11 := m_set_o hm_11 mo2_10 (by decide)
  have mo1_11 := m_set_o hm_11 mo1_10 (by decide)
  have mo0_11 := m_set_o hm_11 mo0_10 (by decide)
  have ml_11 := m_set_l hm_11 ml_10
  clear hm_11 mo2_10 mo1_10 mo0_10 mo3_10
  refine dh_set (3) (fun M_ hM_ => (se_store up_h (u2 rfl up_h) rfl rfl (agr hM_ mo3_11 (by simp)) y37_sz40 rfl (by exact Nat.le_of_ble_eq_true rfl))) trivial ⟨.inr (wt_one 9 8 (by kernel_rfl)), trivial⟩ ⟨.inl (by simp <;> omega), ⟨.inl (by simp <;> omega), ⟨.inl (by simp <;> omega), ⟨.inr (wt_one 9 8 (by kernel_rfl)), trivial⟩⟩⟩⟩ (fun m_12 hm_12 => ?_)
  have mo3_12 := m_set hm_12 mo3_11
  simp only [packA_t, packA_f, iE, bE, setAt, cellsA, Value.cells, map_vc, map_vn, Nat.reduceAdd, qS] at mo3_12
  have mo2_12 := m_set_o hm_12 mo2_11 (by decide)
  have mo1_12 := m_set_o hm_12 mo1_11 (by decide)
  have mo0_12 := m_set_o hm_12 mo0_11 (by decide)
  have ml_12 := m_set_l hm_12 ml_11
  clear hm_12 mo3_11 mo2_11 mo1_11 mo0_11
  refine dh_nil rfl ?_
  refine al_ro' (ro_assign (up_n (up_m rfl up_h))) trivial rfl ?_
  refine al_end (fun e_13 he_13 => ?_)
  have s3_13 := ef 3 he_13 (up_m rfl (up_n (up_m rfl (u8 rfl s3_9))))
  have s4_13 := ef 4 he_13 (up_m rfl (up_n (up_m rfl (u8 rfl s4_9))))
  have s5_13 := ef 5 he_13 (up_m rfl (up_n (up_m rfl (u8 rfl s5_9))))
  have s7_13 := ef 7 he_13 (up_m rfl (up_n (up_m rfl (u8 rfl s7_9))))
  have s8_13 := ef 8 he_13 (up_m rfl (up_n up_h))
  have s9_13 := ef 9 he_13 up_h
  clear he_13 s3_9 s4_9 s5_9 s7_9
  refine then_n ?_
  refine aw_seq ?_
  refine aw_text (by kernel_rfl) ?_
  refine al_ro' (ro_eq (ro_ld_ptr y37_ty52 rfl mo1_12 s4_13 (by exact Nat.le_of_ble_eq_true rfl)) (by simp only [packA_t, packA_f, iE, bE, setAt, cellsA, Value.cells, map_vc, map_vn, Nat.reduceAdd, qS] <;> rfl)) trivial rfl ?_
  refine al_ro' (ro_call (evL_cons up_h evL_nil) rfl (rVehicleErr_ok L c s) y37_hcf28) trivial rfl ?_
  refine al_ro' (ro_assign up_h) trivial rfl ?_
  refine al_end (fun e_14 he_14 => ?_)
  have s3_14 := ef 3 he_14 (up_m rfl (u2 rfl s3_13))
  have s4_14 := ef 4 he_14 (up_m rfl (u2 rfl s4_13))
  have s5_14 := ef 5 he_14 (up_m rfl (u2 rfl s5_13))
  have s7_14 := ef 7 he_14 (up_m rfl (u2 rfl s7_13))
  have s8_14 := ef 8 he_14 (up_m rfl (u2 rfl s8_13))
  have s9_14 := ef 9 he_14 (up_m rfl (u2 rfl s9_13))
  have s10_14 := ef 10 he_14 up_h
  clear he_14 s3_13 s4_13 s5_13 s7_13 s8_13 s9_13
  refine then_n ?_
  refine aw_seq ?_
  refine aw_seq ?_
  refine aw_text (by kernel_rfl) ?_
  refine al_ro' (ro_move s7_14) trivial rfl ?_
  refine al_ro' (ro_move (up_m rfl s10_14)) trivial rfl ?_
  refine al_ro' (ro_neq (up_m rfl up_h) up_h) trivial rfl ?_
  refine al_end (fun e_15 he_15 => ?_)
  have s3_15 := ef 3 he_15 (up_m rfl (u2 rfl s3_14))
  have s4_15 := ef 4 he_15 (up_m rfl (u2 rfl s4_14))
  have s5_15 := ef 5 he_15 (up_m rfl (u2 rfl s5_14))
  have s8_15 := ef 8 he_15 (up_m rfl (u2 rfl s8_14))
  have s9_15 := ef 9 he_15 (up_m rfl (u2 rfl s9_14))
  have s10_15 := ef 10 he_15 (up_m rfl (u2 rfl s10_14))
  have s31_15 := ef 31 he_15 up_h
  clear he_15 s10_14 s3_14 s4_14 s5_14 s7_14 s8_14 s9_14
  refine then_n ?_
  refine aw_case s31_15 (fun hq_16 => ?_) (fun hq_16 => ?_)
  · replace hq_16 := bnt hq_16; exfalso; omega
  replace hq_16 := bnf hq_16
  refine aw_skip ?_
  refine then_n ?_
  refine aw_seq ?_
  refine aw_seq ?_
  refine aw_text (by kernel_rfl) ?_
  refine al_ro' (ro_eq (ro_ld_ptr y37_ty26 rfl mo0_12 s3_15 (by exact Nat.le_of_ble_eq_true rfl)) (by simp only [packA_t, packA_f, iE, bE, setAt, cellsA, Value.cells, map_vc, map_vn, Nat.reduceAdd, qS] <;> rfl)) trivial rfl ?_
  refine al_ro' (ro_call (evL_cons up_h evL_nil) rfl (lineErr_ok l hl) y37_hcf15) trivial rfl ?_
  refine al_ro' (ro_assign up_h) trivial rfl ?_
  refine al_end (fun e_17 he_17 => ?_)
  have s3_17 := ef 3 he_17 (up_m rfl (u2 rfl s3_15))
  have s4_17 := ef 4 he_17 (up_m rfl (u2 rfl s4_15))
  have s5_17 := ef 5 he_17 (up_m rfl (u2 rfl s5_15))
  have s8_17 := ef 8 he_17 (up_m rfl (u2 rfl s8_15))
  have s9_17 := ef 9 he_17 (up_m rfl (u2 rfl s9_15))
  have s10_17 := ef 10 he_17 (up_m rfl (u2 rfl s10_15))
  have s11_17 := ef 11 he_17 up_h
  clear he_17 s10_15 s31_15 s3_15 s4_15 s5_15 s8_15 s9_15
  refine then_n ?_
  refine aw_seq ?_
  refine aw_text (by kernel_rfl) ?_
  refine al_ro' (ro_move s11_17) trivial rfl ?_
  refine al_ro' (ro_neq up_h ev_c) trivial rfl ?_
  refine al_end (fun e_18 he_18 => ?_)
  have s3_18 := ef 3 he_18 (u2 rfl s3_17)
  have s4_18 := ef 4 he_18 (u2 rfl s4_17)
  have s5_18 := ef 5 he_18 (u2 rfl s5_17)
  have s8_18 := ef 8 he_18 (u2 rfl s8_17)
  have s9_18 := ef 9 he_18 (u2 rfl s9_17)
  have s10_18 := ef 10 he_18 (u2 rfl s10_17)
  have s11_18 := ef 11 he_18 (u2 rfl s11_17)
  have s35_18 := ef 35 he_18 up_h
  clear he_18 s10_17 s11_17 s3_17 s4_17 s5_17 s8_17 s9_17
  refine then_n ?_
  refine aw_case s35_18 (fun hq_19 => ?_) (fun hq_19 => ?_)
  · replace hq_19 := bnt hq_19; exfalso; omega
  replace hq_19 := bnf hq_19
  refine aw_skip ?_
  refine then_n ?_
  refine aw_seq ?_
  refine aw_seq ?_
  refine aw_text (by kernel_rfl) ?_
  refine al_ro' (ro_move s10_18) trivial rfl ?_
  refine al_ro' (ro_eql up_h ev_c) trivial rfl ?_
  refine al_end (fun e_20 he_20 => ?_)
  have s3_20 := ef 3 he_20 (u2 rfl s3_18)
  have s4_20 := ef 4 he_20 (u2 rfl s4_18)
  have s5_20 := ef 5 he_20 (u2 rfl s5_18)
  have s8_20 := ef 8 he_20 (u2 rfl s8_18)
  have s9_20 := ef 9 he_20 (u2 rfl s9_18)
  have s10_20 := ef 10 he_20 (u2 rfl s10_18)
  have s38_20 := ef 38 he_20 up_h
  clear he_20 s10_18 s11_18 s35_18 s3_18 s4_18 s5_18 s8_18 s9_18
  refine then_n ?_
  refine aw_case s38_20 (fun hq_21 => ?_) (fun hq_21 => ?_)
  ·replace hq_21 := bt hq_21
   refine aw_text (by kernel_rfl) ?_
   refine al_ro' (ro_eq (ro_ld_ptr y37_ty26 rfl mo0_12 s3_20 (by exact Nat.le_of_ble_eq_true rfl)) (by simp only [packA_t, packA_f, iE, bE, setAt, cellsA, Value.cells, map_vc, map_vn, Nat.reduceAdd, qS] <;> rfl)) trivial rfl ?_
   refine al_ro' (ro_eq (ro_ld_ptr y37_ty52 rfl mo1_12 (up_m rfl s4_20) (by exact Nat.le_of_ble_eq_true rfl)) (by simp only [packA_t, packA_f, iE, bE, setAt, cellsA, Value.cells, map_vc, map_vn, Nat.reduceAdd, qS] <;> rfl)) trivial rfl ?_
   refine al_ro' (ro_ixa y37_ar53 (u2 rfl s5_20) ev_c rfl) trivial rfl ?_
   refine al_ro' (ro_eq (ro_ld_ptr y37_ty3 rfl mo2_12 up_h (by exact Nat.le_of_ble_eq_true rfl)) (by simp only [packA_t, packA_f, iE, bE, setAt, cellsA, Value.cells, map_vc, map_vn, Nat.reduceAdd, qS] <;> rfl)) trivial rfl ?_
   refine al_ro' (ro_call (evL_cons (up_m rfl (u2 rfl up_h)) (evL_cons (u2 rfl up_h) (evL_cons up_h evL_nil))) rfl (rPoseErr_ok l hr L c s p (by omega) (by omega)) y37_hcf29) trivial rfl ?_
   refine al_ro' (ro_assign up_h) trivial rfl ?_
   refine al_end (fun e_22 he_22 => ?_)
   have s3_22 := ef 3 he_22 (u2 rfl (u4 rfl s3_20))
   have s4_22 := ef 4 he_22 (u2 rfl (u4 rfl s4_20))
   have s5_22 := ef 5 he_22 (u2 rfl (u4 rfl s5_20))
   have s8_22 := ef 8 he_22 (u2 rfl (u4 rfl s8_20))
   have s9_22 := ef 9 he_22 (u2 rfl (u4 rfl s9_20))
   have s10_22 := ef 10 he_22 up_h
   clear he_22 s10_20 s38_20 s3_20 s4_20 s5_20 s8_20 s9_20
   refine then_n ?_
   refine aw_seq ?_
   refine aw_seq ?_
   refine aw_draw 13 (by kernel_rfl) (by kernel_rfl) (by kernel_rfl) (by kernel_rfl) ?_
   refine ds_ro' (ro_move s10_22) trivial rfl ?_
   refine ds_ro' (ro_eql up_h ev_c) trivial rfl ?_
   refine ds_ro' (ro_move up_h) trivial rfl ?_
   refine ds_case up_h (fun hb_23 hq_23 => ?_) (fun hb_23 hq_23 => ?_)
   · replace hq_23 := bt hq_23; exfalso; omega
   replace hq_23 := bf hq_23
   refine ds_skip' ⟨_, rfl, .inl hb_23⟩ rfl ?_
   refine ds_skip' ⟨_, rfl, .inl (up_m rfl hb_23)⟩ rfl ?_
   refine ds_skip' ⟨_, rfl, .inl (u2 rfl hb_23)⟩ rfl ?_
   refine ds_skip' ⟨_, rfl, .inl (up_m rfl (u2 rfl hb_23))⟩ rfl ?_
   refine ds_skip' ⟨_, rfl, .inl (u4 rfl hb_23)⟩ rfl ?_
   refine ds_skip' ⟨_, rfl, .inl (up_m rfl (u4 rfl hb_23))⟩ rfl ?_
   refine ds_skip' ⟨_, rfl, .inl (u2 rfl (u4 rfl hb_23))⟩ rfl ?_
   refine ds_skip' ⟨_, rfl, .inl (up_m rfl (u2 rfl (u4 rfl hb_23)))⟩ rfl ?_
   refine ds_skip' ⟨_, rfl, .inl (u8 rfl hb_23)⟩ rfl ?_
   refine ds_ro' (ro_pickF (up_m rfl (u8 rfl hb_23)) ev_c) trivial rfl ?_
   refine ds_nil ?_
   refine al_end (fun e_43 he_43 => ?_)
   have s3_43 := ef 3 he_43 (up_m rfl (u4 rfl (u8 rfl s3_22)))
   have s4_43 := ef 4 he_43 (up_m rfl (u4 rfl (u8 rfl s4_22)))
   have s5_43 := ef 5 he_43 (up_m rfl (u4 rfl (u8 rfl s5_22)))
   have s8_43 := ef 8 he_43 (up_m rfl (u4 rfl (u8 rfl s8_22)))
   have s9_43 := ef 9 he_43 (up_m rfl (u4 rfl (u8 rfl s9_22)))
   have s10_43 := ef 10 he_43 (up_m rfl (u4 rfl (u8 rfl s10_22)))
   have s56_43 := ef 56 he_43 up_h
   clear he_43 hb_23 s10_22 s3_22 s4_22 s5_22 s8_22 s9_22
   refine then_n ?_
   refine aw_false s56_43 ?_
   refine aw_skip ?_
   refine then_n ?_
   refine aw_seq ?_
   refine aw_seq ?_
   refine aw_text (by kernel_rfl) ?_
   refine al_ro' (ro_move s10_43) trivial rfl ?_
   refine al_ro' (ro_neq up_h ev_c) trivial rfl ?_
   refine al_end (fun e_45 he_45 => ?_)
   have s3_45 := ef 3 he_45 (u2 rfl s3_43)
   have s4_45 := ef 4 he_45 (u2 rfl s4_43)
   have s5_45 := ef 5 he_45 (u2 rfl s5_43)
   have s8_45 := ef 8 he_45 (u2 rfl s8_43)
   have s9_45 := ef 9 he_45 (u2 rfl s9_43)
   have s10_45 := ef 10 he_45 (u2 rfl s10_43)
   have s58_45 := ef 58 he_45 up_h
   clear he_45 s10_43 s3_43 s4_43 s56_43 s5_43 s8_43 s9_43
   refine then_n ?_
   refine aw_case s58_45 (fun hq_46 => ?_) (fun hq_46 => ?_)
   ·replace hq_46 := bnt hq_46
    refine aw_seq ?_
    refine aw_text (by kernel_rfl) ?_
    refine al_ro' (ro_move s9_45) trivial rfl ?_
    refine al_ro' (ro_move (up_m rfl s10_45)) trivial rfl ?_
    refine al_ro' (ro_eql (up_m rfl up_h) up_h) trivial rfl ?_
    refine al_ro' (ro_move up_h) trivial rfl ?_
    refine al_case up_h (fun hb_47 hq_47 => ?_) (fun hb_47 hq_47 => ?_)
    ·replace hq_47 := bt hq_47
     refine al_ro' (ro_eq (ro_ld_ptr y37_ty40 rfl mo3_12 (u4 rfl s8_45) (by exact Nat.le_of_ble_eq_true rfl)) (by simp only [packA_t, packA_f, iE, bE, setAt, cellsA, Value.cells, map_vc, map_vn, Nat.reduceAdd, qS] <;> rfl)) ⟨_, rfl, hb_47⟩ rfl ?_
     refine al_ro' (ro_build evP_nil y37_bz40 y37_bu40 y37_bp40 rfl) ⟨_, rfl, (up_m rfl hb_47)⟩ rfl ?_
     refine al_ro' (ro_sqeql (up_m rfl up_h) up_h rfl rfl y37_gq40 y37_sq40 (by decide)) ⟨_, rfl, (u2 rfl hb_47)⟩ rfl ?_
     refine al_ro' (ro_pickT (up_m rfl (u2 rfl hb_47)) up_h) trivial rfl ?_
     refine al_ro' (ro_assign up_h) trivial rfl ?_
     refine al_end (fun e_48 he_48 => ?_)
     have s6_48 := ef 6 he_48 up_h
     clear he_48 hb_47 s10_45 s3_45 s4_45 s58_45 s5_45 s8_45 s9_45
     refine then_n ?_
     refine aw_ret ?_
     refine then_r ?_
     refine ret1 (.inr rfl) (by kernel_rfl) (resV_tmp s6_48) (.ro _ rfl) ?_
     clear s6_48 mo3_12 mo2_12 mo1_12 mo0_12 ml_12
     first | rfl | simp_all
    · replace hq_47 := bf hq_47; exfalso; omega
   · replace hq_46 := bnf hq_46; exfalso; omega
  · replace hq_21 := bf hq_21; exfalso; omega
set_option maxRecDepth 100000 in
set_option maxHeartbeats 4000000 in
theorem lineDeviations_out (l : Lin) (hf : fewL l = true) (hg : (linM l).2 = 0) (L c s p j : Int) (hv : vehE L c s = 0) (hp : posE l L s p = 0) (hb : benI l L p j = false) : FnOk Try.prog 4 [lnA l, vehA L c s, .agg [mA p, mA j]] (fun q => q = tbA true) := by
  refine fnOk_of (fn := Try.f4) 80 (by kernel_rfl) rfl (by kernel_rfl) (Nat.le_of_ble_eq_true rfl) ?_
  intro e_0 m_0 hA hm_0
  have s0_0 : evA e_0 (.tmp 0) = _ := hA 0 _ rfl
  have s1_0 : evA e_0 (.tmp 1) = _ := hA 1 _ rfl
  have s2_0 : evA e_0 (.tmp 2) = _ := hA 2 _ rfl
  have ml_0 : m_0.length = 0 := by rw [hm_0]; rfl
  clear hA hm_0
  have hl := fewL_sho hf; have hr := rgt_of hg; have hn0 := hr.n0; have hn1 := hr.n1; have hjs := hr.js; have hv2 := vehE_z.1 hv; have hpb := hr.pla (n := l.bs.length) (Nat.le_refl _); have hp2 := posE_z.1 hp
  refine aw_seq ?_
  refine aw_text (by kernel_rfl) ?_
  refine al_stm (st_box s0_0 rfl ml_0) trivial rfl (fun m_1 hm_1 => ?_)
  have mo0_1 := m_push hm_1 ml_0
  have ml_1 := m_push_l hm_1 ml_0
  have ml_1 : _ = 1 := ml_1
  clear hm_1
  refine al_stm (st_box (up_m rfl s1_0) rfl ml_1) trivial rfl (fun m_2 hm_2 => ?_)
  have mo1_2 := m_push hm_2 ml_1
  have mo0_2 := m_push_o hm_2 mo0_1
  have ml_2 := m_push_l hm_2 ml_1
  have ml_2 : _ = 2 := ml_2
  clear hm_2 mo0_1
  refine al_stm (st_box (u2 rfl s2_0) rfl ml_2) trivial rfl (fun m_3 hm_3 => ?_)
  have mo2_3 := m_push hm_3 ml_2
  have mo1_3 := m_push_o hm_3 mo1_2
  have mo0_3 := m_push_o hm_3 mo0_2
  have ml_3 := m_push_l hm_3 ml_2
  have ml_3 : _ = 3 := ml_3
  clear hm_3 mo1_2 mo0_2
  refine al_ro' (ro_assign ev_c) trivial rfl ?_
  refine al_end (fun e_4 he_4 => ?_)
  have s3_4 := ef 3 he_4 (up_m rfl (u2 rfl up_h))
  have s4_4 := ef 4 he_4 (u2 rfl up_h)
  have s5_4 := ef 5 he_4 (up_m rfl up_h)
  clear he_4 s0_0 s1_0 s2_0
  refine then_n ?_
  refine aw_seq ?_
  refine aw_seq ?_
  refine aw_text (by kernel_rfl) ?_
  refine al_ro' (ro_call evL_nil rfl (awake_ok) y37_hcf13) trivial rfl ?_
  refine al_ro' (ro_not up_h) trivial rfl ?_
  refine al_end (fun e_5 he_5 => ?_)
  have s3_5 := ef 3 he_5 (u2 rfl s3_4)
  have s4_5 := ef 4 he_5 (u2 rfl s4_4)
  have s5_5 := ef 5 he_5 (u2 rfl s5_4)
  have s13_5 := ef 13 he_5 up_h
  clear he_5 s3_4 s4_4 s5_4
  refine then_n ?_
  refine aw_case s13_5 (fun hq_6 => ?_) (fun hq_6 => ?_)
  · cases hq_6
  replace hq_6 := bf' hq_6
  refine aw_skip ?_
  refine then_n ?_
  refine aw_seq ?_
  refine aw_seq ?_
  refine aw_text (by kernel_rfl) ?_
  refine al_ro' (ro_eq (ro_ld_ptr y37_ty26 rfl mo0_3 s3_5 (by exact Nat.le_of_ble_eq_true rfl)) (by simp only [packA_t, packA_f, iE, bE, setAt, cellsA, Value.cells, map_vc, map_vn, Nat.reduceAdd, qS] <;> rfl)) trivial rfl ?_
  refine al_ro' (ro_call (evL_cons up_h evL_nil) rfl ((fewL_ok l).mono (fun q h => h.trans (by rw [hf]))) y37_hcf14) trivial rfl ?_
  refine al_ro' (ro_not up_h) trivial rfl ?_
  refine al_end (fun e_7 he_7 => ?_)
  have s3_7 := ef 3 he_7 (up_m rfl (u2 rfl s3_5))
  have s4_7 := ef 4 he_7 (up_m rfl (u2 rfl s4_5))
  have s5_7 := ef 5 he_7 (up_m rfl (u2 rfl s5_5))
  have s16_7 := ef 16 he_7 up_h
  clear he_7 s13_5 s3_5 s4_5 s5_5
  refine then_n ?_
  refine aw_case s16_7 (fun hq_8 => ?_) (fun hq_8 => ?_)
  · cases hq_8
  replace hq_8 := bf' hq_8
  refine aw_skip ?_
  refine then_n ?_
  refine aw_seq ?_
  refine aw_text (by kernel_rfl) ?_
  refine al_ro' (ro_eq (ro_ld_ptr y37_ty52 rfl mo1_3 s4_7 (by exact Nat.le_of_ble_eq_true rfl)) (by simp only [packA_t, packA_f, iE, bE, setAt, cellsA, Value.cells, map_vc, map_vn, Nat.reduceAdd, qS] <;> rfl)) trivial rfl ?_
  refine al_ro' (ro_call (evL_cons up_h evL_nil) rfl (checkVehicle_ok L c s) y37_hcf26) trivial rfl ?_
  refine al_ro' (ro_assign up_h) trivial rfl ?_
  refine al_end (fun e_9 he_9 => ?_)
  have s3_9 := ef 3 he_9 (up_m rfl (u2 rfl s3_7))
  have s4_9 := ef 4 he_9 (up_m rfl (u2 rfl s4_7))
  have s5_9 := ef 5 he_9 (up_m rfl (u2 rfl s5_7))
  have s7_9 := ef 7 he_9 up_h
  clear he_9 s16_7 s3_7 s4_7 s5_7
  refine then_n ?_
  refine aw_seq ?_
  refine aw_drawK 10 1 ml_3 (by kernel_rfl) (by kernel_rfl) (by kernel_rfl) (by kernel_rfl) (fun m_10 hm_10 => ?_)
  have mo2_10 := m_room_o hm_10 mo2_3
  have mo1_10 := m_room_o hm_10 mo1_3
  have mo0_10 := m_room_o hm_10 mo0_3
  have mo3_10 : m_10[3]? = _ := m_room_g hm_10 ml_3 0 rfl rfl
  have ml_10 : _ = 4 := m_room_l (K := 1) hm_10 ml_3
  clear hm_10 mo2_3 mo1_3 mo0_3 ml_3
  refine dh_ld (0) (fun M_ hM_ => (ro_eq (ro_ld_ptr y37_ty26 rfl (agr hM_ mo0_10 (by simp)) s3_9 (by exact Nat.le_of_ble_eq_true rfl)) (by simp only [packA_t, packA_f, iE, bE, setAt, cellsA, Value.cells, map_vc, map_vn, Nat.reduceAdd, qS] <;> rfl))) trivial trivial ?_
  refine dh_ro (fun M_ hM_ => (ro_call (evL_cons up_h evL_nil) rfl (yCopy_ok l hl) y37_hcf17)) trivial ?_
  refine dh_ld (1) (fun M_ hM_ => (ro_eq (ro_ld_ptr y37_ty52 rfl (agr hM_ mo1_10 (by simp)) (u2 rfl s4_9) (by exact Nat.le_of_ble_eq_true rfl)) (by simp only [packA_t, packA_f, iE, bE, setAt, cellsA, Value.cells, map_vc, map_vn, Nat.reduceAdd, qS] <;> rfl))) trivial trivial ?_
  refine dh_ld (2) (fun M_ hM_ => (ro_ld_all y37_ty53 (agr hM_ mo2_10 (by simp)) (up_m rfl (u2 rfl s5_9)) (by first | rfl | (rw [flat_map_len (k := 1)] <;> first | omega | (intro _; rfl))))) trivial trivial ?_
  refine dh_ro (fun M_ hM_ => (ro_call (evL_cons (u2 rfl up_h) (evL_cons (up_m rfl up_h) (evL_cons up_h evL_nil))) rfl (deviationAt_out l hl hg L c s p j hv hp hb) y37_hcf27)) trivial ?_
  refine dh_ro (fun M_ hM_ => (ro_move up_h)) trivial ?_
  refine dh_ro (fun M_ hM_ => (ro_extract up_h rfl)) trivial ?_
  refine dh_ro (fun M_ hM_ => (ro_extract (up_m rfl up_h) rfl)) trivial ?_
  refine dh_nw (3) (fun M_ hM_ => (nw_alloc y37_az40 rfl)) trivial mo3_10 rfl trivial ⟨.inl (by simp <;> omega), ⟨.inl (by simp <;> omega), ⟨.inl (by simp <;> omega), trivial⟩⟩⟩ (fun m_11 hm_11 => ?_)
  have mo3_11 := m_set hm_11 mo3_10
  simp only [packA_t, packA_f, iE, bE, setAt, cellsA, Value.cells, map_vc, map_vn, Nat.reduceAdd, qS] at mo3_11
  have mo2_11 := m_set_o hm_11 mo2_10 (by decide)
  have mo1_11 := m_set_o hm_11 mo1_10 (by decide)
  have mo0_11 := m_set_o hm_11 mo0_10 (by decide)
  have ml_11 := m_set_l hm_11 ml_10
  clear hm_11 mo2_10 mo1_10 mo0_10 mo3_10
  refine dh_set (3) (fun M_ hM_ => (se_store up_h (u2 rfl up_h) rfl rfl (agr hM_ mo3_11 (by simp)) y37_sz40 rfl (by exact Nat.le_of_ble_eq_true rfl))) trivial ⟨.inr (wt_one 9 8 (by kernel_rfl)), trivial⟩ ⟨.inl (by simp <;> omega), ⟨.inl (by simp <;> omega), ⟨.inl (by simp <;> omega), ⟨.inr (wt_one 9 8 (by kernel_rfl)), trivial⟩⟩⟩⟩ (fun m_12 hm_12 => ?_)
  have mo3_12 := m_set hm_12 mo3_11
  simp only [packA_t, packA_f, iE, bE, setAt, cellsA, Value.cells, map_vc, map_vn, Nat.reduceAdd, qS] at mo3_12
  have mo2_12 := m_set_o hm_12 mo2_11 (by decide)
  have mo1_12 := m_set_o hm_12 mo1_11 (by decide)
  have mo0_12 := m_set_o hm_12 mo0_11 (by decide)
  have ml_12 := m_set_l hm_12 ml_11
  clear hm_12 mo3_11 mo2_11 mo1_11 mo0_11
  refine dh_nil rfl ?_
  refine al_ro' (ro_assign (up_n (up_m rfl up_h))) trivial rfl ?_
  refine al_end (fun e_13 he_13 => ?_)
  have s3_13 := ef 3 he_13 (up_m rfl (up_n (up_m rfl (u8 rfl s3_9))))
  have s4_13 := ef 4 he_13 (up_m rfl (up_n (up_m rfl (u8 rfl s4_9))))
  have s5_13 := ef 5 he_13 (up_m rfl (up_n (up_m rfl (u8 rfl s5_9))))
  have s7_13 := ef 7 he_13 (up_m rfl (up_n (up_m rfl (u8 rfl s7_9))))
  have s8_13 := ef 8 he_13 (up_m rfl (up_n up_h))
  have s9_13 := ef 9 he_13 up_h
  clear he_13 s3_9 s4_9 s5_9 s7_9
  refine then_n ?_
  refine aw_seq ?_
  refine aw_text (by kernel_rfl) ?_
  refine al_ro' (ro_eq (ro_ld_ptr y37_ty52 rfl mo1_12 s4_13 (by exact Nat.le_of_ble_eq_true rfl)) (by simp only [packA_t, packA_f, iE, bE, setAt, cellsA, Value.cells, map_vc, map_vn, Nat.reduceAdd, qS] <;> rfl)) trivial rfl ?_
  refine al_ro' (ro_call (evL_cons up_h evL_nil) rfl (rVehicleErr_ok L c s) y37_hcf28) trivial rfl ?_
  refine al_ro' (ro_assign up_h) trivial rfl ?_
  refine al_end (fun e_14 he_14 => ?_)
  have s3_14 := ef 3 he_14 (up_m rfl (u2 rfl s3_13))
  have s4_14 := ef 4 he_14 (up_m rfl (u2 rfl s4_13))
  have s5_14 := ef 5 he_14 (up_m rfl (u2 rfl s5_13))
  have s7_14 := ef 7 he_14 (up_m rfl (u2 rfl s7_13))
  have s8_14 := ef 8 he_14 (up_m rfl (u2 rfl s8_13))
  have s9_14 := ef 9 he_14 (up_m rfl (u2 rfl s9_13))
  have s10_14 := ef 10 he_14 up_h
  clear he_14 s3_13 s4_13 s5_13 s7_13 s8_13 s9_13
  refine then_n ?_
  refine aw_seq ?_
  refine aw_seq ?_
  refine aw_text (by kernel_rfl) ?_
  refine al_ro' (ro_move s7_14) trivial rfl ?_
  refine al_ro' (ro_move (up_m rfl s10_14)) trivial rfl ?_
  refine al_ro' (ro_neq (up_m rfl up_h) up_h) trivial rfl ?_
  refine al_end (fun e_15 he_15 => ?_)
  have s3_15 := ef 3 he_15 (up_m rfl (u2 rfl s3_14))
  have s4_15 := ef 4 he_15 (up_m rfl (u2 rfl s4_14))
  have s5_15 := ef 5 he_15 (up_m rfl (u2 rfl s5_14))
  have s8_15 := ef 8 he_15 (up_m rfl (u2 rfl s8_14))
  have s9_15 := ef 9 he_15 (up_m rfl (u2 rfl s9_14))
  have s10_15 := ef 10 he_15 (up_m rfl (u2 rfl s10_14))
  have s31_15 := ef 31 he_15 up_h
  clear he_15 s10_14 s3_14 s4_14 s5_14 s7_14 s8_14 s9_14
  refine then_n ?_
  refine aw_case s31_15 (fun hq_16 => ?_) (fun hq_16 => ?_)
  · replace hq_16 := bnt hq_16; exfalso; omega
  replace hq_16 := bnf hq_16
  refine aw_skip ?_
  refine then_n ?_
  refine aw_seq ?_
  refine aw_seq ?_
  refine aw_text (by kernel_rfl) ?_
  refine al_ro' (ro_eq (ro_ld_ptr y37_ty26 rfl mo0_12 s3_15 (by exact Nat.le_of_ble_eq_true rfl)) (by simp only [packA_t, packA_f, iE, bE, setAt, cellsA, Value.cells, map_vc, map_vn, Nat.reduceAdd, qS] <;> rfl)) trivial rfl ?_
  refine al_ro' (ro_call (evL_cons up_h evL_nil) rfl (lineErr_ok l hl) y37_hcf15) trivial rfl ?_
  refine al_ro' (ro_assign up_h) trivial rfl ?_
  refine al_end (fun e_17 he_17 => ?_)
  have s3_17 := ef 3 he_17 (up_m rfl (u2 rfl s3_15))
  have s4_17 := ef 4 he_17 (up_m rfl (u2 rfl s4_15))
  have s5_17 := ef 5 he_17 (up_m rfl (u2 rfl s5_15))
  have s8_17 := ef 8 he_17 (up_m rfl (u2 rfl s8_15))
  have s9_17 := ef 9 he_17 (up_m rfl (u2 rfl s9_15))
  have s10_17 := ef 10 he_17 (up_m rfl (u2 rfl s10_15))
  have s11_17 := ef 11 he_17 up_h
  clear he_17 s10_15 s31_15 s3_15 s4_15 s5_15 s8_15 s9_15
  refine then_n ?_
  refine aw_seq ?_
  refine aw_text (by kernel_rfl) ?_
  refine al_ro' (ro_move s11_17) trivial rfl ?_
  refine al_ro' (ro_neq up_h ev_c) trivial rfl ?_
  refine al_end (fun e_18 he_18 => ?_)
  have s3_18 := ef 3 he_18 (u2 rfl s3_17)
  have s4_18 := ef 4 he_18 (u2 rfl s4_17)
  have s5_18 := ef 5 he_18 (u2 rfl s5_17)
  have s8_18 := ef 8 he_18 (u2 rfl s8_17)
  have s9_18 := ef 9 he_18 (u2 rfl s9_17)
  have s10_18 := ef 10 he_18 (u2 rfl s10_17)
  have s11_18 := ef 11 he_18 (u2 rfl s11_17)
  have s35_18 := ef 35 he_18 up_h
  clear he_18 s10_17 s11_17 s3_17 s4_17 s5_17 s8_17 s9_17
  refine then_n ?_
  refine aw_case s35_18 (fun hq_19 => ?_) (fun hq_19 => ?_)
  · replace hq_19 := bnt hq_19; exfalso; omega
  replace hq_19 := bnf hq_19
  refine aw_skip ?_
  refine then_n ?_
  refine aw_seq ?_
  refine aw_seq ?_
  refine aw_text (by kernel_rfl) ?_
  refine al_ro' (ro_move s10_18) trivial rfl ?_
  refine al_ro' (ro_eql up_h ev_c) trivial rfl ?_
  refine al_end (fun e_20 he_20 => ?_)
  have s3_20 := ef 3 he_20 (u2 rfl s3_18)
  have s4_20 := ef 4 he_20 (u2 rfl s4_18)
  have s5_20 := ef 5 he_20 (u2 rfl s5_18)
  have s8_20 := ef 8 he_20 (u2 rfl s8_18)
  have s9_20 := ef 9 he_20 (u2 rfl s9_18)
  have s10_20 := ef 10 he_20 (u2 rfl s10_18)
  have s38_20 := ef 38 he_20 up_h
  clear he_20 s10_18 s11_18 s35_18 s3_18 s4_18 s5_18 s8_18 s9_18
  refine then_n ?_
  refine aw_case s38_20 (fun hq_21 => ?_) (fun hq_21 => ?_)
  ·replace hq_21 := bt hq_21
   refine aw_text (by kernel_rfl) ?_
   refine al_ro' (ro_eq (ro_ld_ptr y37_ty26 rfl mo0_12 s3_20 (by exact Nat.le_of_ble_eq_true rfl)) (by simp only [packA_t, packA_f, iE, bE, setAt, cellsA, Value.cells, map_vc, map_vn, Nat.reduceAdd, qS] <;> rfl)) trivial rfl ?_
   refine al_ro' (ro_eq (ro_ld_ptr y37_ty52 rfl mo1_12 (up_m rfl s4_20) (by exact Nat.le_of_ble_eq_true rfl)) (by simp only [packA_t, packA_f, iE, bE, setAt, cellsA, Value.cells, map_vc, map_vn, Nat.reduceAdd, qS] <;> rfl)) trivial rfl ?_
   refine al_ro' (ro_ixa y37_ar53 (u2 rfl s5_20) ev_c rfl) trivial rfl ?_
   refine al_ro' (ro_eq (ro_ld_ptr y37_ty3 rfl mo2_12 up_h (by exact Nat.le_of_ble_eq_true rfl)) (by simp only [packA_t, packA_f, iE, bE, setAt, cellsA, Value.cells, map_vc, map_vn, Nat.reduceAdd, qS] <;> rfl)) trivial rfl ?_
   refine al_ro' (ro_call (evL_cons (up_m rfl (u2 rfl up_h)) (evL_cons (u2 rfl up_h) (evL_cons up_h evL_nil))) rfl (rPoseErr_ok l hr L c s p (by omega) (by omega)) y37_hcf29) trivial rfl ?_
   refine al_ro' (ro_assign up_h) trivial rfl ?_
   refine al_end (fun e_22 he_22 => ?_)
   have s3_22 := ef 3 he_22 (u2 rfl (u4 rfl s3_20))
   have s4_22 := ef 4 he_22 (u2 rfl (u4 rfl s4_20))
   have s5_22 := ef 5 he_22 (u2 rfl (u4 rfl s5_20))
   have s8_22 := ef 8 he_22 (u2 rfl (u4 rfl s8_20))
   have s9_22 := ef 9 he_22 (u2 rfl (u4 rfl s9_20))
   have s10_22 := ef 10 he_22 up_h
   clear he_22 s10_20 s38_20 s3_20 s4_20 s5_20 s8_20 s9_20
   refine then_n ?_
   refine aw_seq ?_
   refine aw_seq ?_
   refine aw_draw 13 (by kernel_rfl) (by kernel_rfl) (by kernel_rfl) (by kernel_rfl) ?_
   refine ds_ro' (ro_move s10_22) trivial rfl ?_
   refine ds_ro' (ro_eql up_h ev_c) trivial rfl ?_
   refine ds_ro' (ro_move up_h) trivial rfl ?_
   refine ds_case up_h (fun hb_23 hq_23 => ?_) (fun hb_23 hq_23 => ?_)
   ·replace hq_23 := bt hq_23
    refine ds_ro' (ro_eq (ro_ld_ptr y37_ty26 rfl mo0_12 (up_m rfl (u2 rfl s3_22)) (by exact Nat.le_of_ble_eq_true rfl)) (by simp only [packA_t, packA_f, iE, bE, setAt, cellsA, Value.cells, map_vc, map_vn, Nat.reduceAdd, qS] <;> rfl)) ⟨_, rfl, hb_23⟩ rfl ?_
    refine ds_ro' (ro_eq (ro_ld_ptr y37_ty52 rfl mo1_12 (u4 rfl s4_22) (by exact Nat.le_of_ble_eq_true rfl)) (by simp only [packA_t, packA_f, iE, bE, setAt, cellsA, Value.cells, map_vc, map_vn, Nat.reduceAdd, qS] <;> rfl)) ⟨_, rfl, (up_m rfl hb_23)⟩ rfl ?_
    refine ds_ro' (ro_ixa y37_ar53 (up_m rfl (u4 rfl s5_22)) ev_c rfl) ⟨_, rfl, (u2 rfl hb_23)⟩ rfl ?_
    refine ds_ro' (ro_eq (ro_ld_ptr y37_ty3 rfl mo2_12 up_h (by exact Nat.le_of_ble_eq_true rfl)) (by simp only [packA_t, packA_f, iE, bE, setAt, cellsA, Value.cells, map_vc, map_vn, Nat.reduceAdd, qS] <;> rfl)) ⟨_, rfl, (up_m rfl (u2 rfl hb_23))⟩ rfl ?_
    refine ds_ro' (ro_call (evL_cons (up_m rfl (u2 rfl up_h)) (evL_cons (u2 rfl up_h) (evL_cons up_h evL_nil))) rfl (rBeneath_ok l hr L c s p (by omega) (by omega)) y37_hcf31) ⟨_, rfl, (u4 rfl hb_23)⟩ rfl ?_
    refine ds_ro' (ro_ixa y37_ar53 (u8 rfl s5_22) ev_c rfl) ⟨_, rfl, (up_m rfl (u4 rfl hb_23))⟩ rfl ?_
    refine ds_ro' (ro_eq (ro_ld_ptr y37_ty3 rfl mo2_12 up_h (by exact Nat.le_of_ble_eq_true rfl)) (by simp only [packA_t, packA_f, iE, bE, setAt, cellsA, Value.cells, map_vc, map_vn, Nat.reduceAdd, qS] <;> rfl)) ⟨_, rfl, (u2 rfl (u4 rfl hb_23))⟩ rfl ?_
    refine ds_ro' (ro_call (evL_cons (u2 rfl up_h) (evL_cons up_h evL_nil)) rfl ((has_ok (benP l L p l.js.length) j (by have := benP_len (l := l) (L := L) (p := p) (n := l.js.length); omega)).mono (fun q h => show q = tbA (benI l L p j) from h.trans (by rw [benP_has]))) y37_hcf30) ⟨_, rfl, (up_m rfl (u2 rfl (u4 rfl hb_23)))⟩ rfl ?_
    refine ds_ro' (ro_not up_h) ⟨_, rfl, (u8 rfl hb_23)⟩ rfl ?_
    refine ds_ro' (ro_pickT (up_m rfl (u8 rfl hb_23)) up_h) trivial rfl ?_
    refine ds_nil ?_
    refine al_end (fun e_24 he_24 => ?_)
    have s3_24 := ef 3 he_24 (up_m rfl (u4 rfl (u8 rfl s3_22)))
    have s4_24 := ef 4 he_24 (up_m rfl (u4 rfl (u8 rfl s4_22)))
    have s5_24 := ef 5 he_24 (up_m rfl (u4 rfl (u8 rfl s5_22)))
    have s8_24 := ef 8 he_24 (up_m rfl (u4 rfl (u8 rfl s8_22)))
    have s9_24 := ef 9 he_24 (up_m rfl (u4 rfl (u8 rfl s9_22)))
    have s10_24 := ef 10 he_24 (up_m rfl (u4 rfl (u8 rfl s10_22)))
    have s56_24 := ef 56 he_24 up_h
    clear he_24 hb_23 s10_22 s3_22 s4_22 s5_22 s8_22 s9_22
    refine then_n ?_
    refine aw_case s56_24 (fun hq_25 => ?_) (fun hq_25 => ?_)
    ·replace hq_25 := bt' hq_25
     refine aw_text (by kernel_rfl) ?_
     refine al_ro' (ro_assign ev_c) trivial rfl ?_
     refine al_end (fun e_26 he_26 => ?_)
     have s3_26 := ef 3 he_26 (up_m rfl s3_24)
     have s4_26 := ef 4 he_26 (up_m rfl s4_24)
     have s5_26 := ef 5 he_26 (up_m rfl s5_24)
     have s8_26 := ef 8 he_26 (up_m rfl s8_24)
     have s9_26 := ef 9 he_26 (up_m rfl s9_24)
     have s10_26 := ef 10 he_26 up_h
     clear he_26 s10_24 s3_24 s4_24 s56_24 s5_24 s8_24 s9_24
     refine then_n ?_
     refine aw_seq ?_
     refine aw_seq ?_
     refine aw_text (by kernel_rfl) ?_
     refine al_ro' (ro_move s10_26) trivial rfl ?_
     refine al_ro' (ro_neq up_h ev_c) trivial rfl ?_
     refine al_end (fun e_27 he_27 => ?_)
     have s3_27 := ef 3 he_27 (u2 rfl s3_26)
     have s4_27 := ef 4 he_27 (u2 rfl s4_26)
     have s5_27 := ef 5 he_27 (u2 rfl s5_26)
     have s8_27 := ef 8 he_27 (u2 rfl s8_26)
     have s9_27 := ef 9 he_27 (u2 rfl s9_26)
     have s10_27 := ef 10 he_27 (u2 rfl s10_26)
     have s58_27 := ef 58 he_27 up_h
     clear he_27 s10_26 s3_26 s4_26 s5_26 s8_26 s9_26
     refine then_n ?_
     refine aw_case s58_27 (fun hq_28 => ?_) (fun hq_28 => ?_)
     ·replace hq_28 := bnt hq_28
      refine aw_seq ?_
      refine aw_text (by kernel_rfl) ?_
      refine al_ro' (ro_move s9_27) trivial rfl ?_
      refine al_ro' (ro_move (up_m rfl s10_27)) trivial rfl ?_
      refine al_ro' (ro_eql (up_m rfl up_h) up_h) trivial rfl ?_
      refine al_ro' (ro_move up_h) trivial rfl ?_
      refine al_case up_h (fun hb_29 hq_29 => ?_) (fun hb_29 hq_29 => ?_)
      ·replace hq_29 := bt hq_29
       refine al_ro' (ro_eq (ro_ld_ptr y37_ty40 rfl mo3_12 (u4 rfl s8_27) (by exact Nat.le_of_ble_eq_true rfl)) (by simp only [packA_t, packA_f, iE, bE, setAt, cellsA, Value.cells, map_vc, map_vn, Nat.reduceAdd, qS] <;> rfl)) ⟨_, rfl, hb_29⟩ rfl ?_
       refine al_ro' (ro_build evP_nil y37_bz40 y37_bu40 y37_bp40 rfl) ⟨_, rfl, (up_m rfl hb_29)⟩ rfl ?_
       refine al_ro' (ro_sqeql (up_m rfl up_h) up_h rfl rfl y37_gq40 y37_sq40 (by decide)) ⟨_, rfl, (u2 rfl hb_29)⟩ rfl ?_
       refine al_ro' (ro_pickT (up_m rfl (u2 rfl hb_29)) up_h) trivial rfl ?_
       refine al_ro' (ro_assign up_h) trivial rfl ?_
       refine al_end (fun e_30 he_30 => ?_)
       have s6_30 := ef 6 he_30 up_h
       clear he_30 hb_29 s10_27 s3_27 s4_27 s58_27 s5_27 s8_27 s9_27
       refine then_n ?_
       refine aw_ret ?_
       refine then_r ?_
       refine ret1 (.inr rfl) (by kernel_rfl) (resV_tmp s6_30) (.ro _ rfl) ?_
       clear s6_30 mo3_12 mo2_12 mo1_12 mo0_12 ml_12
       first | rfl | simp_all
      · cases hq_29
     · cases hq_28
    · first | (simp at hq_25; done) | (exact absurd hg hq_25) | (exact absurd hq_25 hv) | (exact absurd hv hq_25) | (exact absurd (by simpa using hq_25) hv) | (exact absurd hv (by simpa using hq_25)) | (exact absurd hq_25 hp) | (exact absurd hp hq_25) | (exact absurd (by simpa using hq_25) hp) | (exact absurd hp (by simpa using hq_25)) | (rw [hb] at hq_25; simp at hq_25; done)
   · replace hq_23 := bf hq_23; exfalso; omega
  · replace hq_21 := bf hq_21; exfalso; omega
set_option maxRecDepth 100000 in
set_option maxHeartbeats 4000000 in
theorem lineDeviations_in (l : Lin) (hf : fewL l = true) (hg : (linM l).2 = 0) (L c s p j : Int) (hv : vehE L c s = 0) (hp : posE l L s p = 0) (hb : benI l L p j = true) : FnOk Try.prog 4 [lnA l, vehA L c s, .agg [mA p, mA j]] (fun q => q = tbA true) := by
  refine fnOk_of (fn := Try.f4) 80 (by kernel_rfl) rfl (by kernel_rfl) (Nat.le_of_ble_eq_true rfl) ?_
  intro e_0 m_0 hA hm_0
  have s0_0 : evA e_0 (.tmp 0) = _ := hA 0 _ rfl
  have s1_0 : evA e_0 (.tmp 1) = _ := hA 1 _ rfl
  have s2_0 : evA e_0 (.tmp 2) = _ := hA 2 _ rfl
  have ml_0 : m_0.length = 0 := by rw [hm_0]; rfl
  clear hA hm_0
  have hl := fewL_sho hf; have hr := rgt_of hg; have hn0 := hr.n0; have hn1 := hr.n1; have hjs := hr.js; have hv2 := vehE_z.1 hv; have hpb := hr.pla (n := l.bs.length) (Nat.le_refl _); have hp2 := posE_z.1 hp; obtain ⟨hj0, hq⟩ := pos_of hv hp hb; have rd := rDeviationAt_ok l hr L c s p j.toNat hq; rw [show ((j.toNat : Nat) : Int) = j by omega] at rd
  refine aw_seq ?_
  refine aw_text (by kernel_rfl) ?_
  refine al_stm (st_box s0_0 rfl ml_0) trivial rfl (fun m_1 hm_1 => ?_)
  have mo0_1 := m_push hm_1 ml_0
  have ml_1 := m_push_l hm_1 ml_0
  have ml_1 : _ = 1 := ml_1
  clear hm_1
  refine al_stm (st_box (up_m rfl s1_0) rfl ml_1) trivial rfl (fun m_2 hm_2 => ?_)
  have mo1_2 := m_push hm_2 ml_1
  have mo0_2 := m_push_o hm_2 mo0_1
  have ml_2 := m_push_l hm_2 ml_1
  have ml_2 : _ = 2 := ml_2
  clear hm_2 mo0_1
  refine al_stm (st_box (u2 rfl s2_0) rfl ml_2) trivial rfl (fun m_3 hm_3 => ?_)
  have mo2_3 := m_push hm_3 ml_2
  have mo1_3 := m_push_o hm_3 mo1_2
  have mo0_3 := m_push_o hm_3 mo0_2
  have ml_3 := m_push_l hm_3 ml_2
  have ml_3 : _ = 3 := ml_3
  clear hm_3 mo1_2 mo0_2
  refine al_ro' (ro_assign ev_c) trivial rfl ?_
  refine al_end (fun e_4 he_4 => ?_)
  have s3_4 := ef 3 he_4 (up_m rfl (u2 rfl up_h))
  have s4_4 := ef 4 he_4 (u2 rfl up_h)
  have s5_4 := ef 5 he_4 (up_m rfl up_h)
  clear he_4 s0_0 s1_0 s2_0
  refine then_n ?_
  refine aw_seq ?_
  refine aw_seq ?_
  refine aw_text (by kernel_rfl) ?_
  refine al_ro' (ro_call evL_nil rfl (awake_ok) y37_hcf13) trivial rfl ?_
  refine al_ro' (ro_not up_h) trivial rfl ?_
  refine al_end (fun e_5 he_5 => ?_)
  have s3_5 := ef 3 he_5 (u2 rfl s3_4)
  have s4_5 := ef 4 he_5 (u2 rfl s4_4)
  have s5_5 := ef 5 he_5 (u2 rfl s5_4)
  have s13_5 := ef 13 he_5 up_h
  clear he_5 s3_4 s4_4 s5_4
  refine then_n ?_
  refine aw_case s13_5 (fun hq_6 => ?_) (fun hq_6 => ?_)
  · cases hq_6
  replace hq_6 := bf' hq_6
  refine aw_skip ?_
  refine then_n ?_
  refine aw_seq ?_
  refine aw_seq ?_
  refine aw_text (by kernel_rfl) ?_
  refine al_ro' (ro_eq (ro_ld_ptr y37_ty26 rfl mo0_3 s3_5 (by exact Nat.le_of_ble_eq_true rfl)) (by simp only [packA_t, packA_f, iE, bE, setAt, cellsA, Value.cells, map_vc, map_vn, Nat.reduceAdd, qS] <;> rfl)) trivial rfl ?_
  refine al_ro' (ro_call (evL_cons up_h evL_nil) rfl ((fewL_ok l).mono (fun q h => h.trans (by rw [hf]))) y37_hcf14) trivial rfl ?_
  refine al_ro' (ro_not up_h) trivial rfl ?_
  refine al_end (fun e_7 he_7 => ?_)
  have s3_7 := ef 3 he_7 (up_m rfl (u2 rfl s3_5))
  have s4_7 := ef 4 he_7 (up_m rfl (u2 rfl s4_5))
  have s5_7 := ef 5 he_7 (up_m rfl (u2 rfl s5_5))
  have s16_7 := ef 16 he_7 up_h
  clear he_7 s13_5 s3_5 s4_5 s5_5
  refine then_n ?_
  refine aw_case s16_7 (fun hq_8 => ?_) (fun hq_8 => ?_)
  · cases hq_8
  replace hq_8 := bf' hq_8
  refine aw_skip ?_
  refine then_n ?_
  refine aw_seq ?_
  refine aw_text (by kernel_rfl) ?_
  refine al_ro' (ro_eq (ro_ld_ptr y37_ty52 rfl mo1_3 s4_7 (by exact Nat.le_of_ble_eq_true rfl)) (by simp only [packA_t, packA_f, iE, bE, setAt, cellsA, Value.cells, map_vc, map_vn, Nat.reduceAdd, qS] <;> rfl)) trivial rfl ?_
  refine al_ro' (ro_call (evL_cons up_h evL_nil) rfl (checkVehicle_ok L c s) y37_hcf26) trivial rfl ?_
  refine al_ro' (ro_assign up_h) trivial rfl ?_
  refine al_end (fun e_9 he_9 => ?_)
  have s3_9 := ef 3 he_9 (up_m rfl (u2 rfl s3_7))
  have s4_9 := ef 4 he_9 (up_m rfl (u2 rfl s4_7))
  have s5_9 := ef 5 he_9 (up_m rfl (u2 rfl s5_7))
  have s7_9 := ef 7 he_9 up_h
  clear he_9 s16_7 s3_7 s4_7 s5_7
  refine then_n ?_
  refine aw_seq ?_
  refine aw_drawK 10 1 ml_3 (by kernel_rfl) (by kernel_rfl) (by kernel_rfl) (by kernel_rfl) (fun m_10 hm_10 => ?_)
  have mo2_10 := m_room_o hm_10 mo2_3
  have mo1_10 := m_room_o hm_10 mo1_3
  have mo0_10 := m_room_o hm_10 mo0_3
  have mo3_10 : m_10[3]? = _ := m_room_g hm_10 ml_3 0 rfl rfl
  have ml_10 : _ = 4 := m_room_l (K := 1) hm_10 ml_3
  clear hm_10 mo2_3 mo1_3 mo0_3 ml_3
  refine dh_ld (0) (fun M_ hM_ => (ro_eq (ro_ld_ptr y37_ty26 rfl (agr hM_ mo0_10 (by simp)) s3_9 (by exact Nat.le_of_ble_eq_true rfl)) (by simp only [packA_t, packA_f, iE, bE, setAt, cellsA, Value.cells, map_vc, map_vn, Nat.reduceAdd, qS] <;> rfl))) trivial trivial ?_
  refine dh_ro (fun M_ hM_ => (ro_call (evL_cons up_h evL_nil) rfl (yCopy_ok l hl) y37_hcf17)) trivial ?_
  refine dh_ld (1) (fun M_ hM_ => (ro_eq (ro_ld_ptr y37_ty52 rfl (agr hM_ mo1_10 (by simp)) (u2 rfl s4_9) (by exact Nat.le_of_ble_eq_true rfl)) (by simp only [packA_t, packA_f, iE, bE, setAt, cellsA, Value.cells, map_vc, map_vn, Nat.reduceAdd, qS] <;> rfl))) trivial trivial ?_
  refine dh_ld (2) (fun M_ hM_ => (ro_ld_all y37_ty53 (agr hM_ mo2_10 (by simp)) (up_m rfl (u2 rfl s5_9)) (by first | rfl | (rw [flat_map_len (k := 1)] <;> first | omega | (intro _; rfl))))) trivial trivial ?_
  refine dh_ro (fun M_ hM_ => (ro_call (evL_cons (u2 rfl up_h) (evL_cons (up_m rfl up_h) (evL_cons up_h evL_nil))) rfl (deviationAt_in l hl hg L c s p j hv hp hb) y37_hcf27)) trivial ?_
  refine dh_ro (fun M_ hM_ => (ro_move up_h)) trivial ?_
  refine dh_ro (fun M_ hM_ => (ro_extract up_h rfl)) trivial ?_
  refine dh_ro (fun M_ hM_ => (ro_extract (up_m rfl up_h) rfl)) trivial ?_
  refine dh_nw (3) (fun M_ hM_ => (nw_alloc y37_az40 rfl)) trivial mo3_10 rfl trivial ⟨.inl (by simp <;> omega), ⟨.inl (by simp <;> omega), ⟨.inl (by simp <;> omega), trivial⟩⟩⟩ (fun m_11 hm_11 => ?_)
  have mo3_11 := m_set hm_11 mo3_10
  simp only [packA_t, packA_f, iE, bE, setAt, cellsA, Value.cells, map_vc, map_vn, Nat.reduceAdd, qS] at mo3_11
  have mo2_11 := m_set_o hm_11 mo2_10 (by decide)
  have mo1_11 := m_set_o hm_11 mo1_10 (by decide)
  have mo0_11 := m_set_o hm_11 mo0_10 (by decide)
  have ml_11 := m_set_l hm_11 ml_10
  clear hm_11 mo2_10 mo1_10 mo0_10 mo3_10
  refine dh_set (3) (fun M_ hM_ => (se_store up_h (u2 rfl up_h) rfl rfl (agr hM_ mo3_11 (by simp)) y37_sz40 rfl (by exact Nat.le_of_ble_eq_true rfl))) trivial ⟨.inr (wt_one 9 8 (by kernel_rfl)), trivial⟩ ⟨.inl (by simp <;> omega), ⟨.inl (by simp <;> omega), ⟨.inl (by simp <;> omega), ⟨.inr (wt_one 9 8 (by kernel_rfl)), trivial⟩⟩⟩⟩ (fun m_12 hm_12 => ?_)
  have mo3_12 := m_set hm_12 mo3_11
  simp only [packA_t, packA_f, iE, bE, setAt, cellsA, Value.cells, map_vc, map_vn, Nat.reduceAdd, qS] at mo3_12
  have mo2_12 := m_set_o hm_12 mo2_11 (by decide)
  have mo1_12 := m_set_o hm_12 mo1_11 (by decide)
  have mo0_12 := m_set_o hm_12 mo0_11 (by decide)
  have ml_12 := m_set_l hm_12 ml_11
  clear hm_12 mo3_11 mo2_11 mo1_11 mo0_11
  refine dh_nil rfl ?_
  refine al_ro' (ro_assign (up_n (up_m rfl up_h))) trivial rfl ?_
  refine al_end (fun e_13 he_13 => ?_)
  have s3_13 := ef 3 he_13 (up_m rfl (up_n (up_m rfl (u8 rfl s3_9))))
  have s4_13 := ef 4 he_13 (up_m rfl (up_n (up_m rfl (u8 rfl s4_9))))
  have s5_13 := ef 5 he_13 (up_m rfl (up_n (up_m rfl (u8 rfl s5_9))))
  have s7_13 := ef 7 he_13 (up_m rfl (up_n (up_m rfl (u8 rfl s7_9))))
  have s8_13 := ef 8 he_13 (up_m rfl (up_n up_h))
  have s9_13 := ef 9 he_13 up_h
  clear he_13 s3_9 s4_9 s5_9 s7_9
  refine then_n ?_
  refine aw_seq ?_
  refine aw_text (by kernel_rfl) ?_
  refine al_ro' (ro_eq (ro_ld_ptr y37_ty52 rfl mo1_12 s4_13 (by exact Nat.le_of_ble_eq_true rfl)) (by simp only [packA_t, packA_f, iE, bE, setAt, cellsA, Value.cells, map_vc, map_vn, Nat.reduceAdd, qS] <;> rfl)) trivial rfl ?_
  refine al_ro' (ro_call (evL_cons up_h evL_nil) rfl (rVehicleErr_ok L c s) y37_hcf28) trivial rfl ?_
  refine al_ro' (ro_assign up_h) trivial rfl ?_
  refine al_end (fun e_14 he_14 => ?_)
  have s3_14 := ef 3 he_14 (up_m rfl (u2 rfl s3_13))
  have s4_14 := ef 4 he_14 (up_m rfl (u2 rfl s4_13))
  have s5_14 := ef 5 he_14 (up_m rfl (u2 rfl s5_13))
  have s7_14 := ef 7 he_14 (up_m rfl (u2 rfl s7_13))
  have s8_14 := ef 8 he_14 (up_m rfl (u2 rfl s8_13))
  have s9_14 := ef 9 he_14 (up_m rfl (u2 rfl s9_13))
  have s10_14 := ef 10 he_14 up_h
  clear he_14 s3_13 s4_13 s5_13 s7_13 s8_13 s9_13
  refine then_n ?_
  refine aw_seq ?_
  refine aw_seq ?_
  refine aw_text (by kernel_rfl) ?_
  refine al_ro' (ro_move s7_14) trivial rfl ?_
  refine al_ro' (ro_move (up_m rfl s10_14)) trivial rfl ?_
  refine al_ro' (ro_neq (up_m rfl up_h) up_h) trivial rfl ?_
  refine al_end (fun e_15 he_15 => ?_)
  have s3_15 := ef 3 he_15 (up_m rfl (u2 rfl s3_14))
  have s4_15 := ef 4 he_15 (up_m rfl (u2 rfl s4_14))
  have s5_15 := ef 5 he_15 (up_m rfl (u2 rfl s5_14))
  have s8_15 := ef 8 he_15 (up_m rfl (u2 rfl s8_14))
  have s9_15 := ef 9 he_15 (up_m rfl (u2 rfl s9_14))
  have s10_15 := ef 10 he_15 (up_m rfl (u2 rfl s10_14))
  have s31_15 := ef 31 he_15 up_h
  clear he_15 s10_14 s3_14 s4_14 s5_14 s7_14 s8_14 s9_14
  refine then_n ?_
  refine aw_case s31_15 (fun hq_16 => ?_) (fun hq_16 => ?_)
  · replace hq_16 := bnt hq_16; exfalso; omega
  replace hq_16 := bnf hq_16
  refine aw_skip ?_
  refine then_n ?_
  refine aw_seq ?_
  refine aw_seq ?_
  refine aw_text (by kernel_rfl) ?_
  refine al_ro' (ro_eq (ro_ld_ptr y37_ty26 rfl mo0_12 s3_15 (by exact Nat.le_of_ble_eq_true rfl)) (by simp only [packA_t, packA_f, iE, bE, setAt, cellsA, Value.cells, map_vc, map_vn, Nat.reduceAdd, qS] <;> rfl)) trivial rfl ?_
  refine al_ro' (ro_call (evL_cons up_h evL_nil) rfl (lineErr_ok l hl) y37_hcf15) trivial rfl ?_
  refine al_ro' (ro_assign up_h) trivial rfl ?_
  refine al_end (fun e_17 he_17 => ?_)
  have s3_17 := ef 3 he_17 (up_m rfl (u2 rfl s3_15))
  have s4_17 := ef 4 he_17 (up_m rfl (u2 rfl s4_15))
  have s5_17 := ef 5 he_17 (up_m rfl (u2 rfl s5_15))
  have s8_17 := ef 8 he_17 (up_m rfl (u2 rfl s8_15))
  have s9_17 := ef 9 he_17 (up_m rfl (u2 rfl s9_15))
  have s10_17 := ef 10 he_17 (up_m rfl (u2 rfl s10_15))
  have s11_17 := ef 11 he_17 up_h
  clear he_17 s10_15 s31_15 s3_15 s4_15 s5_15 s8_15 s9_15
  refine then_n ?_
  refine aw_seq ?_
  refine aw_text (by kernel_rfl) ?_
  refine al_ro' (ro_move s11_17) trivial rfl ?_
  refine al_ro' (ro_neq up_h ev_c) trivial rfl ?_
  refine al_end (fun e_18 he_18 => ?_)
  have s3_18 := ef 3 he_18 (u2 rfl s3_17)
  have s4_18 := ef 4 he_18 (u2 rfl s4_17)
  have s5_18 := ef 5 he_18 (u2 rfl s5_17)
  have s8_18 := ef 8 he_18 (u2 rfl s8_17)
  have s9_18 := ef 9 he_18 (u2 rfl s9_17)
  have s10_18 := ef 10 he_18 (u2 rfl s10_17)
  have s11_18 := ef 11 he_18 (u2 rfl s11_17)
  have s35_18 := ef 35 he_18 up_h
  clear he_18 s10_17 s11_17 s3_17 s4_17 s5_17 s8_17 s9_17
  refine then_n ?_
  refine aw_case s35_18 (fun hq_19 => ?_) (fun hq_19 => ?_)
  · replace hq_19 := bnt hq_19; exfalso; omega
  replace hq_19 := bnf hq_19
  refine aw_skip ?_
  refine then_n ?_
  refine aw_seq ?_
  refine aw_seq ?_
  refine aw_text (by kernel_rfl) ?_
  refine al_ro' (ro_move s10_18) trivial rfl ?_
  refine al_ro' (ro_eql up_h ev_c) trivial rfl ?_
  refine al_end (fun e_20 he_20 => ?_)
  have s3_20 := ef 3 he_20 (u2 rfl s3_18)
  have s4_20 := ef 4 he_20 (u2 rfl s4_18)
  have s5_20 := ef 5 he_20 (u2 rfl s5_18)
  have s8_20 := ef 8 he_20 (u2 rfl s8_18)
  have s9_20 := ef 9 he_20 (u2 rfl s9_18)
  have s10_20 := ef 10 he_20 (u2 rfl s10_18)
  have s38_20 := ef 38 he_20 up_h
  clear he_20 s10_18 s11_18 s35_18 s3_18 s4_18 s5_18 s8_18 s9_18
  refine then_n ?_
  refine aw_case s38_20 (fun hq_21 => ?_) (fun hq_21 => ?_)
  ·replace hq_21 := bt hq_21
   refine aw_text (by kernel_rfl) ?_
   refine al_ro' (ro_eq (ro_ld_ptr y37_ty26 rfl mo0_12 s3_20 (by exact Nat.le_of_ble_eq_true rfl)) (by simp only [packA_t, packA_f, iE, bE, setAt, cellsA, Value.cells, map_vc, map_vn, Nat.reduceAdd, qS] <;> rfl)) trivial rfl ?_
   refine al_ro' (ro_eq (ro_ld_ptr y37_ty52 rfl mo1_12 (up_m rfl s4_20) (by exact Nat.le_of_ble_eq_true rfl)) (by simp only [packA_t, packA_f, iE, bE, setAt, cellsA, Value.cells, map_vc, map_vn, Nat.reduceAdd, qS] <;> rfl)) trivial rfl ?_
   refine al_ro' (ro_ixa y37_ar53 (u2 rfl s5_20) ev_c rfl) trivial rfl ?_
   refine al_ro' (ro_eq (ro_ld_ptr y37_ty3 rfl mo2_12 up_h (by exact Nat.le_of_ble_eq_true rfl)) (by simp only [packA_t, packA_f, iE, bE, setAt, cellsA, Value.cells, map_vc, map_vn, Nat.reduceAdd, qS] <;> rfl)) trivial rfl ?_
   refine al_ro' (ro_call (evL_cons (up_m rfl (u2 rfl up_h)) (evL_cons (u2 rfl up_h) (evL_cons up_h evL_nil))) rfl (rPoseErr_ok l hr L c s p (by omega) (by omega)) y37_hcf29) trivial rfl ?_
   refine al_ro' (ro_assign up_h) trivial rfl ?_
   refine al_end (fun e_22 he_22 => ?_)
   have s3_22 := ef 3 he_22 (u2 rfl (u4 rfl s3_20))
   have s4_22 := ef 4 he_22 (u2 rfl (u4 rfl s4_20))
   have s5_22 := ef 5 he_22 (u2 rfl (u4 rfl s5_20))
   have s8_22 := ef 8 he_22 (u2 rfl (u4 rfl s8_20))
   have s9_22 := ef 9 he_22 (u2 rfl (u4 rfl s9_20))
   have s10_22 := ef 10 he_22 up_h
   clear he_22 s10_20 s38_20 s3_20 s4_20 s5_20 s8_20 s9_20
   refine then_n ?_
   refine aw_seq ?_
   refine aw_seq ?_
   refine aw_draw 13 (by kernel_rfl) (by kernel_rfl) (by kernel_rfl) (by kernel_rfl) ?_
   refine ds_ro' (ro_move s10_22) trivial rfl ?_
   refine ds_ro' (ro_eql up_h ev_c) trivial rfl ?_
   refine ds_ro' (ro_move up_h) trivial rfl ?_
   refine ds_case up_h (fun hb_23 hq_23 => ?_) (fun hb_23 hq_23 => ?_)
   ·replace hq_23 := bt hq_23
    refine ds_ro' (ro_eq (ro_ld_ptr y37_ty26 rfl mo0_12 (up_m rfl (u2 rfl s3_22)) (by exact Nat.le_of_ble_eq_true rfl)) (by simp only [packA_t, packA_f, iE, bE, setAt, cellsA, Value.cells, map_vc, map_vn, Nat.reduceAdd, qS] <;> rfl)) ⟨_, rfl, hb_23⟩ rfl ?_
    refine ds_ro' (ro_eq (ro_ld_ptr y37_ty52 rfl mo1_12 (u4 rfl s4_22) (by exact Nat.le_of_ble_eq_true rfl)) (by simp only [packA_t, packA_f, iE, bE, setAt, cellsA, Value.cells, map_vc, map_vn, Nat.reduceAdd, qS] <;> rfl)) ⟨_, rfl, (up_m rfl hb_23)⟩ rfl ?_
    refine ds_ro' (ro_ixa y37_ar53 (up_m rfl (u4 rfl s5_22)) ev_c rfl) ⟨_, rfl, (u2 rfl hb_23)⟩ rfl ?_
    refine ds_ro' (ro_eq (ro_ld_ptr y37_ty3 rfl mo2_12 up_h (by exact Nat.le_of_ble_eq_true rfl)) (by simp only [packA_t, packA_f, iE, bE, setAt, cellsA, Value.cells, map_vc, map_vn, Nat.reduceAdd, qS] <;> rfl)) ⟨_, rfl, (up_m rfl (u2 rfl hb_23))⟩ rfl ?_
    refine ds_ro' (ro_call (evL_cons (up_m rfl (u2 rfl up_h)) (evL_cons (u2 rfl up_h) (evL_cons up_h evL_nil))) rfl (rBeneath_ok l hr L c s p (by omega) (by omega)) y37_hcf31) ⟨_, rfl, (u4 rfl hb_23)⟩ rfl ?_
    refine ds_ro' (ro_ixa y37_ar53 (u8 rfl s5_22) ev_c rfl) ⟨_, rfl, (up_m rfl (u4 rfl hb_23))⟩ rfl ?_
    refine ds_ro' (ro_eq (ro_ld_ptr y37_ty3 rfl mo2_12 up_h (by exact Nat.le_of_ble_eq_true rfl)) (by simp only [packA_t, packA_f, iE, bE, setAt, cellsA, Value.cells, map_vc, map_vn, Nat.reduceAdd, qS] <;> rfl)) ⟨_, rfl, (u2 rfl (u4 rfl hb_23))⟩ rfl ?_
    refine ds_ro' (ro_call (evL_cons (u2 rfl up_h) (evL_cons up_h evL_nil)) rfl ((has_ok (benP l L p l.js.length) j (by have := benP_len (l := l) (L := L) (p := p) (n := l.js.length); omega)).mono (fun q h => show q = tbA (benI l L p j) from h.trans (by rw [benP_has]))) y37_hcf30) ⟨_, rfl, (up_m rfl (u2 rfl (u4 rfl hb_23)))⟩ rfl ?_
    refine ds_ro' (ro_not up_h) ⟨_, rfl, (u8 rfl hb_23)⟩ rfl ?_
    refine ds_ro' (ro_pickT (up_m rfl (u8 rfl hb_23)) up_h) trivial rfl ?_
    refine ds_nil ?_
    refine al_end (fun e_24 he_24 => ?_)
    have s3_24 := ef 3 he_24 (up_m rfl (u4 rfl (u8 rfl s3_22)))
    have s4_24 := ef 4 he_24 (up_m rfl (u4 rfl (u8 rfl s4_22)))
    have s5_24 := ef 5 he_24 (up_m rfl (u4 rfl (u8 rfl s5_22)))
    have s8_24 := ef 8 he_24 (up_m rfl (u4 rfl (u8 rfl s8_22)))
    have s9_24 := ef 9 he_24 (up_m rfl (u4 rfl (u8 rfl s9_22)))
    have s10_24 := ef 10 he_24 (up_m rfl (u4 rfl (u8 rfl s10_22)))
    have s56_24 := ef 56 he_24 up_h
    clear he_24 hb_23 s10_22 s3_22 s4_22 s5_22 s8_22 s9_22
    refine then_n ?_
    refine aw_case s56_24 (fun hq_25 => ?_) (fun hq_25 => ?_)
    · first | (simp at hq_25; done) | (exact absurd hg hq_25) | (exact absurd hq_25 hv) | (exact absurd hv hq_25) | (exact absurd (by simpa using hq_25) hv) | (exact absurd hv (by simpa using hq_25)) | (exact absurd hq_25 hp) | (exact absurd hp hq_25) | (exact absurd (by simpa using hq_25) hp) | (exact absurd hp (by simpa using hq_25)) | (rw [hb] at hq_25; simp at hq_25; done)
    replace hq_25 := bf' hq_25
    refine aw_skip ?_
    refine then_n ?_
    refine aw_seq ?_
    refine aw_seq ?_
    refine aw_text (by kernel_rfl) ?_
    refine al_ro' (ro_move s10_24) trivial rfl ?_
    refine al_ro' (ro_neq up_h ev_c) trivial rfl ?_
    refine al_end (fun e_35 he_35 => ?_)
    have s3_35 := ef 3 he_35 (u2 rfl s3_24)
    have s4_35 := ef 4 he_35 (u2 rfl s4_24)
    have s5_35 := ef 5 he_35 (u2 rfl s5_24)
    have s8_35 := ef 8 he_35 (u2 rfl s8_24)
    have s9_35 := ef 9 he_35 (u2 rfl s9_24)
    have s10_35 := ef 10 he_35 (u2 rfl s10_24)
    have s58_35 := ef 58 he_35 up_h
    clear he_35 s10_24 s3_24 s4_24 s56_24 s5_24 s8_24 s9_24
    refine then_n ?_
    refine aw_case s58_35 (fun hq_36 => ?_) (fun hq_36 => ?_)
    · replace hq_36 := bnt hq_36; exfalso; omega
    replace hq_36 := bnf hq_36
    refine aw_skip ?_
    refine then_n ?_
    refine aw_seq ?_
    refine aw_draw 14 (by kernel_rfl) (by kernel_rfl) (by kernel_rfl) (by kernel_rfl) ?_
    refine ds_ro' (ro_move s9_35) trivial rfl ?_
    refine ds_ro' (ro_eql up_h ev_c) trivial rfl ?_
    refine ds_ro' (ro_move up_h) trivial rfl ?_
    refine ds_case up_h (fun hb_40 hq_40 => ?_) (fun hb_40 hq_40 => ?_)
    ·replace hq_40 := bt hq_40
     refine ds_ro' (ro_eq (ro_ld_ptr y37_ty40 rfl mo3_12 (up_m rfl (u2 rfl s8_35)) (by exact Nat.le_of_ble_eq_true rfl)) (by simp only [packA_t, packA_f, iE, bE, setAt, cellsA, Value.cells, map_vc, map_vn, Nat.reduceAdd, qS] <;> rfl)) ⟨_, rfl, hb_40⟩ rfl ?_
     refine ds_ro' (ro_eq (ro_ld_ptr y37_ty26 rfl mo0_12 (u4 rfl s3_35) (by exact Nat.le_of_ble_eq_true rfl)) (by simp only [packA_t, packA_f, iE, bE, setAt, cellsA, Value.cells, map_vc, map_vn, Nat.reduceAdd, qS] <;> rfl)) ⟨_, rfl, (up_m rfl hb_40)⟩ rfl ?_
     refine ds_ro' (ro_eq (ro_ld_ptr y37_ty52 rfl mo1_12 (up_m rfl (u4 rfl s4_35)) (by exact Nat.le_of_ble_eq_true rfl)) (by simp only [packA_t, packA_f, iE, bE, setAt, cellsA, Value.cells, map_vc, map_vn, Nat.reduceAdd, qS] <;> rfl)) ⟨_, rfl, (u2 rfl hb_40)⟩ rfl ?_
     refine ds_ro' (ro_ixa y37_ar53 (u2 rfl (u4 rfl s5_35)) ev_c rfl) ⟨_, rfl, (up_m rfl (u2 rfl hb_40))⟩ rfl ?_
     refine ds_ro' (ro_eq (ro_ld_ptr y37_ty3 rfl mo2_12 up_h (by exact Nat.le_of_ble_eq_true rfl)) (by simp only [packA_t, packA_f, iE, bE, setAt, cellsA, Value.cells, map_vc, map_vn, Nat.reduceAdd, qS] <;> rfl)) ⟨_, rfl, (u4 rfl hb_40)⟩ rfl ?_
     refine ds_ro' (ro_ixa y37_ar53 (u8 rfl s5_35) ev_c rfl) ⟨_, rfl, (up_m rfl (u4 rfl hb_40))⟩ rfl ?_
     refine ds_ro' (ro_eq (ro_ld_ptr y37_ty3 rfl mo2_12 up_h (by exact Nat.le_of_ble_eq_true rfl)) (by simp only [packA_t, packA_f, iE, bE, setAt, cellsA, Value.cells, map_vc, map_vn, Nat.reduceAdd, qS] <;> rfl)) ⟨_, rfl, (u2 rfl (u4 rfl hb_40))⟩ rfl ?_
     refine ds_ro' (ro_call (evL_cons (up_m rfl (u4 rfl up_h)) (evL_cons (u4 rfl up_h) (evL_cons (u2 rfl up_h) (evL_cons up_h evL_nil)))) rfl (rd) y37_hcf32) ⟨_, rfl, (up_m rfl (u2 rfl (u4 rfl hb_40)))⟩ rfl ?_
     refine ds_ro' (ro_sqeql (up_m rfl (u2 rfl (u4 rfl up_h))) up_h rfl rfl y37_gq40 y37_sq40 (by decide)) ⟨_, rfl, (u8 rfl hb_40)⟩ rfl ?_
     refine ds_ro' (ro_pickT (up_m rfl (u8 rfl hb_40)) up_h) trivial rfl ?_
     refine ds_ro' (ro_assign up_h) trivial rfl ?_
     refine ds_nil ?_
     refine al_end (fun e_41 he_41 => ?_)
     have s6_41 := ef 6 he_41 up_h
     clear he_41 hb_40 s10_35 s3_35 s4_35 s58_35 s5_35 s8_35 s9_35
     refine then_n ?_
     refine aw_ret ?_
     refine ret1 (.inr rfl) (by kernel_rfl) (resV_tmp s6_41) (.ro _ rfl) ?_
     clear s6_41 mo3_12 mo2_12 mo1_12 mo0_12 ml_12
     first | rfl | simp_all
    · cases hq_40
   · replace hq_23 := bf hq_23; exfalso; omega
  · replace hq_21 := bf hq_21; exfalso; omega
theorem lineDeviations_ok (l : Lin) (L c s p j : Int) : FnOk Try.prog 4 [lnA l, vehA L c s, .agg [mA p, mA j]] (fun q => q = tbA true) := by
  cases hf : fewL l with
  | false => exact lineDeviations_many l hf L c s p j
  | true =>
    by_cases hg : (linM l).2 = 0
    · by_cases hv : vehE L c s = 0
      · by_cases hp : posE l L s p = 0
        · cases hb : benI l L p j with
          | false => exact lineDeviations_out l hf hg L c s p j hv hp hb
          | true => exact lineDeviations_in l hf hg L c s p j hv hp hb
        · exact lineDeviations_pos l hf hg L c s p j hv hp
      · exact lineDeviations_veh l hf hg L c s p j hv
    · exact lineDeviations_bad l hf hg L c s p j
end Go.Proofs.Ytknclifdncmgpaa
