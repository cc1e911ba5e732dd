/- Texts of this claim, one behind the other: lemmas for the statement. -/
import Derived.Test.YtjhcfpdgldpicaaGreatDoorT0
import Derived.Test.YtjhcfpdgldpicaaGreatDoorM9
import Derived.Test.YtjhcfpdgldpicaaGreatDoorM2
set_option linter.unusedSimpArgs false
set_option linter.unusedVariables false
namespace Go.Proofs.YtjhcfpdgldpicaaGreatDoor
open Go Go.RowKit Go.Proofs Go.Shelf Go.Lib
theorem z27_az29 : (Tryz.prog.info? 29).bind (·.zero) = some (.int .i64 0) := by kernel_rfl
theorem z27_az76 : (Tryz.prog.info? 76).bind (·.zero) = some (.slice none 0 0) := by kernel_rfl
theorem z27_az91 : (Tryz.prog.info? 91).bind (·.zero) = some (.nilFunc) := by kernel_rfl
theorem z27_bz99 : (Tryz.prog.info? 99).bind (·.zero) = some (.agg #[.int .i64 0, .int .i64 0, .string ByteArray.empty, .int .i64 0, .int .i64 0, .int .i64 0, .int .i64 0]) := by kernel_rfl
theorem z27_bu99 : Tryz.prog.underlying 99 = some (.struct (fsOf Tryz.prog 99)) := by kernel_rfl
theorem z27_bp99 : ∀ w, ((fsOf Tryz.prog 99).mapM fun f => Prod.mk f.offset <$> sizeOf f.type : Sem (Array (Nat × Nat))).run Tryz.prog w = .ok (#[(0, 1), (1, 1), (2, 1), (3, 1), (4, 2), (6, 1)]) w := fun _ => by kernel_rfl
theorem z27_hcf103 : ∀ args w, (callFunc 103 args).run Tryz.prog w = .ok (.enter 103 args) w := fun _ _ => by kernel_rfl
theorem z27_hcf39 : ∀ args w, (callFunc 39 args).run Tryz.prog w = .ok (.enter 39 args) w := fun _ _ => by kernel_rfl
theorem z27_hcf40 : ∀ args w, (callFunc 40 args).run Tryz.prog w = .ok (.enter 40 args) w := fun _ _ => by kernel_rfl
theorem z27_hcf41 : ∀ args w, (callFunc 41 args).run Tryz.prog w = .ok (.enter 41 args) w := fun _ _ => by kernel_rfl
theorem z27_hcf43 : ∀ args w, (callFunc 43 args).run Tryz.prog w = .ok (.enter 43 args) w := fun _ _ => by kernel_rfl
theorem z27_sl76 : SlIs Tryz.prog 76 3 1 8 (.int .i64 0) := ⟨by kernel_rfl, by kernel_rfl, by kernel_rfl⟩
theorem z27_sz76 : (Tryz.prog.info? 76).map (·.size) = some 1 := by kernel_rfl
theorem z27_sz91 : (Tryz.prog.info? 91).map (·.size) = some 1 := by kernel_rfl
theorem z27_ty24 : TyIs Tryz.prog 24 true 2 := ⟨by kernel_rfl, by kernel_rfl⟩
theorem z27_ty28 : TyIs Tryz.prog 28 true 2 := ⟨by kernel_rfl, by kernel_rfl⟩
theorem z27_ty29 : TyIs Tryz.prog 29 false 1 := ⟨by kernel_rfl, by kernel_rfl⟩
theorem z27_ty3 : TyIs Tryz.prog 3 false 1 := ⟨by kernel_rfl, by kernel_rfl⟩
theorem z27_ty76 : TyIs Tryz.prog 76 false 1 := ⟨by kernel_rfl, by kernel_rfl⟩
theorem z27_ty91 : TyIs Tryz.prog 91 false 1 := ⟨by kernel_rfl, by kernel_rfl⟩
theorem tsx_ok (l : List UInt8) (hl : l.length ≤ 1000000000) : FnOk Tryz.prog 41 [.v (.string (bs l)), .v (.string ⟨#[10]⟩)] (fun q => q = .v (.string (bs (cutN l)))) := trimSuffix_ok (bs l) ⟨#[10]⟩ (by rw [bs_size]; exact hl)
theorem pek0 (l : List UInt8) (i : Int) : (pekS l (scn0 i)).a ≤ l.length := by have := posW_le l 0; show posW l 0 ≤ _; omega
section
variable (es er : Value) (hes : isE es) (her : isE er)
include hes her
set_option maxRecDepth 100000 in
set_option maxHeartbeats 4000000 in
theorem kParse_ok (tx : List UInt8) (hl : tx.length ≤ 1000000) : FnOkG Tryz.prog (gX es er) 9 [.v (.string (bs tx))] (fun q => q = prA (prgP tx)) := by
 have hz : (bs tx).size = tx.length := rfl
 by_cases hbig : 60000 < tx.length
 ·rw [prgP, if_pos hbig]
  refine fnOkG_of (fn := Tryz.f9) (gX es er) 80 (by kernel_rfl) rfl (by kernel_rfl) (Nat.le_of_ble_eq_true rfl) ?_
  intro e_0 m_0 hA hm_0
  have s0_0 : evA e_0 (.tmp 0) = _ := hA 0 _ rfl
  have ml_0 : m_0.length = 1 := by rw [hm_0]; rfl
  have mo0_0 : m_0[0]? = some (.glob (gX es er)) := by rw [hm_0]; rfl
  clear hA hm_0
  refine aw_seq <| at_ <| al_stm (st_alloc qaz24 rfl ml_0) trivial rfl (fun m_1 hm_1 => ?_)
  have mo1_1 := m_push hm_1 ml_0
  simp only [pS, Value.cells, Nat.reduceAdd] at mo1_1
  have mo0_1 := m_push_o hm_1 mo0_0
  have ml_1 := m_push_l hm_1 ml_0
  have ml_1 : _ = 2 := ml_1
  clear hm_1 mo0_0
  refine al_stm (st_alloc qaz28 rfl ml_1) trivial rfl (fun m_2 hm_2 => ?_)
  have mo2_2 := m_push hm_2 ml_1
  simp only [pS, Value.cells, Nat.reduceAdd] at mo2_2
  have mo1_2 := m_push_o hm_2 mo1_1
  have mo0_2 := m_push_o hm_2 mo0_1
  have ml_2 := m_push_l hm_2 ml_1
  have ml_2 : _ = 3 := ml_2
  clear hm_2 mo1_1 mo0_1
  refine al_stm (st_alloc z27_az29 rfl ml_2) trivial rfl (fun m_3 hm_3 => ?_)
  have mo3_3 := m_push hm_3 ml_2
  simp only [pS, Value.cells, Nat.reduceAdd] at mo3_3
  have mo2_3 := m_push_o hm_3 mo2_2
  have mo1_3 := m_push_o hm_3 mo1_2
  have mo0_3 := m_push_o hm_3 mo0_2
  have ml_3 := m_push_l hm_3 ml_2
  have ml_3 : _ = 4 := ml_3
  clear hm_3 mo2_2 mo1_2 mo0_2
  refine ae4 (up_m rfl (u2 rfl s0_0)) (u2 rfl up_h) (up_m rfl up_h) up_h ?_; clear s0_0; intro e_4 s0_4 s2_4 s3_4 s4_4
  refine then_n <| aw_seq <| aw_seq <| at_ <| ar (ro_move s0_4) rfl <| ar (ro_len_str up_h rfl qun9) rfl <| ar (ro_gtr up_h ev_c) rfl <| ae5 (up_m rfl (u2 rfl s0_4)) (up_m rfl (u2 rfl s2_4)) (up_m rfl (u2 rfl s3_4)) (up_m rfl (u2 rfl s4_4)) up_h ?_; clear s0_4 s2_4 s3_4 s4_4; intro e_5 s0_5 s2_5 s3_5 s4_5 s16_5
  refine then_n <| aw_case s16_5 (fun hq_6 => ?_) (fun hq_6 => ?_)
  ·replace hq_6 := bt hq_6
   refine aw_seq <| at_ <| ar (ro_build evP_nil qbz24 qbu24 qbp24 rfl) rfl ?_
   refine ar (ro_build evP_nil qbz28 qbu28 qbp28 rfl) rfl ?_
   refine al_stm (st_store (u2 rfl s2_5) (up_m rfl up_h) rfl rfl mo1_3 qsz24 rfl (nle rfl)) trivial rfl (fun m_7 hm_7 => ?_)
   have mo1_7 := m_set hm_7 mo1_3
   simp only [pS, Value.cells, Nat.reduceAdd] at mo1_7
   have mo3_7 := m_set_o hm_7 mo3_3 (by decide)
   have mo2_7 := m_set_o hm_7 mo2_3 (by decide)
   have mo0_7 := m_set_o hm_7 mo0_3 (by decide)
   have ml_7 := m_set_l hm_7 ml_3
   clear hm_7 mo3_3 mo2_3 mo1_3 mo0_3
   refine al_stm (st_store (up_n (u2 rfl s3_5)) (up_n up_h) rfl rfl mo2_7 qsz28 rfl (nle rfl)) trivial rfl (fun m_8 hm_8 => ?_)
   have mo2_8 := m_set hm_8 mo2_7
   simp only [pS, Value.cells, Nat.reduceAdd] at mo2_8
   have mo1_8 := m_set_o hm_8 mo1_7 (by decide)
   have mo3_8 := m_set_o hm_8 mo3_7 (by decide)
   have mo0_8 := m_set_o hm_8 mo0_7 (by decide)
   have ml_8 := m_set_l hm_8 ml_7
   clear hm_8 mo1_7 mo3_7 mo2_7 mo0_7
   refine al_stm (st_store (up_n (up_n (u2 rfl s4_5))) ev_c rfl rfl mo3_8 qsz29 rfl (nle rfl)) trivial rfl (fun m_9 hm_9 => ?_)
   have mo3_9 := m_set hm_9 mo3_8
   simp only [pS, Value.cells, Nat.reduceAdd] at mo3_9
   have mo2_9 := m_set_o hm_9 mo2_8 (by decide)
   have mo1_9 := m_set_o hm_9 mo1_8 (by decide)
   have mo0_9 := m_set_o hm_9 mo0_8 (by decide)
   have ml_9 := m_set_l hm_9 ml_8
   clear hm_9 mo2_8 mo1_8 mo3_8 mo0_8
   refine ae3 (up_n (up_n (up_n (u2 rfl s2_5)))) (up_n (up_n (up_n (u2 rfl s3_5)))) (up_n (up_n (up_n (u2 rfl s4_5)))) ?_; clear s0_5 s16_5 s2_5 s3_5 s4_5; intro e_10 s2_10 s3_10 s4_10
   refine then_n <| aw_ret <| then_r <| ret3 (.inr rfl) (by kernel_rfl) (resV_cell s2_10 mo1_9 z27_ty24 (nle rfl) (by simp)) (resV_cell s3_10 mo2_9 z27_ty28 (nle rfl) (by simp)) (resV_cell s4_10 mo3_9 z27_ty29 (nle rfl) (by simp)) (vw_r (vw_agg (vwl_cons (.ro _ rfl) (vwl_cons (.nil 4) vwl_nil)))) (vw_r (.ro _ rfl)) (vw_c (.ro _ rfl)) ?_
   clear s2_10 s3_10 s4_10 mo3_9 mo2_9 mo1_9 mo0_9 ml_9
   first | rfl | (simp; done) | (simp_all; done) | omega
  ·replace hq_6 := bf hq_6; exfalso; omega
 ·rw [prgP, if_neg hbig]
  obtain ⟨R, hR⟩ : ∃ R, R = goP 0 ⟨[], [], []⟩ ((linesY tx).map cutN) := ⟨_, rfl⟩
  rw [← hR]
  have hI0 : PInv tx 0 ⟨[], [], []⟩ R := ⟨hR.symm, Nat.zero_le _, by simp, by simp, fun _ => rfl, fun h => absurd rfl h⟩
  have hll := linesY_len tx
  refine fnOkG_of (fn := Tryz.f9) (gX es er) 80 (by kernel_rfl) rfl (by kernel_rfl) (Nat.le_of_ble_eq_true rfl) ?_
  intro e_0 m_0 hA hm_0
  have s0_0 : evA e_0 (.tmp 0) = _ := hA 0 _ rfl
  have ml_0 : m_0.length = 1 := by rw [hm_0]; rfl
  have mo0_0 : m_0[0]? = some (.glob (gX es er)) := by rw [hm_0]; rfl
  clear hA hm_0
  refine aw_seq <| at_ <| al_stm (st_alloc qaz24 rfl ml_0) trivial rfl (fun m_1 hm_1 => ?_)
  have mo1_1 := m_push hm_1 ml_0
  simp only [pS, Value.cells, Nat.reduceAdd, scnA, one_iE, app_m, List.length_map] at mo1_1
  have mo0_1 := m_push_o hm_1 mo0_0
  have ml_1 := m_push_l hm_1 ml_0
  have ml_1 : _ = 2 := ml_1
  clear hm_1 mo0_0
  refine al_stm (st_alloc qaz28 rfl ml_1) trivial rfl (fun m_2 hm_2 => ?_)
  have mo2_2 := m_push hm_2 ml_1
  simp only [pS, Value.cells, Nat.reduceAdd, scnA, one_iE, app_m, List.length_map] at mo2_2
  have mo1_2 := m_push_o hm_2 mo1_1
  have mo0_2 := m_push_o hm_2 mo0_1
  have ml_2 := m_push_l hm_2 ml_1
  have ml_2 : _ = 3 := ml_2
  clear hm_2 mo1_1 mo0_1
  refine al_stm (st_alloc z27_az29 rfl ml_2) trivial rfl (fun m_3 hm_3 => ?_)
  have mo3_3 := m_push hm_3 ml_2
  simp only [pS, Value.cells, Nat.reduceAdd, scnA, one_iE, app_m, List.length_map] at mo3_3
  have mo2_3 := m_push_o hm_3 mo2_2
  have mo1_3 := m_push_o hm_3 mo1_2
  have mo0_3 := m_push_o hm_3 mo0_2
  have ml_3 := m_push_l hm_3 ml_2
  have ml_3 : _ = 4 := ml_3
  clear hm_3 mo2_2 mo1_2 mo0_2
  refine ae4 (up_m rfl (u2 rfl s0_0)) (u2 rfl up_h) (up_m rfl up_h) up_h ?_; clear s0_0; intro e_4 s0_4 s2_4 s3_4 s4_4
  refine then_n <| aw_seq <| aw_seq <| at_ <| ar (ro_move s0_4) rfl <| ar (ro_len_str up_h rfl qun9) rfl <| ar (ro_gtr up_h ev_c) rfl <| ae5 (up_m rfl (u2 rfl s0_4)) (up_m rfl (u2 rfl s2_4)) (up_m rfl (u2 rfl s3_4)) (up_m rfl (u2 rfl s4_4)) up_h ?_; clear s0_4 s2_4 s3_4 s4_4; intro e_5 s0_5 s2_5 s3_5 s4_5 s16_5
  refine then_n <| aw_case s16_5 (fun hq_6 => ?_) (fun hq_6 => ?_)
  ·replace hq_6 := bt hq_6; exfalso; omega
  replace hq_6 := bf hq_6
  refine aw_skip <| then_n <| aw_seq <| at_ <| al_stm (st_alloc qaz24 rfl ml_3) trivial rfl (fun m_7 hm_7 => ?_)
  have mo4_7 := m_push hm_7 ml_3
  simp only [pS, Value.cells, Nat.reduceAdd, scnA, one_iE, app_m, List.length_map] at mo4_7
  have mo3_7 := m_push_o hm_7 mo3_3
  have mo2_7 := m_push_o hm_7 mo2_3
  have mo1_7 := m_push_o hm_7 mo1_3
  have mo0_7 := m_push_o hm_7 mo0_3
  have ml_7 := m_push_l hm_7 ml_3
  have ml_7 : _ = 5 := ml_7
  clear hm_7 mo3_3 mo2_3 mo1_3 mo0_3
  refine ae5 (up_m rfl s0_5) (up_m rfl s2_5) (up_m rfl s3_5) (up_m rfl s4_5) up_h ?_; clear s0_5 s16_5 s2_5 s3_5 s4_5; intro e_8 s0_8 s2_8 s3_8 s4_8 s5_8
  refine then_n <| aw_seq <| at_ <| al_stm (st_alloc z27_az76 rfl ml_7) trivial rfl (fun m_9 hm_9 => ?_)
  have mo5_9 := m_push hm_9 ml_7
  simp only [pS, Value.cells, Nat.reduceAdd, scnA, one_iE, app_m, List.length_map] at mo5_9
  have mo4_9 := m_push_o hm_9 mo4_7
  have mo3_9 := m_push_o hm_9 mo3_7
  have mo2_9 := m_push_o hm_9 mo2_7
  have mo1_9 := m_push_o hm_9 mo1_7
  have mo0_9 := m_push_o hm_9 mo0_7
  have ml_9 := m_push_l hm_9 ml_7
  have ml_9 : _ = 6 := ml_9
  clear hm_9 mo4_7 mo3_7 mo2_7 mo1_7 mo0_7
  refine ae6 (up_m rfl s0_8) (up_m rfl s2_8) (up_m rfl s3_8) (up_m rfl s4_8) (up_m rfl s5_8) up_h ?_; clear s0_8 s2_8 s3_8 s4_8 s5_8; intro e_10 s0_10 s2_10 s3_10 s4_10 s5_10 s6_10
  refine then_n <| aw_seq <| at_ <| al_stm (st_alloc z27_az91 rfl ml_9) trivial rfl (fun m_11 hm_11 => ?_)
  have mo6_11 := m_push hm_11 ml_9
  simp only [pS, Value.cells, Nat.reduceAdd, scnA, one_iE, app_m, List.length_map] at mo6_11
  have mo5_11 := m_push_o hm_11 mo5_9
  have mo4_11 := m_push_o hm_11 mo4_9
  have mo3_11 := m_push_o hm_11 mo3_9
  have mo2_11 := m_push_o hm_11 mo2_9
  have mo1_11 := m_push_o hm_11 mo1_9
  have mo0_11 := m_push_o hm_11 mo0_9
  have ml_11 := m_push_l hm_11 ml_9
  have ml_11 : _ = 7 := ml_11
  clear hm_11 mo5_9 mo4_9 mo3_9 mo2_9 mo1_9 mo0_9
  refine al_stm (st_store up_h ev_f rfl rfl mo6_11 z27_sz91 rfl (nle rfl)) trivial rfl (fun m_12 hm_12 => ?_)
  have mo6_12 := m_set hm_12 mo6_11
  simp only [pS, Value.cells, Nat.reduceAdd, scnA, one_iE, app_m, List.length_map] at mo6_12
  have mo5_12 := m_set_o hm_12 mo5_11 (by decide)
  have mo4_12 := m_set_o hm_12 mo4_11 (by decide)
  have mo3_12 := m_set_o hm_12 mo3_11 (by decide)
  have mo2_12 := m_set_o hm_12 mo2_11 (by decide)
  have mo1_12 := m_set_o hm_12 mo1_11 (by decide)
  have mo0_12 := m_set_o hm_12 mo0_11 (by decide)
  have ml_12 := m_set_l hm_12 ml_11
  clear hm_12 mo6_11 mo5_11 mo4_11 mo3_11 mo2_11 mo1_11 mo0_11
  refine ae7 (up_n (up_m rfl s0_10)) (up_n (up_m rfl s2_10)) (up_n (up_m rfl s3_10)) (up_n (up_m rfl s4_10)) (up_n (up_m rfl s5_10)) (up_n (up_m rfl s6_10)) (up_n up_h) ?_; clear s0_10 s2_10 s3_10 s4_10 s5_10 s6_10; intro e_13 s0_13 s2_13 s3_13 s4_13 s5_13 s6_13 s7_13
  refine then_n <| aw_seq <| at_ <| al_stm (st_alloc qaz3 rfl ml_12) trivial rfl (fun m_14 hm_14 => ?_)
  have mo7_14 := m_push hm_14 ml_12
  simp only [pS, Value.cells, Nat.reduceAdd, scnA, one_iE, app_m, List.length_map] at mo7_14
  have mo6_14 := m_push_o hm_14 mo6_12
  have mo5_14 := m_push_o hm_14 mo5_12
  have mo4_14 := m_push_o hm_14 mo4_12
  have mo3_14 := m_push_o hm_14 mo3_12
  have mo2_14 := m_push_o hm_14 mo2_12
  have mo1_14 := m_push_o hm_14 mo1_12
  have mo0_14 := m_push_o hm_14 mo0_12
  have ml_14 := m_push_l hm_14 ml_12
  have ml_14 : _ = 8 := ml_14
  clear hm_14 mo6_12 mo5_12 mo4_12 mo3_12 mo2_12 mo1_12 mo0_12
  refine al_stm (st_store up_h ev_c rfl rfl mo7_14 qsz3 rfl (nle rfl)) trivial rfl (fun m_15 hm_15 => ?_)
  have mo7_15 := m_set hm_15 mo7_14
  simp only [pS, Value.cells, Nat.reduceAdd, scnA, one_iE, app_m, List.length_map] at mo7_15
  have mo6_15 := m_set_o hm_15 mo6_14 (by decide)
  have mo5_15 := m_set_o hm_15 mo5_14 (by decide)
  have mo4_15 := m_set_o hm_15 mo4_14 (by decide)
  have mo3_15 := m_set_o hm_15 mo3_14 (by decide)
  have mo2_15 := m_set_o hm_15 mo2_14 (by decide)
  have mo1_15 := m_set_o hm_15 mo1_14 (by decide)
  have mo0_15 := m_set_o hm_15 mo0_14 (by decide)
  have ml_15 := m_set_l hm_15 ml_14
  clear hm_15 mo7_14 mo6_14 mo5_14 mo4_14 mo3_14 mo2_14 mo1_14 mo0_14
  refine ae8 (up_n (up_m rfl s0_13)) (up_n (up_m rfl s2_13)) (up_n (up_m rfl s3_13)) (up_n (up_m rfl s4_13)) (up_n (up_m rfl s5_13)) (up_n (up_m rfl s6_13)) (up_n (up_m rfl s7_13)) (up_n up_h) ?_; clear s0_13 s2_13 s3_13 s4_13 s5_13 s6_13 s7_13; intro e_16 s0_16 s2_16 s3_16 s4_16 s5_16 s6_16 s7_16 s8_16
  refine then_n <| aw_seq <| aw_seq <| at_ <| ar (ro_move s0_16) rfl <| al_stm (st_muE (st_mu' (lines_ok (bs tx)) [] ml_15 (evL_cons up_h evL_nil) (by first | exact .nil | exact .refl mo0_15 | exact .at_ mo0_15 (by simp [*])) (by decide) .nil rfl z27_hcf40) (show _ = (.clo (.func 103) [] [.ptr 8 0]) from rfl)) trivial rfl (fun m_17 hm_17 => ?_)
  have mo7_17 := m_ups_o hm_17 (Nat.le_of_ble_eq_true rfl) mo7_15 (by decide)
  have mo6_17 := m_ups_o hm_17 (Nat.le_of_ble_eq_true rfl) mo6_15 (by decide)
  have mo5_17 := m_ups_o hm_17 (Nat.le_of_ble_eq_true rfl) mo5_15 (by decide)
  have mo4_17 := m_ups_o hm_17 (Nat.le_of_ble_eq_true rfl) mo4_15 (by decide)
  have mo3_17 := m_ups_o hm_17 (Nat.le_of_ble_eq_true rfl) mo3_15 (by decide)
  have mo2_17 := m_ups_o hm_17 (Nat.le_of_ble_eq_true rfl) mo2_15 (by decide)
  have mo1_17 := m_ups_o hm_17 (Nat.le_of_ble_eq_true rfl) mo1_15 (by decide)
  have mo0_17 := m_ups_o hm_17 (Nat.le_of_ble_eq_true rfl) mo0_15 (by decide)
  have mo8_17 : m_17[8]? = some _ := m_ups_n hm_17 (Nat.le_of_ble_eq_true rfl) ml_15 0 rfl
  (try simp only [Ob.rn, rn, rn.rnL, rho, List.length_cons, List.length_nil, List.getElem?_cons_zero, List.getElem?_cons_succ, List.getElem?_nil, Nat.reduceAdd, Nat.reduceSub, Nat.add_zero, Nat.sub_self, scnA, one_iE, app_m, List.length_map] at mo8_17)
  have ml_17 : _ = 9 := m_ups_l hm_17 ml_15 1 rfl
  clear hm_17 mo7_15 mo6_15 mo5_15 mo4_15 mo3_15 mo2_15 mo1_15 mo0_15 ml_15
  refine ae8 (u2 rfl s2_16) (u2 rfl s3_16) (u2 rfl s4_16) (u2 rfl s5_16) (u2 rfl s6_16) (u2 rfl s7_16) (u2 rfl s8_16) up_h ?_; clear s0_16 s2_16 s3_16 s4_16 s5_16 s6_16 s7_16 s8_16; intro e_18 s2_18 s3_18 s4_18 s5_18 s6_18 s7_18 s8_18 s20_18
  refine then_n <| aw_block <| aw_adoptC 111 4 1 mo4_17 rfl ml_17 (fun m0_19 m_19 h0_19 h1_19 => ?_)
  have mp9_19 := m_push h0_19 ml_17
  have mo9_19 := m_set_o h1_19 mp9_19 (by decide)
  have mp7_19 := m_push_o h0_19 mo7_17
  have mo7_19 := m_set_o h1_19 mp7_19 (by decide)
  have mp6_19 := m_push_o h0_19 mo6_17
  have mo6_19 := m_set_o h1_19 mp6_19 (by decide)
  have mp5_19 := m_push_o h0_19 mo5_17
  have mo5_19 := m_set_o h1_19 mp5_19 (by decide)
  have mp4_19 := m_push_o h0_19 mo4_17
  have mo4_19 := m_set h1_19 mp4_19
  simp only [List.set_cons_zero, List.set_cons_succ] at mo4_19
  have mp3_19 := m_push_o h0_19 mo3_17
  have mo3_19 := m_set_o h1_19 mp3_19 (by decide)
  have mp2_19 := m_push_o h0_19 mo2_17
  have mo2_19 := m_set_o h1_19 mp2_19 (by decide)
  have mp1_19 := m_push_o h0_19 mo1_17
  have mo1_19 := m_set_o h1_19 mp1_19 (by decide)
  have mp0_19 := m_push_o h0_19 mo0_17
  have mo0_19 := m_set_o h1_19 mp0_19 (by decide)
  have mp8_19 := m_push_o h0_19 mo8_17
  have mo8_19 := m_set_o h1_19 mp8_19 (by decide)
  have mq_19 := m_push_l h0_19 ml_17
  have ml_19 : _ = 10 := m_set_l h1_19 mq_19
  clear h0_19 h1_19 mq_19 mp9_19 mp7_19 mp6_19 mp5_19 mp4_19 mp3_19 mp2_19 mp1_19 mp0_19 mp8_19
  refine aw_adoptC 3 1 0 mo5_19 rfl ml_19 (fun m0_20 m_20 h0_20 h1_20 => ?_)
  have mp10_20 := m_push h0_20 ml_19
  have mo10_20 := m_set_o h1_20 mp10_20 (by decide)
  have mp9_20 := m_push_o h0_20 mo9_19
  have mo9_20 := m_set_o h1_20 mp9_20 (by decide)
  have mp7_20 := m_push_o h0_20 mo7_19
  have mo7_20 := m_set_o h1_20 mp7_20 (by decide)
  have mp6_20 := m_push_o h0_20 mo6_19
  have mo6_20 := m_set_o h1_20 mp6_20 (by decide)
  have mp5_20 := m_push_o h0_20 mo5_19
  have mo5_20 := m_set h1_20 mp5_20
  simp only [List.set_cons_zero, List.set_cons_succ] at mo5_20
  have mp4_20 := m_push_o h0_20 mo4_19
  have mo4_20 := m_set_o h1_20 mp4_20 (by decide)
  have mp3_20 := m_push_o h0_20 mo3_19
  have mo3_20 := m_set_o h1_20 mp3_20 (by decide)
  have mp2_20 := m_push_o h0_20 mo2_19
  have mo2_20 := m_set_o h1_20 mp2_20 (by decide)
  have mp1_20 := m_push_o h0_20 mo1_19
  have mo1_20 := m_set_o h1_20 mp1_20 (by decide)
  have mp0_20 := m_push_o h0_20 mo0_19
  have mo0_20 := m_set_o h1_20 mp0_20 (by decide)
  have mp8_20 := m_push_o h0_20 mo8_19
  have mo8_20 := m_set_o h1_20 mp8_20 (by decide)
  have mq_20 := m_push_l h0_20 ml_19
  have ml_20 : _ = 11 := m_set_l h1_20 mq_20
  clear h0_20 h1_20 mq_20 mp10_20 mp9_20 mp7_20 mp6_20 mp5_20 mp4_20 mp3_20 mp2_20 mp1_20 mp0_20 mp8_20
  refine aw_rangeV1 s20_18 (lines_gen tx hl 8) z27_hcf103 (by exact (by rintro y hy; obtain ⟨_, _, rfl⟩ := List.mem_map.1 hy; rfl)) (Nat.le_of_ble_eq_true rfl) mo8_20 (fun i mem => ∃ s : (PSt × Nat × Nat × Nat), match s with | ⟨st, jp, ja, f⟩ => (mem[4]? = some (.box 24 [.v (.string (bs st.nm)), .own jp])) ∧ (mem[jp]? = some (.row 111 4 (st.ps.map pE))) ∧ (mem[5]? = some (.box 76 [.own ja])) ∧ (mem[ja]? = some (.row 3 1 (st.at'.map iE))) ∧ (mem[6]? = some (.box 91 [.v (.func (.func f) #[] #[])])) ∧ (mem[7]? = some (.box 3 [iA i])) ∧ (mem[3]? = m_20[3]?) ∧ (mem[2]? = m_20[2]?) ∧ (mem[1]? = m_20[1]?) ∧ (mem[0]? = m_20[0]?) ∧ (∃ n, mem.length = n ∧ 11 ≤ n) ∧ ((9 ≤ jp ∧ 9 ≤ ja ∧ jp ≠ ja ∧ PInv tx i st R ∧ f = if st.at' = [] then 39 else 43))) (by rintro i_ m_ c_ d_ hc_ ⟨⟨st, jp, ja, f⟩, mo4_21, mojp_21, mo5_21, moja_21, mo6_21, mo7_21, mk3_21, mk2_21, mk1_21, mk0_21, ⟨n_21, ml_21, hn_21⟩, hinv⟩; exact ⟨⟨st, jp, ja, f⟩, (m_set_o rfl mo4_21 (by decide)), (m_set_o rfl mojp_21 (fun h_ => by rw [h_] at mojp_21; rw [hc_] at mojp_21; cases mojp_21)), (m_set_o rfl mo5_21 (by decide)), (m_set_o rfl moja_21 (fun h_ => by rw [h_] at moja_21; rw [hc_] at moja_21; cases moja_21)), (m_set_o rfl mo6_21 (by decide)), (m_set_o rfl mo7_21 (by decide)), (m_set_o rfl mk3_21 (by decide)), (m_set_o rfl mk2_21 (by decide)), (m_set_o rfl mk1_21 (by decide)), (m_set_o rfl mk0_21 (by decide)), ⟨_, m_set_l' ml_21, hn_21⟩, hinv⟩) ⟨⟨⟨[], [], []⟩, _, _, _⟩, mo4_20, mo9_20, mo5_20, mo10_20, mo6_20, mo7_20, rfl, rfl, rfl, rfl, ⟨_, ml_20, by omega⟩, ?_⟩ ?_ ?_
  ·exact ⟨by omega, by omega, by omega, hI0, rfl⟩
  ·rintro i y0_21 m_21 c_21 hy_21 ⟨⟨st, jp, ja, f⟩, mo4_21, mojp_21, mo5_21, moja_21, mo6_21, mo7_21, mk3_21, mk2_21, mk1_21, mk0_21, ⟨n_21, ml_21, hn_21⟩, hinv⟩ hv_21
   have jljp_21 := m_lt mojp_21 ml_21
   have jlja_21 := m_lt moja_21 ml_21
   (obtain ⟨i1, i2, i3, hinv, hfe⟩ := hinv; obtain ⟨l, hl', rfl, hll', hi'⟩ := ln_of hy_21; have hcl := cutN_len l; have hps := hinv.ps; have hal : st.at'.length ≤ st.ps.length + 1 := (if h_ : st.at' = [] then (by rw [h_]; simp) else (by rw [hinv.ato h_]; exact Nat.le_refl _)); have cP := peek_ok (cutN l) (scn0 ((i : Int) + 1)) (by omega) (Nat.zero_le _); obtain ⟨s1, hs1⟩ : ∃ s, s = pekS (cutN l) (scn0 ((i : Int) + 1)) := ⟨_, rfl⟩; have hs1a : s1.a ≤ (cutN l).length := (by rw [hs1]; exact pek0 _ _); obtain ⟨w1, hw1⟩ : ∃ w, w = nxtW (cutN l) 0 := ⟨_, rfl⟩; rw [show nxtW (cutN l) (scn0 ((i : Int) + 1)).a = w1 from hw1.symm, ← hs1] at cP)
   have mo3_21 := mk3_21.trans mo3_20
   have mo2_21 := mk2_21.trans mo2_20
   have mo1_21 := mk1_21.trans mo1_20
   have mo0_21 := mk0_21.trans mo0_20
   refine aw_env (fun e_21 he_21 => ?_)
   have s2_21 := ef 2 he_21 (up_m rfl s2_18)
   have s3_21 := ef 3 he_21 (up_m rfl s3_18)
   have s4_21 := ef 4 he_21 (up_m rfl s4_18)
   have s5_21 := ef 5 he_21 (up_m rfl s5_18)
   have s6_21 := ef 6 he_21 (up_m rfl s6_18)
   have s7_21 := ef 7 he_21 (up_m rfl s7_18)
   have s8_21 := ef 8 he_21 (up_m rfl s8_18)
   have s20_21 := ef 20 he_21 (up_m rfl s20_18)
   have s21_21 := ef 21 he_21 up_h
   clear he_21
   refine at_ <| ar (ro_assign s21_21) rfl <| ae8 (up_m rfl s2_21) (up_m rfl s3_21) (up_m rfl s4_21) (up_m rfl s5_21) (up_m rfl s6_21) (up_m rfl s7_21) (up_m rfl s8_21) up_h ?_; clear s20_21 s21_21 s2_21 s3_21 s4_21 s5_21 s6_21 s7_21 s8_21; intro e_22 s2_22 s3_22 s4_22 s5_22 s6_22 s7_22 s8_22 s9_22
   refine fallb_n ?_
   refine aw_block <| aw_seq <| at_ <| ar (ro_eq (ro_ld_ptr z27_ty3 rfl mo7_21 s8_22 (nle rfl)) (by simp only [pS, Value.cells, Nat.reduceAdd, scnA, one_iE, app_m, List.length_map] <;> rfl)) rfl ?_
   (refine ar (ro_add' up_h ev_c ?_) rfl ?_; · (unfold In64; omega))
   refine al_stm (st_store (u2 rfl s8_22) up_h rfl rfl mo7_21 qsz3 rfl (nle rfl)) trivial rfl (fun m_23 hm_23 => ?_)
   have mo7_23 := m_set hm_23 mo7_21
   simp only [pS, Value.cells, Nat.reduceAdd, scnA, one_iE, app_m, List.length_map] at mo7_23
   have mo4_23 := m_set_o hm_23 mo4_21 (by decide)
   have mojp_23 := m_set_o hm_23 mojp_21 (by omega)
   have mo5_23 := m_set_o hm_23 mo5_21 (by decide)
   have moja_23 := m_set_o hm_23 moja_21 (by omega)
   have mo6_23 := m_set_o hm_23 mo6_21 (by decide)
   have mo3_23 := m_set_o hm_23 mo3_21 (by decide)
   have mo2_23 := m_set_o hm_23 mo2_21 (by decide)
   have mo1_23 := m_set_o hm_23 mo1_21 (by decide)
   have mo0_23 := m_set_o hm_23 mo0_21 (by decide)
   have mo8_23 := m_set_o hm_23 hv_21 (by decide)
   have ml_23 := m_set_l hm_23 ml_21
   clear hm_23 mo4_21 mojp_21 mo5_21 moja_21 mo6_21 mo7_21 mo3_21 mo2_21 mo1_21 mo0_21 hv_21
   refine ae8 (up_n (u2 rfl s2_22)) (up_n (u2 rfl s3_22)) (up_n (u2 rfl s4_22)) (up_n (u2 rfl s5_22)) (up_n (u2 rfl s6_22)) (up_n (u2 rfl s7_22)) (up_n (u2 rfl s8_22)) (up_n (u2 rfl s9_22)) ?_; clear s2_22 s3_22 s4_22 s5_22 s6_22 s7_22 s8_22 s9_22; intro e_24 s2_24 s3_24 s4_24 s5_24 s6_24 s7_24 s8_24 s9_24
   refine then_n <| aw_seq <| aw_draw 4 (by kernel_rfl) (by kernel_rfl) (by kernel_rfl) (by kernel_rfl) ?_
   refine dr (ro_eq (ro_ld_ptr z27_ty3 rfl mo7_23 s8_24 (nle rfl)) (by simp only [pS, Value.cells, Nat.reduceAdd, scnA, one_iE, app_m, List.length_map] <;> rfl)) rfl ?_
   refine dr (ro_move (up_m rfl s9_24)) rfl <| dr (ro_call (evL_cons up_h (evL_cons ev_c evL_nil)) rfl (tsx_ok l (by omega)) z27_hcf41) rfl ?_
   refine dr (ro_build (evP_cons (u2 rfl up_h) (evP_cons up_h evP_nil)) z27_bz99 z27_bu99 z27_bp99 rfl) rfl ?_
   refine ds_nil <| al_stm (st_box up_h rfl ml_23) trivial rfl (fun m_25 hm_25 => ?_)
   have mon_21_25 := m_push hm_25 ml_23
   simp only [pS, Value.cells, Nat.reduceAdd, scnA, one_iE, app_m, List.length_map] at mon_21_25
   have mo7_25 := m_push_o hm_25 mo7_23
   have mo4_25 := m_push_o hm_25 mo4_23
   have mojp_25 := m_push_o hm_25 mojp_23
   have mo5_25 := m_push_o hm_25 mo5_23
   have moja_25 := m_push_o hm_25 moja_23
   have mo6_25 := m_push_o hm_25 mo6_23
   have mo3_25 := m_push_o hm_25 mo3_23
   have mo2_25 := m_push_o hm_25 mo2_23
   have mo1_25 := m_push_o hm_25 mo1_23
   have mo0_25 := m_push_o hm_25 mo0_23
   have mo8_25 := m_push_o hm_25 mo8_23
   have ml_25 := m_push_l hm_25 ml_23
   clear hm_25 mo7_23 mo4_23 mojp_23 mo5_23 moja_23 mo6_23 mo3_23 mo2_23 mo1_23 mo0_23 mo8_23
   refine ar (ro_assign up_h) rfl <| ae8 (u2 rfl (u4 rfl s2_24)) (u2 rfl (u4 rfl s3_24)) (u2 rfl (u4 rfl s4_24)) (u2 rfl (u4 rfl s5_24)) (u2 rfl (u4 rfl s6_24)) (u2 rfl (u4 rfl s7_24)) (u2 rfl (u4 rfl s8_24)) up_h ?_; clear s2_24 s3_24 s4_24 s5_24 s6_24 s7_24 s8_24 s9_24; intro e_26 s2_26 s3_26 s4_26 s5_26 s6_26 s7_26 s8_26 s10_26
   refine then_n <| aw_seq <| aw_seq <| at_ <| ar (ro_move s10_26) rfl <| al_stm (st_muE (st_mu' (cP) [n_21] ml_25 (evL_cons up_h evL_nil) (by first | exact .nil | exact .refl mo0_25 | exact .at_ mo0_25 (by simp [*])) (by simp <;> omega) (.ob mon_21_25 .nil) rfl qhcf42) (rn_ro rfl)) trivial rfl (fun m_27 hm_27 => ?_)
   have mon_21_27 : m_27[n_21]? = some _ := m_ups_t hm_27 (Nat.le_of_ble_eq_true rfl) (by simp <;> omega) (lt_cons mon_21_25 lt_nil) 0 rfl rfl
   (try simp only [Ob.rn, rn, rn.rnL, rho, List.length_cons, List.length_nil, List.getElem?_cons_zero, List.getElem?_cons_succ, List.getElem?_nil, Nat.reduceAdd, Nat.reduceSub, Nat.add_zero, Nat.sub_self, scnA, one_iE, app_m, List.length_map] at mon_21_27)
   have mo7_27 := m_ups_o hm_27 (Nat.le_of_ble_eq_true rfl) mo7_25 (by simp <;> omega)
   have mo4_27 := m_ups_o hm_27 (Nat.le_of_ble_eq_true rfl) mo4_25 (by simp <;> omega)
   have mojp_27 := m_ups_o hm_27 (Nat.le_of_ble_eq_true rfl) mojp_25 (by simp <;> omega)
   have mo5_27 := m_ups_o hm_27 (Nat.le_of_ble_eq_true rfl) mo5_25 (by simp <;> omega)
   have moja_27 := m_ups_o hm_27 (Nat.le_of_ble_eq_true rfl) moja_25 (by simp <;> omega)
   have mo6_27 := m_ups_o hm_27 (Nat.le_of_ble_eq_true rfl) mo6_25 (by simp <;> omega)
   have mo3_27 := m_ups_o hm_27 (Nat.le_of_ble_eq_true rfl) mo3_25 (by simp <;> omega)
   have mo2_27 := m_ups_o hm_27 (Nat.le_of_ble_eq_true rfl) mo2_25 (by simp <;> omega)
   have mo1_27 := m_ups_o hm_27 (Nat.le_of_ble_eq_true rfl) mo1_25 (by simp <;> omega)
   have mo0_27 := m_ups_o hm_27 (Nat.le_of_ble_eq_true rfl) mo0_25 (by simp <;> omega)
   have mo8_27 := m_ups_o hm_27 (Nat.le_of_ble_eq_true rfl) mo8_25 (by simp <;> omega)
   have ml_27 : _ = n_21 + 1 := m_ups_l hm_27 ml_25 0 rfl
   clear hm_27 mon_21_25 mo7_25 mo4_25 mojp_25 mo5_25 moja_25 mo6_25 mo3_25 mo2_25 mo1_25 mo0_25 mo8_25 ml_25
   refine ar (ro_seql up_h ev_c) rfl <| ae9 (up_m rfl (u2 rfl s2_26)) (up_m rfl (u2 rfl s3_26)) (up_m rfl (u2 rfl s4_26)) (up_m rfl (u2 rfl s5_26)) (up_m rfl (u2 rfl s6_26)) (up_m rfl (u2 rfl s7_26)) (up_m rfl (u2 rfl s8_26)) (up_m rfl (u2 rfl s10_26)) up_h ?_; clear s10_26 s2_26 s3_26 s4_26 s5_26 s6_26 s7_26 s8_26; intro e_28 s2_28 s3_28 s4_28 s5_28 s6_28 s7_28 s8_28 s10_28 s31_28
   refine then_n <| aw_case s31_28 (fun hq_29 => ?_) (fun hq_29 => ?_)
   ·skip
    (have hn : nxtW (cutN l) 0 = [] := by have h_ := hq_29; rw [show (⟨#[]⟩ : ByteArray) = bs [] from rfl, bs_toList, bs_toList, hw1] at h_; exact eq_of_beq h_)
    refine aw_exit <| then_x <| block_hit <| rndv_n mo8_27 ⟨⟨st, jp, ja, f⟩, mo4_27, mojp_27, mo5_27, moja_27, mo6_27, mo7_27, (mo3_27.trans mo3_20.symm), (mo2_27.trans mo2_20.symm), (mo1_27.trans mo1_20.symm), (mo0_27.trans mo0_20.symm), ⟨_, ml_27, by omega⟩, ?_⟩
    exact ⟨i1, i2, i3, hinv.skip hl' hn, hfe⟩
   (have hn : nxtW (cutN l) 0 ≠ [] := (by have h_ := hq_29; rw [show (⟨#[]⟩ : ByteArray) = bs [] from rfl, bs_toList, bs_toList, hw1] at h_; intro h2_; rw [h2_] at h_; cases h_))
   refine aw_skip <| then_n <| aw_seq <| (Classical.em (st.at' = [])).elim (fun hf_30 => ?_) (fun hf_30 => ?_)
   ·(have hq : f = 39 := (by rw [hfe, if_pos hf_30]); subst hq; obtain ⟨q1, q2⟩ := stepA hf_30 ((i : Int) + 1) (cutN l); rw [← hs1] at q1 q2; have cA := head_ok es er (cutN l) s1 (by omega) hs1a (bs st.nm) (st.ps.map pE); generalize hdS (cutN l) s1 = s2 at cA q1; generalize hdN (cutN l) s1 = v2 at cA q2; clear cP)
    refine at_ <| ar (ro_eq (ro_ld_ptr z27_ty91 rfl mo6_27 s7_28 (nle rfl)) (by simp only [pS, Value.cells, Nat.reduceAdd, scnA, one_iE, app_m, List.length_map] <;> rfl)) rfl ?_
    refine ar (ro_move (up_m rfl s10_28)) rfl <| al_stm (st_muE (st_muf (up_m rfl up_h) (cA) [n_21, 4, jp] ml_27 (evL_cons up_h (evL_cons (u2 rfl s5_28) evL_nil)) (by first | exact .nil | exact .refl mo0_27 | exact .at_ mo0_27 (by simp [*])) (by simp <;> omega) (.ob mon_21_27 (.ob mo4_27 (.ob mojp_27 .nil))) rfl z27_hcf39) (rn_ro rfl)) trivial rfl (fun m_31 hm_31 => ?_)
    have mon_21_31 : m_31[n_21]? = some _ := m_ups_t hm_31 (Nat.le_of_ble_eq_true rfl) (by simp <;> omega) (lt_cons mon_21_27 (lt_cons mo4_27 (lt_cons mojp_27 lt_nil))) 0 rfl rfl
    (try simp only [Ob.rn, rn, rn.rnL, rho, List.length_cons, List.length_nil, List.getElem?_cons_zero, List.getElem?_cons_succ, List.getElem?_nil, Nat.reduceAdd, Nat.reduceSub, Nat.add_zero, Nat.sub_self, scnA, one_iE, app_m, List.length_map] at mon_21_31)
    have mo4_31 : m_31[4]? = some _ := m_ups_t hm_31 (Nat.le_of_ble_eq_true rfl) (by simp <;> omega) (lt_cons mon_21_27 (lt_cons mo4_27 (lt_cons mojp_27 lt_nil))) 1 rfl rfl
    (try simp only [Ob.rn, rn, rn.rnL, rho, List.length_cons, List.length_nil, List.getElem?_cons_zero, List.getElem?_cons_succ, List.getElem?_nil, Nat.reduceAdd, Nat.reduceSub, Nat.add_zero, Nat.sub_self, scnA, one_iE, app_m, List.length_map] at mo4_31)
    have mojp_31 : m_31[jp]? = some _ := m_ups_t hm_31 (Nat.le_of_ble_eq_true rfl) (by simp <;> omega) (lt_cons mon_21_27 (lt_cons mo4_27 (lt_cons mojp_27 lt_nil))) 2 rfl rfl
    (try simp only [Ob.rn, rn, rn.rnL, rho, List.length_cons, List.length_nil, List.getElem?_cons_zero, List.getElem?_cons_succ, List.getElem?_nil, Nat.reduceAdd, Nat.reduceSub, Nat.add_zero, Nat.sub_self, scnA, one_iE, app_m, List.length_map] at mojp_31)
    have mo7_31 := m_ups_o hm_31 (Nat.le_of_ble_eq_true rfl) mo7_27 (by simp <;> omega)
    have mo5_31 := m_ups_o hm_31 (Nat.le_of_ble_eq_true rfl) mo5_27 (by simp <;> omega)
    have moja_31 := m_ups_o hm_31 (Nat.le_of_ble_eq_true rfl) moja_27 (by simp <;> omega)
    have mo6_31 := m_ups_o hm_31 (Nat.le_of_ble_eq_true rfl) mo6_27 (by simp <;> omega)
    have mo3_31 := m_ups_o hm_31 (Nat.le_of_ble_eq_true rfl) mo3_27 (by simp <;> omega)
    have mo2_31 := m_ups_o hm_31 (Nat.le_of_ble_eq_true rfl) mo2_27 (by simp <;> omega)
    have mo1_31 := m_ups_o hm_31 (Nat.le_of_ble_eq_true rfl) mo1_27 (by simp <;> omega)
    have mo0_31 := m_ups_o hm_31 (Nat.le_of_ble_eq_true rfl) mo0_27 (by simp <;> omega)
    have mo8_31 := m_ups_o hm_31 (Nat.le_of_ble_eq_true rfl) mo8_27 (by simp <;> omega)
    have ml_31 : _ = n_21 + 1 := m_ups_l hm_31 ml_27 0 rfl
    clear hm_31 mon_21_27 mo7_27 mo4_27 mojp_27 mo5_27 moja_27 mo6_27 mo3_27 mo2_27 mo1_27 mo0_27 mo8_27 ml_27
    refine ae8 (up_m rfl (u2 rfl s2_28)) (up_m rfl (u2 rfl s3_28)) (up_m rfl (u2 rfl s4_28)) (up_m rfl (u2 rfl s5_28)) (up_m rfl (u2 rfl s6_28)) (up_m rfl (u2 rfl s7_28)) (up_m rfl (u2 rfl s8_28)) (up_m rfl (u2 rfl s10_28)) ?_; clear s10_28 s2_28 s31_28 s3_28 s4_28 s5_28 s6_28 s7_28 s8_28; intro e_32 s2_32 s3_32 s4_32 s5_32 s6_32 s7_32 s8_32 s10_32
    refine then_n <| aw_seq <| aw_seq <| at_ <| ar (ro_move s10_32) rfl <| ar (ro_nilP up_h) rfl <| ar (ro_fld_ptr qfl99_5 rfl up_h) rfl <| ar (ro_eq (ro_ld_ptr z27_ty29 rfl mon_21_31 up_h (nle rfl)) (by simp only [pS, Value.cells, Nat.reduceAdd, scnA, one_iE, app_m, List.length_map] <;> rfl)) rfl ?_
    refine ar (ro_neq up_h ev_c) rfl <| ae9 (up_m rfl (u4 rfl s2_32)) (up_m rfl (u4 rfl s3_32)) (up_m rfl (u4 rfl s4_32)) (up_m rfl (u4 rfl s5_32)) (up_m rfl (u4 rfl s6_32)) (up_m rfl (u4 rfl s7_32)) (up_m rfl (u4 rfl s8_32)) (up_m rfl (u4 rfl s10_32)) up_h ?_; clear s10_32 s2_32 s3_32 s4_32 s5_32 s6_32 s7_32 s8_32; intro e_33 s2_33 s3_33 s4_33 s5_33 s6_33 s7_33 s8_33 s10_33 s39_33
    refine then_n <| aw_case s39_33 (fun hq_34 => ?_) (fun hq_34 => ?_)
    ·replace hq_34 := bnt hq_34
     (have he : (stepS st ((i : Int) + 1) (cutN l)).e ≠ 0 := by rw [q1]; exact hq_34)
     refine aw_seq <| aw_drawK 11 0 ml_31 (by kernel_rfl) (by kernel_rfl) (by kernel_rfl) (by kernel_rfl) (fun m_35 hm_35 => ?_)
     have mon_21_35 := m_room_o hm_35 mon_21_31
     have mo4_35 := m_room_o hm_35 mo4_31
     have mojp_35 := m_room_o hm_35 mojp_31
     have mo7_35 := m_room_o hm_35 mo7_31
     have mo5_35 := m_room_o hm_35 mo5_31
     have moja_35 := m_room_o hm_35 moja_31
     have mo6_35 := m_room_o hm_35 mo6_31
     have mo3_35 := m_room_o hm_35 mo3_31
     have mo2_35 := m_room_o hm_35 mo2_31
     have mo1_35 := m_room_o hm_35 mo1_31
     have mo0_35 := m_room_o hm_35 mo0_31
     have mo8_35 := m_room_o hm_35 mo8_31
     have ml_35 : _ = n_21 + 1 := m_room_l (K := 0) hm_35 ml_31
     clear hm_35 mon_21_31 mo4_31 mojp_31 mo7_31 mo5_31 moja_31 mo6_31 mo3_31 mo2_31 mo1_31 mo0_31 mo8_31 ml_31
     refine dh_ro (fun M_ hM_ => (ro_build evP_nil qbz24 qbu24 qbp24 rfl)) trivial ?_
     refine dh_ro (fun M_ hM_ => (ro_move (up_m rfl s10_33))) trivial ?_
     refine dh_ro (fun M_ hM_ => (ro_nilP up_h)) trivial ?_
     refine dh_ro (fun M_ hM_ => (ro_fld_ptr qfl99_4 rfl up_h)) trivial ?_
     refine dh_ld (n_21) (fun M_ hM_ => (ro_eq (ro_ld_ptr z27_ty28 rfl (agr hM_ mon_21_35 (by simp)) up_h (nle rfl)) (by simp only [pS, Value.cells, Nat.reduceAdd, scnA, one_iE, app_m, List.length_map] <;> rfl))) trivial trivial ?_
     refine dh_ro (fun M_ hM_ => (ro_move (up_m rfl (u4 rfl s10_33)))) trivial ?_
     refine dh_ro (fun M_ hM_ => (ro_nilP up_h)) trivial ?_
     refine dh_ro (fun M_ hM_ => (ro_fld_ptr qfl99_5 rfl up_h)) trivial ?_
     refine dh_ld (n_21) (fun M_ hM_ => (ro_eq (ro_ld_ptr z27_ty29 rfl (agr hM_ mon_21_35 (by simp)) up_h (nle rfl)) (by simp only [pS, Value.cells, Nat.reduceAdd, scnA, one_iE, app_m, List.length_map] <;> rfl))) trivial trivial ?_
     refine dh_set (1) (fun M_ hM_ => (se_store (up_m rfl (u8 rfl s2_33)) (u8 rfl up_h) rfl rfl (agr hM_ mo1_35 (by simp)) qsz24 rfl (nle rfl))) trivial trivial ⟨.inl (by simp <;> omega), ⟨.inl (by simp <;> omega), trivial⟩⟩ (fun m_36 hm_36 => ?_)
     have mo1_36 := m_set hm_36 mo1_35
     simp only [pS, Value.cells, Nat.reduceAdd, scnA, one_iE, app_m, List.length_map] at mo1_36
     have mon_21_36 := m_set_o hm_36 mon_21_35 (by omega)
     have mo4_36 := m_set_o hm_36 mo4_35 (by decide)
     have mojp_36 := m_set_o hm_36 mojp_35 (by omega)
     have mo7_36 := m_set_o hm_36 mo7_35 (by decide)
     have mo5_36 := m_set_o hm_36 mo5_35 (by decide)
     have moja_36 := m_set_o hm_36 moja_35 (by omega)
     have mo6_36 := m_set_o hm_36 mo6_35 (by decide)
     have mo3_36 := m_set_o hm_36 mo3_35 (by decide)
     have mo2_36 := m_set_o hm_36 mo2_35 (by decide)
     have mo0_36 := m_set_o hm_36 mo0_35 (by decide)
     have mo8_36 := m_set_o hm_36 mo8_35 (by decide)
     have ml_36 := m_set_l hm_36 ml_35
     clear hm_36 mon_21_35 mo4_35 mojp_35 mo7_35 mo5_35 moja_35 mo6_35 mo3_35 mo2_35 mo1_35 mo0_35 mo8_35
     refine dh_set (2) (fun M_ hM_ => (se_store (up_n (up_m rfl (u8 rfl s3_33))) (up_n (u4 rfl up_h)) rfl rfl (agr hM_ mo2_36 (by simp)) qsz28 rfl (nle rfl))) trivial ⟨.inl (by simp <;> omega), trivial⟩ ⟨.inl (by simp <;> omega), ⟨.inl (by simp <;> omega), ⟨.inl (by simp <;> omega), trivial⟩⟩⟩ (fun m_37 hm_37 => ?_)
     have mo2_37 := m_set hm_37 mo2_36
     simp only [pS, Value.cells, Nat.reduceAdd, scnA, one_iE, app_m, List.length_map] at mo2_37
     have mo1_37 := m_set_o hm_37 mo1_36 (by decide)
     have mon_21_37 := m_set_o hm_37 mon_21_36 (by omega)
     have mo4_37 := m_set_o hm_37 mo4_36 (by decide)
     have mojp_37 := m_set_o hm_37 mojp_36 (by omega)
     have mo7_37 := m_set_o hm_37 mo7_36 (by decide)
     have mo5_37 := m_set_o hm_37 mo5_36 (by decide)
     have moja_37 := m_set_o hm_37 moja_36 (by omega)
     have mo6_37 := m_set_o hm_37 mo6_36 (by decide)
     have mo3_37 := m_set_o hm_37 mo3_36 (by decide)
     have mo0_37 := m_set_o hm_37 mo0_36 (by decide)
     have mo8_37 := m_set_o hm_37 mo8_36 (by decide)
     have ml_37 := m_set_l hm_37 ml_36
     clear hm_37 mo1_36 mon_21_36 mo4_36 mojp_36 mo7_36 mo5_36 moja_36 mo6_36 mo3_36 mo2_36 mo0_36 mo8_36
     refine dh_nil rfl ?_
     refine al_stm (st_store (up_n (up_n (up_m rfl (u8 rfl s4_33)))) (up_n (up_n up_h)) rfl rfl mo3_37 qsz29 rfl (nle rfl)) trivial rfl (fun m_38 hm_38 => ?_)
     have mo3_38 := m_set hm_38 mo3_37
     simp only [pS, Value.cells, Nat.reduceAdd, scnA, one_iE, app_m, List.length_map] at mo3_38
     have mo2_38 := m_set_o hm_38 mo2_37 (by decide)
     have mo1_38 := m_set_o hm_38 mo1_37 (by decide)
     have mon_21_38 := m_set_o hm_38 mon_21_37 (by omega)
     have mo4_38 := m_set_o hm_38 mo4_37 (by decide)
     have mojp_38 := m_set_o hm_38 mojp_37 (by omega)
     have mo7_38 := m_set_o hm_38 mo7_37 (by decide)
     have mo5_38 := m_set_o hm_38 mo5_37 (by decide)
     have moja_38 := m_set_o hm_38 moja_37 (by omega)
     have mo6_38 := m_set_o hm_38 mo6_37 (by decide)
     have mo0_38 := m_set_o hm_38 mo0_37 (by decide)
     have mo8_38 := m_set_o hm_38 mo8_37 (by decide)
     have ml_38 := m_set_l hm_38 ml_37
     clear hm_38 mo2_37 mo1_37 mon_21_37 mo4_37 mojp_37 mo7_37 mo5_37 moja_37 mo6_37 mo3_37 mo0_37 mo8_37
     refine ae3 (up_n (up_n (up_n (up_m rfl (u8 rfl s2_33))))) (up_n (up_n (up_n (up_m rfl (u8 rfl s3_33))))) (up_n (up_n (up_n (up_m rfl (u8 rfl s4_33))))) ?_; clear s10_33 s2_33 s39_33 s3_33 s4_33 s5_33 s6_33 s7_33 s8_33; intro e_39 s2_39 s3_39 s4_39
     refine then_n <| aw_ret <| then_r <| block_r <| rndv_r mo8_38 <| block_r <| then_r <| ret3 (.inr rfl) (by kernel_rfl) (resV_cell s2_18 mo1_38 z27_ty24 (nle rfl) (by simp)) (resV_cell s3_18 mo2_38 z27_ty28 (nle rfl) (by simp)) (resV_cell s4_18 mo3_38 z27_ty29 (nle rfl) (by simp)) (vw_r (vw_agg (vwl_cons (.ro _ rfl) (vwl_cons (.nil 4) vwl_nil)))) (vw_r (.ro _ rfl)) (vw_c (.ro _ rfl)) ?_
     clear s20_18 s2_18 s3_18 s4_18 s5_18 s6_18 s7_18 s8_18 mo3_38 mo2_38 mo1_38 mon_21_38 mo4_38 mojp_38 mo7_38 mo5_38 moja_38 mo6_38 mo0_38 mo8_38 ml_38
     (rw [hinv.stop hl' hn he, q1]; rfl)
    replace hq_34 := bnf hq_34
    (have he : (stepS st ((i : Int) + 1) (cutN l)).e = 0 := by rw [q1]; exact hq_34)
    refine aw_skip <| then_n <| at_ <| ar (ro_eq (ro_ld_ptr z27_ty76 rfl mo5_31 s6_33 (nle rfl)) (by simp only [pS, Value.cells, Nat.reduceAdd, scnA, one_iE, app_m, List.length_map] <;> rfl)) rfl ?_
    refine ar (ro_eq (ro_ld_ptr z27_ty3 rfl mo7_31 (up_m rfl s8_33) (nle rfl)) (by simp only [pS, Value.cells, Nat.reduceAdd, scnA, one_iE, app_m, List.length_map] <;> rfl)) rfl ?_
    refine ar (ro_lit z27_sl76 (evP_cons up_h evP_nil) rfl rfl rfl rfl) rfl <| al_stm (st_app z27_sl76 rfl ml_31 moja_31 (u2 rfl up_h) up_h (by rfl) (by simp only [lnS] <;> omega)) trivial rfl (fun m_40 hm_40 => ?_)
    have mon_21_1_40 := m_swap hm_40 ml_31
    simp only [pS, Value.cells, Nat.reduceAdd, scnA, one_iE, app_m, List.length_map] at mon_21_1_40
    have mon_21_40 := m_swap_o hm_40 mon_21_31 (by omega)
    have mo4_40 := m_swap_o hm_40 mo4_31 (by omega)
    have mojp_40 := m_swap_o hm_40 mojp_31 (by omega)
    have mo7_40 := m_swap_o hm_40 mo7_31 (by omega)
    have mo5_40 := m_swap_o hm_40 mo5_31 (by omega)
    have mo6_40 := m_swap_o hm_40 mo6_31 (by omega)
    have mo3_40 := m_swap_o hm_40 mo3_31 (by omega)
    have mo2_40 := m_swap_o hm_40 mo2_31 (by omega)
    have mo1_40 := m_swap_o hm_40 mo1_31 (by omega)
    have mo0_40 := m_swap_o hm_40 mo0_31 (by omega)
    have mo8_40 := m_swap_o hm_40 mo8_31 (by omega)
    have ml_40 := m_swap_l hm_40 ml_31
    clear hm_40 mon_21_31 mo4_31 mojp_31 mo7_31 mo5_31 moja_31 mo6_31 mo3_31 mo2_31 mo1_31 mo0_31 mo8_31
    refine al_stm (st_store_own (u4 rfl s6_33) up_h mo5_40 mon_21_1_40 z27_sz76 (nle rfl)) trivial rfl (fun m_41 hm_41 => ?_)
    have mo5_41 := m_set hm_41 mo5_40
    simp only [pS, Value.cells, Nat.reduceAdd, scnA, one_iE, app_m, List.length_map] at mo5_41
    have mon_21_1_41 := m_set_o hm_41 mon_21_1_40 (by omega)
    have mon_21_41 := m_set_o hm_41 mon_21_40 (by omega)
    have mo4_41 := m_set_o hm_41 mo4_40 (by decide)
    have mojp_41 := m_set_o hm_41 mojp_40 (by omega)
    have mo7_41 := m_set_o hm_41 mo7_40 (by decide)
    have mo6_41 := m_set_o hm_41 mo6_40 (by decide)
    have mo3_41 := m_set_o hm_41 mo3_40 (by decide)
    have mo2_41 := m_set_o hm_41 mo2_40 (by decide)
    have mo1_41 := m_set_o hm_41 mo1_40 (by decide)
    have mo0_41 := m_set_o hm_41 mo0_40 (by decide)
    have mo8_41 := m_set_o hm_41 mo8_40 (by decide)
    have ml_41 := m_set_l hm_41 ml_40
    clear hm_41 mon_21_1_40 mon_21_40 mo4_40 mojp_40 mo7_40 mo5_40 mo6_40 mo3_40 mo2_40 mo1_40 mo0_40 mo8_40
    refine al_stm (st_store (up_n (u4 rfl s7_33)) ev_f rfl rfl mo6_41 z27_sz91 rfl (nle rfl)) trivial rfl (fun m_42 hm_42 => ?_)
    have mo6_42 := m_set hm_42 mo6_41
    simp only [pS, Value.cells, Nat.reduceAdd, scnA, one_iE, app_m, List.length_map] at mo6_42
    have mo5_42 := m_set_o hm_42 mo5_41 (by decide)
    have mon_21_1_42 := m_set_o hm_42 mon_21_1_41 (by omega)
    have mon_21_42 := m_set_o hm_42 mon_21_41 (by omega)
    have mo4_42 := m_set_o hm_42 mo4_41 (by decide)
    have mojp_42 := m_set_o hm_42 mojp_41 (by omega)
    have mo7_42 := m_set_o hm_42 mo7_41 (by decide)
    have mo3_42 := m_set_o hm_42 mo3_41 (by decide)
    have mo2_42 := m_set_o hm_42 mo2_41 (by decide)
    have mo1_42 := m_set_o hm_42 mo1_41 (by decide)
    have mo0_42 := m_set_o hm_42 mo0_41 (by decide)
    have mo8_42 := m_set_o hm_42 mo8_41 (by decide)
    have ml_42 := m_set_l hm_42 ml_41
    clear hm_42 mo5_41 mon_21_1_41 mon_21_41 mo4_41 mojp_41 mo7_41 mo6_41 mo3_41 mo2_41 mo1_41 mo0_41 mo8_41
    refine ae6 (up_n (up_n (u4 rfl s2_33))) (up_n (up_n (u4 rfl s3_33))) (up_n (up_n (u4 rfl s4_33))) (up_n (up_n (u4 rfl s5_33))) (up_n (up_n (u4 rfl s6_33))) (up_n (up_n (u4 rfl s8_33))) ?_; clear s10_33 s2_33 s39_33 s3_33 s4_33 s5_33 s6_33 s7_33 s8_33; intro e_43 s2_43 s3_43 s4_43 s5_43 s6_43 s8_43
    refine block_n <| rndv_n mo8_42 ⟨⟨⟨v2, st.ps, st.at' ++ [(i : Int) + 1]⟩, jp, _, _⟩, mo4_42, mojp_42, mo5_42, mon_21_1_42, mo6_42, mo7_42, (mo3_42.trans mo3_20.symm), (mo2_42.trans mo2_20.symm), (mo1_42.trans mo1_20.symm), (mo0_42.trans mo0_20.symm), ⟨_, ml_42, by omega⟩, ?_⟩
    exact ⟨i1, by omega, by omega, by have h_ := hinv.step (by omega) hl' hn he; rw [q2] at h_; exact h_, by rw [if_neg (by simp)]⟩
   ·(have hq : f = 43 := (by rw [hfe, if_neg hf_30]); subst hq; obtain ⟨q1, q2⟩ := stepB hf_30 ((i : Int) + 1) (cutN l); rw [← hs1] at q1 q2; have cA := piece_ok es er hes her (cutN l) s1 (by omega) hs1a (bs st.nm) st.ps (by omega); generalize pcS (cutN l) s1 = s2 at cA q1; generalize pcV (cutN l) s1 = v2 at cA q2; clear cP)
    refine at_ <| ar (ro_eq (ro_ld_ptr z27_ty91 rfl mo6_27 s7_28 (nle rfl)) (by simp only [pS, Value.cells, Nat.reduceAdd, scnA, one_iE, app_m, List.length_map] <;> rfl)) rfl ?_
    refine ar (ro_move (up_m rfl s10_28)) rfl <| al_stm (st_muE (st_muf (up_m rfl up_h) (cA) [n_21, 4, jp] ml_27 (evL_cons up_h (evL_cons (u2 rfl s5_28) evL_nil)) (by first | exact .nil | exact .refl mo0_27 | exact .at_ mo0_27 (by simp [*])) (by simp <;> omega) (.ob mon_21_27 (.ob mo4_27 (.ob mojp_27 .nil))) rfl z27_hcf43) (rn_ro rfl)) trivial rfl (fun m_44 hm_44 => ?_)
    have mon_21_44 : m_44[n_21]? = some _ := m_ups_t hm_44 (Nat.le_of_ble_eq_true rfl) (by simp <;> omega) (lt_cons mon_21_27 (lt_cons mo4_27 (lt_cons mojp_27 lt_nil))) 0 rfl rfl
    (try simp only [Ob.rn, rn, rn.rnL, rho, List.length_cons, List.length_nil, List.getElem?_cons_zero, List.getElem?_cons_succ, List.getElem?_nil, Nat.reduceAdd, Nat.reduceSub, Nat.add_zero, Nat.sub_self, scnA, one_iE, app_m, List.length_map] at mon_21_44)
    have mo4_44 : m_44[4]? = some _ := m_ups_t hm_44 (Nat.le_of_ble_eq_true rfl) (by simp <;> omega) (lt_cons mon_21_27 (lt_cons mo4_27 (lt_cons mojp_27 lt_nil))) 1 rfl rfl
    (try simp only [Ob.rn, rn, rn.rnL, rho, List.length_cons, List.length_nil, List.getElem?_cons_zero, List.getElem?_cons_succ, List.getElem?_nil, Nat.reduceAdd, Nat.reduceSub, Nat.add_zero, Nat.sub_self, scnA, one_iE, app_m, List.length_map] at mo4_44)
    have mo7_44 := m_ups_o hm_44 (Nat.le_of_ble_eq_true rfl) mo7_27 (by simp <;> omega)
    have mo5_44 := m_ups_o hm_44 (Nat.le_of_ble_eq_true rfl) mo5_27 (by simp <;> omega)
    have moja_44 := m_ups_o hm_44 (Nat.le_of_ble_eq_true rfl) moja_27 (by simp <;> omega)
    have mo6_44 := m_ups_o hm_44 (Nat.le_of_ble_eq_true rfl) mo6_27 (by simp <;> omega)
    have mo3_44 := m_ups_o hm_44 (Nat.le_of_ble_eq_true rfl) mo3_27 (by simp <;> omega)
    have mo2_44 := m_ups_o hm_44 (Nat.le_of_ble_eq_true rfl) mo2_27 (by simp <;> omega)
    have mo1_44 := m_ups_o hm_44 (Nat.le_of_ble_eq_true rfl) mo1_27 (by simp <;> omega)
    have mo0_44 := m_ups_o hm_44 (Nat.le_of_ble_eq_true rfl) mo0_27 (by simp <;> omega)
    have mo8_44 := m_ups_o hm_44 (Nat.le_of_ble_eq_true rfl) mo8_27 (by simp <;> omega)
    have mon_21_1_44 : m_44[n_21 + 1]? = some _ := m_ups_n hm_44 (Nat.le_of_ble_eq_true rfl) ml_27 0 rfl
    (try simp only [Ob.rn, rn, rn.rnL, rho, List.length_cons, List.length_nil, List.getElem?_cons_zero, List.getElem?_cons_succ, List.getElem?_nil, Nat.reduceAdd, Nat.reduceSub, Nat.add_zero, Nat.sub_self, scnA, one_iE, app_m, List.length_map] at mon_21_1_44)
    have ml_44 : _ = n_21 + 1 + 1 := m_ups_l hm_44 ml_27 1 rfl
    clear hm_44 mon_21_27 mo7_27 mo4_27 mojp_27 mo5_27 moja_27 mo6_27 mo3_27 mo2_27 mo1_27 mo0_27 mo8_27 ml_27
    refine ae8 (up_m rfl (u2 rfl s2_28)) (up_m rfl (u2 rfl s3_28)) (up_m rfl (u2 rfl s4_28)) (up_m rfl (u2 rfl s5_28)) (up_m rfl (u2 rfl s6_28)) (up_m rfl (u2 rfl s7_28)) (up_m rfl (u2 rfl s8_28)) (up_m rfl (u2 rfl s10_28)) ?_; clear s10_28 s2_28 s31_28 s3_28 s4_28 s5_28 s6_28 s7_28 s8_28; intro e_45 s2_45 s3_45 s4_45 s5_45 s6_45 s7_45 s8_45 s10_45
    refine then_n <| aw_seq <| aw_seq <| at_ <| ar (ro_move s10_45) rfl <| ar (ro_nilP up_h) rfl <| ar (ro_fld_ptr qfl99_5 rfl up_h) rfl <| ar (ro_eq (ro_ld_ptr z27_ty29 rfl mon_21_44 up_h (nle rfl)) (by simp only [pS, Value.cells, Nat.reduceAdd, scnA, one_iE, app_m, List.length_map] <;> rfl)) rfl ?_
    refine ar (ro_neq up_h ev_c) rfl <| ae9 (up_m rfl (u4 rfl s2_45)) (up_m rfl (u4 rfl s3_45)) (up_m rfl (u4 rfl s4_45)) (up_m rfl (u4 rfl s5_45)) (up_m rfl (u4 rfl s6_45)) (up_m rfl (u4 rfl s7_45)) (up_m rfl (u4 rfl s8_45)) (up_m rfl (u4 rfl s10_45)) up_h ?_; clear s10_45 s2_45 s3_45 s4_45 s5_45 s6_45 s7_45 s8_45; intro e_46 s2_46 s3_46 s4_46 s5_46 s6_46 s7_46 s8_46 s10_46 s39_46
    refine then_n <| aw_case s39_46 (fun hq_47 => ?_) (fun hq_47 => ?_)
    ·replace hq_47 := bnt hq_47
     (have he : (stepS st ((i : Int) + 1) (cutN l)).e ≠ 0 := by rw [q1]; exact hq_47)
     refine aw_seq <| aw_drawK 11 0 ml_44 (by kernel_rfl) (by kernel_rfl) (by kernel_rfl) (by kernel_rfl) (fun m_48 hm_48 => ?_)
     have mon_21_48 := m_room_o hm_48 mon_21_44
     have mo4_48 := m_room_o hm_48 mo4_44
     have mo7_48 := m_room_o hm_48 mo7_44
     have mo5_48 := m_room_o hm_48 mo5_44
     have moja_48 := m_room_o hm_48 moja_44
     have mo6_48 := m_room_o hm_48 mo6_44
     have mo3_48 := m_room_o hm_48 mo3_44
     have mo2_48 := m_room_o hm_48 mo2_44
     have mo1_48 := m_room_o hm_48 mo1_44
     have mo0_48 := m_room_o hm_48 mo0_44
     have mo8_48 := m_room_o hm_48 mo8_44
     have mon_21_1_48 := m_room_o hm_48 mon_21_1_44
     have ml_48 : _ = n_21 + 1 + 1 := m_room_l (K := 0) hm_48 ml_44
     clear hm_48 mon_21_44 mo4_44 mo7_44 mo5_44 moja_44 mo6_44 mo3_44 mo2_44 mo1_44 mo0_44 mo8_44 mon_21_1_44 ml_44
     refine dh_ro (fun M_ hM_ => (ro_build evP_nil qbz24 qbu24 qbp24 rfl)) trivial ?_
     refine dh_ro (fun M_ hM_ => (ro_move (up_m rfl s10_46))) trivial ?_
     refine dh_ro (fun M_ hM_ => (ro_nilP up_h)) trivial ?_
     refine dh_ro (fun M_ hM_ => (ro_fld_ptr qfl99_4 rfl up_h)) trivial ?_
     refine dh_ld (n_21) (fun M_ hM_ => (ro_eq (ro_ld_ptr z27_ty28 rfl (agr hM_ mon_21_48 (by simp)) up_h (nle rfl)) (by simp only [pS, Value.cells, Nat.reduceAdd, scnA, one_iE, app_m, List.length_map] <;> rfl))) trivial trivial ?_
     refine dh_ro (fun M_ hM_ => (ro_move (up_m rfl (u4 rfl s10_46)))) trivial ?_
     refine dh_ro (fun M_ hM_ => (ro_nilP up_h)) trivial ?_
     refine dh_ro (fun M_ hM_ => (ro_fld_ptr qfl99_5 rfl up_h)) trivial ?_
     refine dh_ld (n_21) (fun M_ hM_ => (ro_eq (ro_ld_ptr z27_ty29 rfl (agr hM_ mon_21_48 (by simp)) up_h (nle rfl)) (by simp only [pS, Value.cells, Nat.reduceAdd, scnA, one_iE, app_m, List.length_map] <;> rfl))) trivial trivial ?_
     refine dh_set (1) (fun M_ hM_ => (se_store (up_m rfl (u8 rfl s2_46)) (u8 rfl up_h) rfl rfl (agr hM_ mo1_48 (by simp)) qsz24 rfl (nle rfl))) trivial trivial ⟨.inl (by simp <;> omega), ⟨.inl (by simp <;> omega), trivial⟩⟩ (fun m_49 hm_49 => ?_)
     have mo1_49 := m_set hm_49 mo1_48
     simp only [pS, Value.cells, Nat.reduceAdd, scnA, one_iE, app_m, List.length_map] at mo1_49
     have mon_21_49 := m_set_o hm_49 mon_21_48 (by omega)
     have mo4_49 := m_set_o hm_49 mo4_48 (by decide)
     have mo7_49 := m_set_o hm_49 mo7_48 (by decide)
     have mo5_49 := m_set_o hm_49 mo5_48 (by decide)
     have moja_49 := m_set_o hm_49 moja_48 (by omega)
     have mo6_49 := m_set_o hm_49 mo6_48 (by decide)
     have mo3_49 := m_set_o hm_49 mo3_48 (by decide)
     have mo2_49 := m_set_o hm_49 mo2_48 (by decide)
     have mo0_49 := m_set_o hm_49 mo0_48 (by decide)
     have mo8_49 := m_set_o hm_49 mo8_48 (by decide)
     have mon_21_1_49 := m_set_o hm_49 mon_21_1_48 (by omega)
     have ml_49 := m_set_l hm_49 ml_48
     clear hm_49 mon_21_48 mo4_48 mo7_48 mo5_48 moja_48 mo6_48 mo3_48 mo2_48 mo1_48 mo0_48 mo8_48 mon_21_1_48
     refine dh_set (2) (fun M_ hM_ => (se_store (up_n (up_m rfl (u8 rfl s3_46))) (up_n (u4 rfl up_h)) rfl rfl (agr hM_ mo2_49 (by simp)) qsz28 rfl (nle rfl))) trivial ⟨.inl (by simp <;> omega), trivial⟩ ⟨.inl (by simp <;> omega), ⟨.inl (by simp <;> omega), ⟨.inl (by simp <;> omega), trivial⟩⟩⟩ (fun m_50 hm_50 => ?_)
     have mo2_50 := m_set hm_50 mo2_49
     simp only [pS, Value.cells, Nat.reduceAdd, scnA, one_iE, app_m, List.length_map] at mo2_50
     have mo1_50 := m_set_o hm_50 mo1_49 (by decide)
     have mon_21_50 := m_set_o hm_50 mon_21_49 (by omega)
     have mo4_50 := m_set_o hm_50 mo4_49 (by decide)
     have mo7_50 := m_set_o hm_50 mo7_49 (by decide)
     have mo5_50 := m_set_o hm_50 mo5_49 (by decide)
     have moja_50 := m_set_o hm_50 moja_49 (by omega)
     have mo6_50 := m_set_o hm_50 mo6_49 (by decide)
     have mo3_50 := m_set_o hm_50 mo3_49 (by decide)
     have mo0_50 := m_set_o hm_50 mo0_49 (by decide)
     have mo8_50 := m_set_o hm_50 mo8_49 (by decide)
     have mon_21_1_50 := m_set_o hm_50 mon_21_1_49 (by omega)
     have ml_50 := m_set_l hm_50 ml_49
     clear hm_50 mo1_49 mon_21_49 mo4_49 mo7_49 mo5_49 moja_49 mo6_49 mo3_49 mo2_49 mo0_49 mo8_49 mon_21_1_49
     refine dh_nil rfl ?_
     refine al_stm (st_store (up_n (up_n (up_m rfl (u8 rfl s4_46)))) (up_n (up_n up_h)) rfl rfl mo3_50 qsz29 rfl (nle rfl)) trivial rfl (fun m_51 hm_51 => ?_)
     have mo3_51 := m_set hm_51 mo3_50
     simp only [pS, Value.cells, Nat.reduceAdd, scnA, one_iE, app_m, List.length_map] at mo3_51
     have mo2_51 := m_set_o hm_51 mo2_50 (by decide)
     have mo1_51 := m_set_o hm_51 mo1_50 (by decide)
     have mon_21_51 := m_set_o hm_51 mon_21_50 (by omega)
     have mo4_51 := m_set_o hm_51 mo4_50 (by decide)
     have mo7_51 := m_set_o hm_51 mo7_50 (by decide)
     have mo5_51 := m_set_o hm_51 mo5_50 (by decide)
     have moja_51 := m_set_o hm_51 moja_50 (by omega)
     have mo6_51 := m_set_o hm_51 mo6_50 (by decide)
     have mo0_51 := m_set_o hm_51 mo0_50 (by decide)
     have mo8_51 := m_set_o hm_51 mo8_50 (by decide)
     have mon_21_1_51 := m_set_o hm_51 mon_21_1_50 (by omega)
     have ml_51 := m_set_l hm_51 ml_50
     clear hm_51 mo2_50 mo1_50 mon_21_50 mo4_50 mo7_50 mo5_50 moja_50 mo6_50 mo3_50 mo0_50 mo8_50 mon_21_1_50
     refine ae3 (up_n (up_n (up_n (up_m rfl (u8 rfl s2_46))))) (up_n (up_n (up_n (up_m rfl (u8 rfl s3_46))))) (up_n (up_n (up_n (up_m rfl (u8 rfl s4_46))))) ?_; clear s10_46 s2_46 s39_46 s3_46 s4_46 s5_46 s6_46 s7_46 s8_46; intro e_52 s2_52 s3_52 s4_52
     refine then_n <| aw_ret <| then_r <| block_r <| rndv_r mo8_51 <| block_r <| then_r <| ret3 (.inr rfl) (by kernel_rfl) (resV_cell s2_18 mo1_51 z27_ty24 (nle rfl) (by simp)) (resV_cell s3_18 mo2_51 z27_ty28 (nle rfl) (by simp)) (resV_cell s4_18 mo3_51 z27_ty29 (nle rfl) (by simp)) (vw_r (vw_agg (vwl_cons (.ro _ rfl) (vwl_cons (.nil 4) vwl_nil)))) (vw_r (.ro _ rfl)) (vw_c (.ro _ rfl)) ?_
     clear s20_18 s2_18 s3_18 s4_18 s5_18 s6_18 s7_18 s8_18 mo3_51 mo2_51 mo1_51 mon_21_51 mo4_51 mo7_51 mo5_51 moja_51 mo6_51 mo0_51 mo8_51 mon_21_1_51 ml_51
     (rw [hinv.stop hl' hn he, q1]; rfl)
    replace hq_47 := bnf hq_47
    (have he : (stepS st ((i : Int) + 1) (cutN l)).e = 0 := by rw [q1]; exact hq_47)
    refine aw_skip <| then_n <| at_ <| ar (ro_eq (ro_ld_ptr z27_ty76 rfl mo5_44 s6_46 (nle rfl)) (by simp only [pS, Value.cells, Nat.reduceAdd, scnA, one_iE, app_m, List.length_map] <;> rfl)) rfl ?_
    refine ar (ro_eq (ro_ld_ptr z27_ty3 rfl mo7_44 (up_m rfl s8_46) (nle rfl)) (by simp only [pS, Value.cells, Nat.reduceAdd, scnA, one_iE, app_m, List.length_map] <;> rfl)) rfl ?_
    refine ar (ro_lit z27_sl76 (evP_cons up_h evP_nil) rfl rfl rfl rfl) rfl <| al_stm (st_app z27_sl76 rfl ml_44 moja_44 (u2 rfl up_h) up_h (by rfl) (by simp only [lnS] <;> omega)) trivial rfl (fun m_53 hm_53 => ?_)
    have mon_21_1_1_53 := m_swap hm_53 ml_44
    simp only [pS, Value.cells, Nat.reduceAdd, scnA, one_iE, app_m, List.length_map] at mon_21_1_1_53
    have mon_21_53 := m_swap_o hm_53 mon_21_44 (by omega)
    have mo4_53 := m_swap_o hm_53 mo4_44 (by omega)
    have mo7_53 := m_swap_o hm_53 mo7_44 (by omega)
    have mo5_53 := m_swap_o hm_53 mo5_44 (by omega)
    have mo6_53 := m_swap_o hm_53 mo6_44 (by omega)
    have mo3_53 := m_swap_o hm_53 mo3_44 (by omega)
    have mo2_53 := m_swap_o hm_53 mo2_44 (by omega)
    have mo1_53 := m_swap_o hm_53 mo1_44 (by omega)
    have mo0_53 := m_swap_o hm_53 mo0_44 (by omega)
    have mo8_53 := m_swap_o hm_53 mo8_44 (by omega)
    have mon_21_1_53 := m_swap_o hm_53 mon_21_1_44 (by omega)
    have ml_53 := m_swap_l hm_53 ml_44
    clear hm_53 mon_21_44 mo4_44 mo7_44 mo5_44 moja_44 mo6_44 mo3_44 mo2_44 mo1_44 mo0_44 mo8_44 mon_21_1_44
    refine al_stm (st_store_own (u4 rfl s6_46) up_h mo5_53 mon_21_1_1_53 z27_sz76 (nle rfl)) trivial rfl (fun m_54 hm_54 => ?_)
    have mo5_54 := m_set hm_54 mo5_53
    simp only [pS, Value.cells, Nat.reduceAdd, scnA, one_iE, app_m, List.length_map] at mo5_54
    have mon_21_1_1_54 := m_set_o hm_54 mon_21_1_1_53 (by omega)
    have mon_21_54 := m_set_o hm_54 mon_21_53 (by omega)
    have mo4_54 := m_set_o hm_54 mo4_53 (by decide)
    have mo7_54 := m_set_o hm_54 mo7_53 (by decide)
    have mo6_54 := m_set_o hm_54 mo6_53 (by decide)
    have mo3_54 := m_set_o hm_54 mo3_53 (by decide)
    have mo2_54 := m_set_o hm_54 mo2_53 (by decide)
    have mo1_54 := m_set_o hm_54 mo1_53 (by decide)
    have mo0_54 := m_set_o hm_54 mo0_53 (by decide)
    have mo8_54 := m_set_o hm_54 mo8_53 (by decide)
    have mon_21_1_54 := m_set_o hm_54 mon_21_1_53 (by omega)
    have ml_54 := m_set_l hm_54 ml_53
    clear hm_54 mon_21_1_1_53 mon_21_53 mo4_53 mo7_53 mo5_53 mo6_53 mo3_53 mo2_53 mo1_53 mo0_53 mo8_53 mon_21_1_53
    refine al_stm (st_store (up_n (u4 rfl s7_46)) ev_f rfl rfl mo6_54 z27_sz91 rfl (nle rfl)) trivial rfl (fun m_55 hm_55 => ?_)
    have mo6_55 := m_set hm_55 mo6_54
    simp only [pS, Value.cells, Nat.reduceAdd, scnA, one_iE, app_m, List.length_map] at mo6_55
    have mo5_55 := m_set_o hm_55 mo5_54 (by decide)
    have mon_21_1_1_55 := m_set_o hm_55 mon_21_1_1_54 (by omega)
    have mon_21_55 := m_set_o hm_55 mon_21_54 (by omega)
    have mo4_55 := m_set_o hm_55 mo4_54 (by decide)
    have mo7_55 := m_set_o hm_55 mo7_54 (by decide)
    have mo3_55 := m_set_o hm_55 mo3_54 (by decide)
    have mo2_55 := m_set_o hm_55 mo2_54 (by decide)
    have mo1_55 := m_set_o hm_55 mo1_54 (by decide)
    have mo0_55 := m_set_o hm_55 mo0_54 (by decide)
    have mo8_55 := m_set_o hm_55 mo8_54 (by decide)
    have mon_21_1_55 := m_set_o hm_55 mon_21_1_54 (by omega)
    have ml_55 := m_set_l hm_55 ml_54
    clear hm_55 mo5_54 mon_21_1_1_54 mon_21_54 mo4_54 mo7_54 mo6_54 mo3_54 mo2_54 mo1_54 mo0_54 mo8_54 mon_21_1_54
    refine ae6 (up_n (up_n (u4 rfl s2_46))) (up_n (up_n (u4 rfl s3_46))) (up_n (up_n (u4 rfl s4_46))) (up_n (up_n (u4 rfl s5_46))) (up_n (up_n (u4 rfl s6_46))) (up_n (up_n (u4 rfl s8_46))) ?_; clear s10_46 s2_46 s39_46 s3_46 s4_46 s5_46 s6_46 s7_46 s8_46; intro e_56 s2_56 s3_56 s4_56 s5_56 s6_56 s8_56
    refine block_n <| rndv_n mo8_55 ⟨⟨⟨st.nm, st.ps ++ [v2], st.at' ++ [(i : Int) + 1]⟩, _, _, _⟩, mo4_55, mon_21_1_55, mo5_55, mon_21_1_1_55, mo6_55, mo7_55, (mo3_55.trans mo3_20.symm), (mo2_55.trans mo2_20.symm), (mo1_55.trans mo1_20.symm), (mo0_55.trans mo0_20.symm), ⟨_, ml_55, by omega⟩, ?_⟩
    exact ⟨by omega, by omega, by omega, by have h_ := hinv.step (by omega) hl' hn he; rw [q2] at h_; exact h_, by rw [if_neg (by simp)]⟩
  ·rintro m_21 c_21 ⟨⟨st, jp, ja, f⟩, mo4_21, mojp_21, mo5_21, moja_21, mo6_21, mo7_21, mk3_21, mk2_21, mk1_21, mk0_21, ⟨n_21, ml_21, hn_21⟩, hinv⟩ hv_21
   have mo3_21 := mk3_21.trans mo3_20
   have mo2_21 := mk2_21.trans mo2_20
   have mo1_21 := mk1_21.trans mo1_20
   have mo0_21 := mk0_21.trans mo0_20
   (obtain ⟨i1, i2, i3, hinv, hfe⟩ := hinv; rw [List.length_map] at hinv; have hlast := hinv.last; have ha0 := hinv.atz; have ha1 := hinv.ato; have hps := hinv.ps; have hnm := hinv.nm; have hcz : (bs st.nm).size = st.nm.length := rfl; clear hfe)
   refine block_n <| then_n <| aw_seq <| aw_seq <| at_ <| ar (ro_eq (ro_ld_ptr z27_ty76 rfl mo5_21 s6_18 (nle rfl)) (by simp only [pS, Value.cells, Nat.reduceAdd, scnA, one_iE, app_m, List.length_map] <;> rfl)) rfl ?_
   refine ar (ro_eq (ro_len_own up_h moja_21 rfl z27_sl76.1) (by simp only [lnS] <;> rfl)) rfl ?_
   refine ar (ro_eql up_h ev_c) rfl ?_
   refine ae7 (up_m rfl (u2 rfl s2_18)) (up_m rfl (u2 rfl s3_18)) (up_m rfl (u2 rfl s4_18)) (up_m rfl (u2 rfl s5_18)) (up_m rfl (u2 rfl s6_18)) (up_m rfl (u2 rfl s8_18)) up_h ?_; clear s20_18 s2_18 s3_18 s4_18 s5_18 s6_18 s7_18 s8_18; intro e_57 s2_57 s3_57 s4_57 s5_57 s6_57 s8_57 s55_57
   refine then_n <| aw_case s55_57 (fun hq_58 => ?_) (fun hq_58 => ?_)
   ·replace hq_58 := bt hq_58
    have h5 : st.at' = [] := List.eq_nil_of_length_eq_zero (by omega)
    refine aw_seq <| aw_drawK 5 0 ml_21 (by kernel_rfl) (by kernel_rfl) (by kernel_rfl) (by kernel_rfl) (fun m_59 hm_59 => ?_)
    have mo4_59 := m_room_o hm_59 mo4_21
    have mojp_59 := m_room_o hm_59 mojp_21
    have mo5_59 := m_room_o hm_59 mo5_21
    have moja_59 := m_room_o hm_59 moja_21
    have mo6_59 := m_room_o hm_59 mo6_21
    have mo7_59 := m_room_o hm_59 mo7_21
    have mo3_59 := m_room_o hm_59 mo3_21
    have mo2_59 := m_room_o hm_59 mo2_21
    have mo1_59 := m_room_o hm_59 mo1_21
    have mo0_59 := m_room_o hm_59 mo0_21
    have mo8_59 := m_room_o hm_59 hv_21
    have ml_59 : _ = n_21 := m_room_l (K := 0) hm_59 ml_21
    clear hm_59 mo4_21 mojp_21 mo5_21 moja_21 mo6_21 mo7_21 mo3_21 mo2_21 mo1_21 mo0_21 hv_21 ml_21
    refine dh_ro (fun M_ hM_ => (ro_build evP_nil qbz24 qbu24 qbp24 rfl)) trivial ?_
    refine dh_ld (7) (fun M_ hM_ => (ro_eq (ro_ld_ptr z27_ty3 rfl (agr hM_ mo7_59 (by simp)) (up_m rfl s8_57) (nle rfl)) (by simp only [pS, Value.cells, Nat.reduceAdd, scnA, one_iE, app_m, List.length_map] <;> rfl))) trivial trivial ?_
    (refine dh_ro (fun M_ hM_ => (ro_add' up_h ev_c ?_)) trivial ?_; · (unfold In64; omega))
    refine dh_ro (fun M_ hM_ => (ro_build (evP_cons up_h (evP_cons ev_c evP_nil)) qbz28 qbu28 qbp28 rfl)) trivial ?_
    refine dh_set (1) (fun M_ hM_ => (se_store (u4 rfl s2_57) (up_m rfl (u2 rfl up_h)) rfl rfl (agr hM_ mo1_59 (by simp)) qsz24 rfl (nle rfl))) trivial trivial ⟨.inl (by simp <;> omega), trivial⟩ (fun m_60 hm_60 => ?_)
    have mo1_60 := m_set hm_60 mo1_59
    simp only [pS, Value.cells, Nat.reduceAdd, scnA, one_iE, app_m, List.length_map] at mo1_60
    have mo4_60 := m_set_o hm_60 mo4_59 (by decide)
    have mojp_60 := m_set_o hm_60 mojp_59 (by omega)
    have mo5_60 := m_set_o hm_60 mo5_59 (by decide)
    have moja_60 := m_set_o hm_60 moja_59 (by omega)
    have mo6_60 := m_set_o hm_60 mo6_59 (by decide)
    have mo7_60 := m_set_o hm_60 mo7_59 (by decide)
    have mo3_60 := m_set_o hm_60 mo3_59 (by decide)
    have mo2_60 := m_set_o hm_60 mo2_59 (by decide)
    have mo0_60 := m_set_o hm_60 mo0_59 (by decide)
    have mo8_60 := m_set_o hm_60 mo8_59 (by decide)
    have ml_60 := m_set_l hm_60 ml_59
    clear hm_60 mo4_59 mojp_59 mo5_59 moja_59 mo6_59 mo7_59 mo3_59 mo2_59 mo1_59 mo0_59 mo8_59
    refine dh_nil rfl ?_
    refine al_stm (st_store (up_n (u4 rfl s3_57)) (up_n up_h) rfl rfl mo2_60 qsz28 rfl (nle rfl)) trivial rfl (fun m_61 hm_61 => ?_)
    have mo2_61 := m_set hm_61 mo2_60
    simp only [pS, Value.cells, Nat.reduceAdd, scnA, one_iE, app_m, List.length_map] at mo2_61
    have mo1_61 := m_set_o hm_61 mo1_60 (by decide)
    have mo4_61 := m_set_o hm_61 mo4_60 (by decide)
    have mojp_61 := m_set_o hm_61 mojp_60 (by omega)
    have mo5_61 := m_set_o hm_61 mo5_60 (by decide)
    have moja_61 := m_set_o hm_61 moja_60 (by omega)
    have mo6_61 := m_set_o hm_61 mo6_60 (by decide)
    have mo7_61 := m_set_o hm_61 mo7_60 (by decide)
    have mo3_61 := m_set_o hm_61 mo3_60 (by decide)
    have mo0_61 := m_set_o hm_61 mo0_60 (by decide)
    have mo8_61 := m_set_o hm_61 mo8_60 (by decide)
    have ml_61 := m_set_l hm_61 ml_60
    clear hm_61 mo1_60 mo4_60 mojp_60 mo5_60 moja_60 mo6_60 mo7_60 mo3_60 mo2_60 mo0_60 mo8_60
    refine al_stm (st_store (up_n (up_n (u4 rfl s4_57))) ev_c rfl rfl mo3_61 qsz29 rfl (nle rfl)) trivial rfl (fun m_62 hm_62 => ?_)
    have mo3_62 := m_set hm_62 mo3_61
    simp only [pS, Value.cells, Nat.reduceAdd, scnA, one_iE, app_m, List.length_map] at mo3_62
    have mo2_62 := m_set_o hm_62 mo2_61 (by decide)
    have mo1_62 := m_set_o hm_62 mo1_61 (by decide)
    have mo4_62 := m_set_o hm_62 mo4_61 (by decide)
    have mojp_62 := m_set_o hm_62 mojp_61 (by omega)
    have mo5_62 := m_set_o hm_62 mo5_61 (by decide)
    have moja_62 := m_set_o hm_62 moja_61 (by omega)
    have mo6_62 := m_set_o hm_62 mo6_61 (by decide)
    have mo7_62 := m_set_o hm_62 mo7_61 (by decide)
    have mo0_62 := m_set_o hm_62 mo0_61 (by decide)
    have mo8_62 := m_set_o hm_62 mo8_61 (by decide)
    have ml_62 := m_set_l hm_62 ml_61
    clear hm_62 mo2_61 mo1_61 mo4_61 mojp_61 mo5_61 moja_61 mo6_61 mo7_61 mo3_61 mo0_61 mo8_61
    refine ae3 (up_n (up_n (up_n (u4 rfl s2_57)))) (up_n (up_n (up_n (u4 rfl s3_57)))) (up_n (up_n (up_n (u4 rfl s4_57)))) ?_; clear s2_57 s3_57 s4_57 s55_57 s5_57 s6_57 s8_57; intro e_63 s2_63 s3_63 s4_63
    refine then_n <| aw_ret <| then_r <| ret3 (.inr rfl) (by kernel_rfl) (resV_cell s2_63 mo1_62 z27_ty24 (nle rfl) (by simp)) (resV_cell s3_63 mo2_62 z27_ty28 (nle rfl) (by simp)) (resV_cell s4_63 mo3_62 z27_ty29 (nle rfl) (by simp)) (vw_r (vw_agg (vwl_cons (.ro _ rfl) (vwl_cons (.nil 4) vwl_nil)))) (vw_r (.ro _ rfl)) (vw_c (.ro _ rfl)) ?_
    clear s2_63 s3_63 s4_63 mo3_62 mo2_62 mo1_62 mo4_62 mojp_62 mo5_62 moja_62 mo6_62 mo7_62 mo0_62 mo8_62 ml_62
    (rw [hlast]; unfold finP; rw [if_pos h5]; rfl)
   replace hq_58 := bf hq_58
   (have h5 : st.at' ≠ [] := (by rintro h_; rw [h_] at hq_58; simp at hq_58); have h6 := ha1 h5)
   refine aw_skip <| then_n <| aw_seq <| aw_seq <| aw_freezeF 1 mo4_21 mojp_21 (by omega) rfl (fun m_64 hm_64 => ?_)
   have mo4_64 := m_set hm_64 (m_set_o rfl mo4_21 (by omega))
   simp only [List.set_cons_zero, List.set_cons_succ] at mo4_64
   have mo5_64 := m_set_o hm_64 (m_set_o rfl mo5_21 (by omega)) (by decide)
   have moja_64 := m_set_o hm_64 (m_set_o rfl moja_21 (by omega)) (by omega)
   have mo6_64 := m_set_o hm_64 (m_set_o rfl mo6_21 (by omega)) (by decide)
   have mo7_64 := m_set_o hm_64 (m_set_o rfl mo7_21 (by omega)) (by decide)
   have mo3_64 := m_set_o hm_64 (m_set_o rfl mo3_21 (by omega)) (by decide)
   have mo2_64 := m_set_o hm_64 (m_set_o rfl mo2_21 (by omega)) (by decide)
   have mo1_64 := m_set_o hm_64 (m_set_o rfl mo1_21 (by omega)) (by decide)
   have mo0_64 := m_set_o hm_64 (m_set_o rfl mo0_21 (by omega)) (by decide)
   have mo8_64 := m_set_o hm_64 (m_set_o rfl hv_21 (by omega)) (by decide)
   have ml_64 := m_set_l hm_64 (m_set_l rfl ml_21)
   clear hm_64 mo4_21 mojp_21 mo5_21 moja_21 mo6_21 mo7_21 mo3_21 mo2_21 mo1_21 mo0_21 hv_21
   refine at_ <| ar (ro_eq (ro_ld_ptr z27_ty24 rfl mo4_64 s5_57 (nle rfl)) (by simp only [pS, Value.cells, Nat.reduceAdd, scnA, one_iE, app_m, List.length_map] <;> rfl)) rfl ?_
   refine ar (ro_call (evL_cons up_h evL_nil) rfl (checkTrack_ok (bs st.nm) st.ps (by omega) (by omega)) qhcf44) rfl ?_
   refine ar (ro_move up_h) rfl <| ar (ro_extract up_h rfl) rfl <| ar (ro_extract (up_m rfl up_h) rfl) rfl <| ar (ro_assign (up_m rfl up_h)) rfl <| ar (ro_assign (up_m rfl up_h)) rfl <| ae7 (up_m rfl (u2 rfl (u4 rfl s2_57))) (up_m rfl (u2 rfl (u4 rfl s3_57))) (up_m rfl (u2 rfl (u4 rfl s4_57))) (up_m rfl (u2 rfl (u4 rfl s5_57))) (up_m rfl (u2 rfl (u4 rfl s6_57))) (up_m rfl up_h) up_h ?_; clear s2_57 s3_57 s4_57 s55_57 s5_57 s6_57 s8_57; intro e_65 s2_65 s3_65 s4_65 s5_65 s6_65 s11_65 s12_65
   refine then_n <| aw_seq <| at_ <| ar (ro_move s12_65) rfl <| ar (ro_neq up_h ev_c) rfl <| ae8 (u2 rfl s2_65) (u2 rfl s3_65) (u2 rfl s4_65) (u2 rfl s5_65) (u2 rfl s6_65) (u2 rfl s11_65) (u2 rfl s12_65) up_h ?_; clear s11_65 s12_65 s2_65 s3_65 s4_65 s5_65 s6_65; intro e_66 s2_66 s3_66 s4_66 s5_66 s6_66 s11_66 s12_66 s66_66
   refine then_n <| aw_case s66_66 (fun hq_67 => ?_) (fun hq_67 => ?_)
   ·replace hq_67 := bnt hq_67
    have h8 := hq_67
    refine aw_seq <| at_ <| ar (ro_assign ev_c) rfl <| ae7 (up_m rfl s2_66) (up_m rfl s3_66) (up_m rfl s4_66) (up_m rfl s6_66) (up_m rfl s11_66) (up_m rfl s12_66) up_h ?_; clear s11_66 s12_66 s2_66 s3_66 s4_66 s5_66 s66_66 s6_66; intro e_68 s2_68 s3_68 s4_68 s6_68 s11_68 s12_68 s13_68
    refine then_n <| aw_seq <| aw_seq <| at_ <| ar (ro_move s12_68) rfl <| ar (ro_eql up_h ev_c) rfl ?_
    refine ae8 (u2 rfl s2_68) (u2 rfl s3_68) (u2 rfl s4_68) (u2 rfl s6_68) (u2 rfl s11_68) (u2 rfl s12_68) (u2 rfl s13_68) up_h ?_; clear s11_68 s12_68 s13_68 s2_68 s3_68 s4_68 s6_68; intro e_69 s2_69 s3_69 s4_69 s6_69 s11_69 s12_69 s13_69 s68_69
    refine then_n <| aw_case s68_69 (fun hq_70 => ?_) (fun hq_70 => ?_)
    ·replace hq_70 := bt hq_70
     (have h9 := hq_70; have h7 := chk_rng h9)
     refine at_ <| ar (ro_move s11_69) rfl ?_
     (refine ar (ro_add' up_h ev_c ?_) rfl ?_; · (unfold In64; omega))
     refine ar (ro_assign up_h) rfl <| ae6 (up_m rfl (u2 rfl s2_69)) (up_m rfl (u2 rfl s3_69)) (up_m rfl (u2 rfl s4_69)) (up_m rfl (u2 rfl s6_69)) (up_m rfl (u2 rfl s12_69)) up_h ?_; clear s11_69 s12_69 s13_69 s2_69 s3_69 s4_69 s68_69 s6_69; intro e_71 s2_71 s3_71 s4_71 s6_71 s12_71 s13_71
     refine then_n <| aw_seq <| aw_drawK 9 0 ml_64 (by kernel_rfl) (by kernel_rfl) (by kernel_rfl) (by kernel_rfl) (fun m_72 hm_72 => ?_)
     have mo4_72 := m_room_o hm_72 mo4_64
     have mo5_72 := m_room_o hm_72 mo5_64
     have moja_72 := m_room_o hm_72 moja_64
     have mo6_72 := m_room_o hm_72 mo6_64
     have mo7_72 := m_room_o hm_72 mo7_64
     have mo3_72 := m_room_o hm_72 mo3_64
     have mo2_72 := m_room_o hm_72 mo2_64
     have mo1_72 := m_room_o hm_72 mo1_64
     have mo0_72 := m_room_o hm_72 mo0_64
     have mo8_72 := m_room_o hm_72 mo8_64
     have ml_72 : _ = n_21 := m_room_l (K := 0) hm_72 ml_64
     clear hm_72 mo4_64 mo5_64 moja_64 mo6_64 mo7_64 mo3_64 mo2_64 mo1_64 mo0_64 mo8_64 ml_64
     refine dh_ro (fun M_ hM_ => (ro_build evP_nil qbz24 qbu24 qbp24 rfl)) trivial ?_
     refine dh_ld (5) (fun M_ hM_ => (ro_eq (ro_ld_ptr z27_ty76 rfl (agr hM_ mo5_72 (by simp)) (up_m rfl s6_71) (nle rfl)) (by simp only [pS, Value.cells, Nat.reduceAdd, scnA, one_iE, app_m, List.length_map] <;> rfl))) trivial trivial ?_
     refine dh_ro (fun M_ hM_ => (ro_move (u2 rfl s13_71))) trivial ?_
     refine dh_ld (ja) (fun M_ hM_ => (ro_ix_own z27_sl76 (agr hM_ moja_72 (by simp)) (up_m rfl up_h) up_h (by omega) (by simp only [lnS] <;> omega))) trivial trivial ?_
     refine dh_ld (ja) (fun M_ hM_ => (ro_eq (ro_ld_el z27_ty3 rfl (agr hM_ moja_72 (by simp)) up_h (nle rfl) (by first | (refine idx_map ?_; first | omega | (simp only [lnS]; omega)) | (refine idx_mapI ?_; first | omega | (simp only [lnS]; omega)) | (refine idx_mapN ?_; first | omega | (simp only [lnS]; omega)) | rfl)) (by simp only [pS, Value.cells, Nat.reduceAdd, scnA, one_iE, app_m, List.length_map] <;> rfl))) trivial trivial ?_
     refine dh_ro (fun M_ hM_ => (ro_build (evP_cons up_h (evP_cons ev_c evP_nil)) qbz28 qbu28 qbp28 rfl)) trivial ?_
     refine dh_ro (fun M_ hM_ => (ro_move (u2 rfl (u4 rfl s12_71)))) trivial ?_
     refine dh_set (1) (fun M_ hM_ => (se_store (up_m rfl (u2 rfl (u4 rfl s2_71))) (u2 rfl (u4 rfl up_h)) rfl rfl (agr hM_ mo1_72 (by simp)) qsz24 rfl (nle rfl))) trivial trivial ⟨.inl (by simp <;> omega), ⟨.inl (by simp <;> omega), ⟨.inl (by simp <;> omega), trivial⟩⟩⟩ (fun m_73 hm_73 => ?_)
     have mo1_73 := m_set hm_73 mo1_72
     simp only [pS, Value.cells, Nat.reduceAdd, scnA, one_iE, app_m, List.length_map] at mo1_73
     have mo4_73 := m_set_o hm_73 mo4_72 (by decide)
     have mo5_73 := m_set_o hm_73 mo5_72 (by decide)
     have moja_73 := m_set_o hm_73 moja_72 (by omega)
     have mo6_73 := m_set_o hm_73 mo6_72 (by decide)
     have mo7_73 := m_set_o hm_73 mo7_72 (by decide)
     have mo3_73 := m_set_o hm_73 mo3_72 (by decide)
     have mo2_73 := m_set_o hm_73 mo2_72 (by decide)
     have mo0_73 := m_set_o hm_73 mo0_72 (by decide)
     have mo8_73 := m_set_o hm_73 mo8_72 (by decide)
     have ml_73 := m_set_l hm_73 ml_72
     clear hm_73 mo4_72 mo5_72 moja_72 mo6_72 mo7_72 mo3_72 mo2_72 mo1_72 mo0_72 mo8_72
     refine dh_set (2) (fun M_ hM_ => (se_store (up_n (up_m rfl (u2 rfl (u4 rfl s3_71)))) (up_n (up_m rfl up_h)) rfl rfl (agr hM_ mo2_73 (by simp)) qsz28 rfl (nle rfl))) trivial ⟨.inl (by simp <;> omega), trivial⟩ ⟨.inl (by simp <;> omega), ⟨.inl (by simp <;> omega), ⟨.inl (by simp <;> omega), ⟨.inl (by simp <;> omega), trivial⟩⟩⟩⟩ (fun m_74 hm_74 => ?_)
     have mo2_74 := m_set hm_74 mo2_73
     simp only [pS, Value.cells, Nat.reduceAdd, scnA, one_iE, app_m, List.length_map] at mo2_74
     have mo1_74 := m_set_o hm_74 mo1_73 (by decide)
     have mo4_74 := m_set_o hm_74 mo4_73 (by decide)
     have mo5_74 := m_set_o hm_74 mo5_73 (by decide)
     have moja_74 := m_set_o hm_74 moja_73 (by omega)
     have mo6_74 := m_set_o hm_74 mo6_73 (by decide)
     have mo7_74 := m_set_o hm_74 mo7_73 (by decide)
     have mo3_74 := m_set_o hm_74 mo3_73 (by decide)
     have mo0_74 := m_set_o hm_74 mo0_73 (by decide)
     have mo8_74 := m_set_o hm_74 mo8_73 (by decide)
     have ml_74 := m_set_l hm_74 ml_73
     clear hm_74 mo1_73 mo4_73 mo5_73 moja_73 mo6_73 mo7_73 mo3_73 mo2_73 mo0_73 mo8_73
     refine dh_nil rfl ?_
     refine al_stm (st_store (up_n (up_n (up_m rfl (u2 rfl (u4 rfl s4_71))))) (up_n (up_n up_h)) rfl rfl mo3_74 qsz29 rfl (nle rfl)) trivial rfl (fun m_75 hm_75 => ?_)
     have mo3_75 := m_set hm_75 mo3_74
     simp only [pS, Value.cells, Nat.reduceAdd, scnA, one_iE, app_m, List.length_map] at mo3_75
     have mo2_75 := m_set_o hm_75 mo2_74 (by decide)
     have mo1_75 := m_set_o hm_75 mo1_74 (by decide)
     have mo4_75 := m_set_o hm_75 mo4_74 (by decide)
     have mo5_75 := m_set_o hm_75 mo5_74 (by decide)
     have moja_75 := m_set_o hm_75 moja_74 (by omega)
     have mo6_75 := m_set_o hm_75 mo6_74 (by decide)
     have mo7_75 := m_set_o hm_75 mo7_74 (by decide)
     have mo0_75 := m_set_o hm_75 mo0_74 (by decide)
     have mo8_75 := m_set_o hm_75 mo8_74 (by decide)
     have ml_75 := m_set_l hm_75 ml_74
     clear hm_75 mo2_74 mo1_74 mo4_74 mo5_74 moja_74 mo6_74 mo7_74 mo3_74 mo0_74 mo8_74
     refine ae3 (up_n (up_n (up_n (up_m rfl (u2 rfl (u4 rfl s2_71)))))) (up_n (up_n (up_n (up_m rfl (u2 rfl (u4 rfl s3_71)))))) (up_n (up_n (up_n (up_m rfl (u2 rfl (u4 rfl s4_71)))))) ?_; clear s12_71 s13_71 s2_71 s3_71 s4_71 s6_71; intro e_76 s2_76 s3_76 s4_76
     refine then_n <| aw_ret <| then_r <| ret3 (.inr rfl) (by kernel_rfl) (resV_cell s2_76 mo1_75 z27_ty24 (nle rfl) (by simp)) (resV_cell s3_76 mo2_75 z27_ty28 (nle rfl) (by simp)) (resV_cell s4_76 mo3_75 z27_ty29 (nle rfl) (by simp)) (vw_r (vw_agg (vwl_cons (.ro _ rfl) (vwl_cons (.nil 4) vwl_nil)))) (vw_r (.ro _ rfl)) (vw_c (.ro _ rfl)) ?_
     clear s2_76 s3_76 s4_76 mo3_75 mo2_75 mo1_75 mo4_75 mo5_75 moja_75 mo6_75 mo7_75 mo0_75 mo8_75 ml_75
     (rw [hlast]; unfold finP; rw [if_neg h5, if_neg h8, if_pos h9]; rfl)
    replace hq_70 := bf hq_70
    have h9 := hq_70
    refine aw_skip <| then_n <| aw_seq <| aw_drawK 9 0 ml_64 (by kernel_rfl) (by kernel_rfl) (by kernel_rfl) (by kernel_rfl) (fun m_77 hm_77 => ?_)
    have mo4_77 := m_room_o hm_77 mo4_64
    have mo5_77 := m_room_o hm_77 mo5_64
    have moja_77 := m_room_o hm_77 moja_64
    have mo6_77 := m_room_o hm_77 mo6_64
    have mo7_77 := m_room_o hm_77 mo7_64
    have mo3_77 := m_room_o hm_77 mo3_64
    have mo2_77 := m_room_o hm_77 mo2_64
    have mo1_77 := m_room_o hm_77 mo1_64
    have mo0_77 := m_room_o hm_77 mo0_64
    have mo8_77 := m_room_o hm_77 mo8_64
    have ml_77 : _ = n_21 := m_room_l (K := 0) hm_77 ml_64
    clear hm_77 mo4_64 mo5_64 moja_64 mo6_64 mo7_64 mo3_64 mo2_64 mo1_64 mo0_64 mo8_64 ml_64
    refine dh_ro (fun M_ hM_ => (ro_build evP_nil qbz24 qbu24 qbp24 rfl)) trivial ?_
    refine dh_ld (5) (fun M_ hM_ => (ro_eq (ro_ld_ptr z27_ty76 rfl (agr hM_ mo5_77 (by simp)) (up_m rfl s6_69) (nle rfl)) (by simp only [pS, Value.cells, Nat.reduceAdd, scnA, one_iE, app_m, List.length_map] <;> rfl))) trivial trivial ?_
    refine dh_ro (fun M_ hM_ => (ro_move (u2 rfl s13_69))) trivial ?_
    refine dh_ld (ja) (fun M_ hM_ => (ro_ix_own z27_sl76 (agr hM_ moja_77 (by simp)) (up_m rfl up_h) up_h (by decide) (by simp only [lnS] <;> omega))) trivial trivial ?_
    refine dh_ld (ja) (fun M_ hM_ => (ro_eq (ro_ld_el z27_ty3 rfl (agr hM_ moja_77 (by simp)) up_h (nle rfl) (by refine idx_map ?_; first | omega | (simp only [lnS]; omega))) (by simp only [pS, Value.cells, Nat.reduceAdd, scnA, one_iE, app_m, List.length_map] <;> rfl))) trivial trivial ?_
    refine dh_ro (fun M_ hM_ => (ro_build (evP_cons up_h (evP_cons ev_c evP_nil)) qbz28 qbu28 qbp28 rfl)) trivial ?_
    refine dh_ro (fun M_ hM_ => (ro_move (u2 rfl (u4 rfl s12_69)))) trivial ?_
    refine dh_set (1) (fun M_ hM_ => (se_store (up_m rfl (u2 rfl (u4 rfl s2_69))) (u2 rfl (u4 rfl up_h)) rfl rfl (agr hM_ mo1_77 (by simp)) qsz24 rfl (nle rfl))) trivial trivial ⟨.inl (by simp <;> omega), ⟨.inl (by simp <;> omega), ⟨.inl (by simp <;> omega), trivial⟩⟩⟩ (fun m_78 hm_78 => ?_)
    have mo1_78 := m_set hm_78 mo1_77
    simp only [pS, Value.cells, Nat.reduceAdd, scnA, one_iE, app_m, List.length_map] at mo1_78
    have mo4_78 := m_set_o hm_78 mo4_77 (by decide)
    have mo5_78 := m_set_o hm_78 mo5_77 (by decide)
    have moja_78 := m_set_o hm_78 moja_77 (by omega)
    have mo6_78 := m_set_o hm_78 mo6_77 (by decide)
    have mo7_78 := m_set_o hm_78 mo7_77 (by decide)
    have mo3_78 := m_set_o hm_78 mo3_77 (by decide)
    have mo2_78 := m_set_o hm_78 mo2_77 (by decide)
    have mo0_78 := m_set_o hm_78 mo0_77 (by decide)
    have mo8_78 := m_set_o hm_78 mo8_77 (by decide)
    have ml_78 := m_set_l hm_78 ml_77
    clear hm_78 mo4_77 mo5_77 moja_77 mo6_77 mo7_77 mo3_77 mo2_77 mo1_77 mo0_77 mo8_77
    refine dh_set (2) (fun M_ hM_ => (se_store (up_n (up_m rfl (u2 rfl (u4 rfl s3_69)))) (up_n (up_m rfl up_h)) rfl rfl (agr hM_ mo2_78 (by simp)) qsz28 rfl (nle rfl))) trivial ⟨.inl (by simp <;> omega), trivial⟩ ⟨.inl (by simp <;> omega), ⟨.inl (by simp <;> omega), ⟨.inl (by simp <;> omega), ⟨.inl (by simp <;> omega), trivial⟩⟩⟩⟩ (fun m_79 hm_79 => ?_)
    have mo2_79 := m_set hm_79 mo2_78
    simp only [pS, Value.cells, Nat.reduceAdd, scnA, one_iE, app_m, List.length_map] at mo2_79
    have mo1_79 := m_set_o hm_79 mo1_78 (by decide)
    have mo4_79 := m_set_o hm_79 mo4_78 (by decide)
    have mo5_79 := m_set_o hm_79 mo5_78 (by decide)
    have moja_79 := m_set_o hm_79 moja_78 (by omega)
    have mo6_79 := m_set_o hm_79 mo6_78 (by decide)
    have mo7_79 := m_set_o hm_79 mo7_78 (by decide)
    have mo3_79 := m_set_o hm_79 mo3_78 (by decide)
    have mo0_79 := m_set_o hm_79 mo0_78 (by decide)
    have mo8_79 := m_set_o hm_79 mo8_78 (by decide)
    have ml_79 := m_set_l hm_79 ml_78
    clear hm_79 mo1_78 mo4_78 mo5_78 moja_78 mo6_78 mo7_78 mo3_78 mo2_78 mo0_78 mo8_78
    refine dh_nil rfl ?_
    refine al_stm (st_store (up_n (up_n (up_m rfl (u2 rfl (u4 rfl s4_69))))) (up_n (up_n up_h)) rfl rfl mo3_79 qsz29 rfl (nle rfl)) trivial rfl (fun m_80 hm_80 => ?_)
    have mo3_80 := m_set hm_80 mo3_79
    simp only [pS, Value.cells, Nat.reduceAdd, scnA, one_iE, app_m, List.length_map] at mo3_80
    have mo2_80 := m_set_o hm_80 mo2_79 (by decide)
    have mo1_80 := m_set_o hm_80 mo1_79 (by decide)
    have mo4_80 := m_set_o hm_80 mo4_79 (by decide)
    have mo5_80 := m_set_o hm_80 mo5_79 (by decide)
    have moja_80 := m_set_o hm_80 moja_79 (by omega)
    have mo6_80 := m_set_o hm_80 mo6_79 (by decide)
    have mo7_80 := m_set_o hm_80 mo7_79 (by decide)
    have mo0_80 := m_set_o hm_80 mo0_79 (by decide)
    have mo8_80 := m_set_o hm_80 mo8_79 (by decide)
    have ml_80 := m_set_l hm_80 ml_79
    clear hm_80 mo2_79 mo1_79 mo4_79 mo5_79 moja_79 mo6_79 mo7_79 mo3_79 mo0_79 mo8_79
    refine ae3 (up_n (up_n (up_n (up_m rfl (u2 rfl (u4 rfl s2_69)))))) (up_n (up_n (up_n (up_m rfl (u2 rfl (u4 rfl s3_69)))))) (up_n (up_n (up_n (up_m rfl (u2 rfl (u4 rfl s4_69)))))) ?_; clear s11_69 s12_69 s13_69 s2_69 s3_69 s4_69 s68_69 s6_69; intro e_81 s2_81 s3_81 s4_81
    refine then_n <| aw_ret <| then_r <| ret3 (.inr rfl) (by kernel_rfl) (resV_cell s2_81 mo1_80 z27_ty24 (nle rfl) (by simp)) (resV_cell s3_81 mo2_80 z27_ty28 (nle rfl) (by simp)) (resV_cell s4_81 mo3_80 z27_ty29 (nle rfl) (by simp)) (vw_r (vw_agg (vwl_cons (.ro _ rfl) (vwl_cons (.nil 4) vwl_nil)))) (vw_r (.ro _ rfl)) (vw_c (.ro _ rfl)) ?_
    clear s2_81 s3_81 s4_81 mo3_80 mo2_80 mo1_80 mo4_80 mo5_80 moja_80 mo6_80 mo7_80 mo0_80 mo8_80 ml_80
    (rw [hlast]; unfold finP; rw [if_neg h5, if_neg h8, if_neg h9]; rfl)
   replace hq_67 := bnf hq_67
   have h8 := hq_67
   refine aw_skip <| then_n <| aw_seq <| at_ <| ar (ro_eq (ro_ld_ptr z27_ty24 rfl mo4_64 s5_66 (nle rfl)) (by simp only [pS, Value.cells, Nat.reduceAdd, scnA, one_iE, app_m, List.length_map] <;> rfl)) rfl ?_
   refine ar (ro_build evP_nil qbz28 qbu28 qbp28 rfl) rfl ?_
   refine al_stm (st_store (u2 rfl s2_66) (up_m rfl up_h) rfl rfl mo1_64 qsz24 rfl (nle rfl)) trivial rfl (fun m_82 hm_82 => ?_)
   have mo1_82 := m_set hm_82 mo1_64
   simp only [pS, Value.cells, Nat.reduceAdd, scnA, one_iE, app_m, List.length_map] at mo1_82
   have mo4_82 := m_set_o hm_82 mo4_64 (by decide)
   have mo5_82 := m_set_o hm_82 mo5_64 (by decide)
   have moja_82 := m_set_o hm_82 moja_64 (by omega)
   have mo6_82 := m_set_o hm_82 mo6_64 (by decide)
   have mo7_82 := m_set_o hm_82 mo7_64 (by decide)
   have mo3_82 := m_set_o hm_82 mo3_64 (by decide)
   have mo2_82 := m_set_o hm_82 mo2_64 (by decide)
   have mo0_82 := m_set_o hm_82 mo0_64 (by decide)
   have mo8_82 := m_set_o hm_82 mo8_64 (by decide)
   have ml_82 := m_set_l hm_82 ml_64
   clear hm_82 mo4_64 mo5_64 moja_64 mo6_64 mo7_64 mo3_64 mo2_64 mo1_64 mo0_64 mo8_64
   refine al_stm (st_store (up_n (u2 rfl s3_66)) (up_n up_h) rfl rfl mo2_82 qsz28 rfl (nle rfl)) trivial rfl (fun m_83 hm_83 => ?_)
   have mo2_83 := m_set hm_83 mo2_82
   simp only [pS, Value.cells, Nat.reduceAdd, scnA, one_iE, app_m, List.length_map] at mo2_83
   have mo1_83 := m_set_o hm_83 mo1_82 (by decide)
   have mo4_83 := m_set_o hm_83 mo4_82 (by decide)
   have mo5_83 := m_set_o hm_83 mo5_82 (by decide)
   have moja_83 := m_set_o hm_83 moja_82 (by omega)
   have mo6_83 := m_set_o hm_83 mo6_82 (by decide)
   have mo7_83 := m_set_o hm_83 mo7_82 (by decide)
   have mo3_83 := m_set_o hm_83 mo3_82 (by decide)
   have mo0_83 := m_set_o hm_83 mo0_82 (by decide)
   have mo8_83 := m_set_o hm_83 mo8_82 (by decide)
   have ml_83 := m_set_l hm_83 ml_82
   clear hm_83 mo1_82 mo4_82 mo5_82 moja_82 mo6_82 mo7_82 mo3_82 mo2_82 mo0_82 mo8_82
   refine al_stm (st_store (up_n (up_n (u2 rfl s4_66))) ev_c rfl rfl mo3_83 qsz29 rfl (nle rfl)) trivial rfl (fun m_84 hm_84 => ?_)
   have mo3_84 := m_set hm_84 mo3_83
   simp only [pS, Value.cells, Nat.reduceAdd, scnA, one_iE, app_m, List.length_map] at mo3_84
   have mo2_84 := m_set_o hm_84 mo2_83 (by decide)
   have mo1_84 := m_set_o hm_84 mo1_83 (by decide)
   have mo4_84 := m_set_o hm_84 mo4_83 (by decide)
   have mo5_84 := m_set_o hm_84 mo5_83 (by decide)
   have moja_84 := m_set_o hm_84 moja_83 (by omega)
   have mo6_84 := m_set_o hm_84 mo6_83 (by decide)
   have mo7_84 := m_set_o hm_84 mo7_83 (by decide)
   have mo0_84 := m_set_o hm_84 mo0_83 (by decide)
   have mo8_84 := m_set_o hm_84 mo8_83 (by decide)
   have ml_84 := m_set_l hm_84 ml_83
   clear hm_84 mo2_83 mo1_83 mo4_83 mo5_83 moja_83 mo6_83 mo7_83 mo3_83 mo0_83 mo8_83
   refine ae3 (up_n (up_n (up_n (u2 rfl s2_66)))) (up_n (up_n (up_n (u2 rfl s3_66)))) (up_n (up_n (up_n (u2 rfl s4_66)))) ?_; clear s11_66 s12_66 s2_66 s3_66 s4_66 s5_66 s66_66 s6_66; intro e_85 s2_85 s3_85 s4_85
   refine then_n <| aw_ret <| ret3 (.inr rfl) (by kernel_rfl) (resV_cell s2_85 mo1_84 z27_ty24 (nle rfl) (by simp)) (resV_cell s3_85 mo2_84 z27_ty28 (nle rfl) (by simp)) (resV_cell s4_85 mo3_84 z27_ty29 (nle rfl) (by simp)) (vw_r (.ro _ rfl)) (vw_r (.ro _ rfl)) (vw_c (.ro _ rfl)) ?_
   clear s2_85 s3_85 s4_85 mo3_84 mo2_84 mo1_84 mo4_84 mo5_84 moja_84 mo6_84 mo7_84 mo0_84 mo8_84 ml_84
   (rw [hlast]; unfold finP; rw [if_neg h5, if_pos h8]; rfl)
end
end Go.Proofs.YtjhcfpdgldpicaaGreatDoor
namespace Go.Proofs.YtjhcfpdgldpicaaGreatDoor
open Go Go.RowKit Go.Proofs
theorem k5_hcf145 : ∀ args w, (callFunc 145 args).run Tryz.prog w = .ok (.enter 145 args) w := fun _ _ => by kernel_rfl
theorem k5_sl22 : SlIs Tryz.prog 22 111 4 32 (.agg #[.int .i64 0, .int .i64 0, .int .i64 0, .bool false]) := ⟨by kernel_rfl, by kernel_rfl, by kernel_rfl⟩
theorem k5_sl76 : SlIs Tryz.prog 76 3 1 8 (.int .i64 0) := ⟨by kernel_rfl, by kernel_rfl, by kernel_rfl⟩
theorem k5_ty111 : TyIs Tryz.prog 111 true 4 := ⟨by kernel_rfl, by kernel_rfl⟩
theorem k5_ty22 : TyIs Tryz.prog 22 false 1 := ⟨by kernel_rfl, by kernel_rfl⟩
theorem k5_ty3 : TyIs Tryz.prog 3 false 1 := ⟨by kernel_rfl, by kernel_rfl⟩
def sumL : List Piece → Nat → Int
 | _, 0 => 0
 | ps, n + 1 => sumL ps n + (ps.getD n default).len
def plW (ps : List Piece) (n : Nat) : List Int := (List.range (n + 1)).map (sumL ps)
theorem plW_len (ps : List Piece) (n : Nat) : (plW ps n).length = n + 1 := by simp [plW]
theorem plW_at (ps : List Piece) {n i : Nat} (h : i ≤ n) : (plW ps n).getD i default = sumL ps i := by
 simp [plW, List.getD_eq_getElem?_getD, show i < n + 1 by omega]
theorem plW_succ (ps : List Piece) (n : Nat) : plW ps n ++ [sumL ps n + (ps.getD n default).len] = plW ps (n + 1) := by
 simp only [plW]
 rw [List.range_succ (n := n + 1), List.map_append]; rfl
theorem sumL_bound {ps : List Piece} (h : Ok ps) : ∀ n : Nat, 0 ≤ sumL ps n ∧ sumL ps n ≤ 10000000 * n
 | 0 => by simp [sumL]
 | n + 1 => by
  have := sumL_bound h n
  have := (h.at n).1
  simp only [sumL]; omega
set_option maxRecDepth 100000 in
set_option maxHeartbeats 1000000 in
theorem places_ok (nm : ByteArray) (ps : List Piece) (hok : Ok ps) (hp : ps.length ≤ 1000) : FnOk Tryz.prog 91 [trA nm ps] (fun q => q = .row 1 ((plW ps ps.length).map iE)) := by
 refine fnOk_of (fn := Tryz.f91) 28 (by kernel_rfl) rfl (by kernel_rfl) (Nat.le_of_ble_eq_true rfl) ?_
 intro e_0 m_0 hA hm_0
 have s0_0 : evA e_0 (.tmp 0) = _ := hA 0 _ rfl
 have ml_0 : m_0.length = 0 := by rw [hm_0]; rfl
 clear hA hm_0
 refine aw_seq <| at_ <| al_stm (st_box s0_0 rfl ml_0) trivial rfl (fun m_1 hm_1 => ?_)
 have mo0_1 := m_push hm_1 ml_0
 have ml_1 := m_push_l hm_1 ml_0
 have ml_1 : _ = 1 := ml_1
 clear hm_1
 refine ar (ro_assign ev_c) rfl <| ae1 (up_m rfl up_h) ?_; clear s0_0; intro e_2 s1_2
 refine then_n <| aw_seq <| at_ <| al_stm (st_lit k5_sl76 ml_1 (evP_cons ev_c evP_nil) rfl rfl rfl rfl) trivial rfl (fun m_3 hm_3 => ?_)
 have mo1_3 := m_push hm_3 ml_1
 simp only [pS, Value.cells, Nat.reduceAdd, pE, set_iE, one_iE, app_m] at mo1_3
 have mo0_3 := m_push_o hm_3 mo0_1
 have ml_3 := m_push_l hm_3 ml_1
 have ml_3 : _ = 2 := ml_3
 clear hm_3 mo0_1
 refine ar (ro_assign up_h) rfl <| ae2 (u2 rfl s1_2) up_h ?_; clear s1_2; intro e_4 s1_4 s3_4
 refine then_n <| aw_seq <| aw_seq <| at_ <| ar (ro_fld_ptr qfl115_0 rfl s1_4) rfl <| ar (ro_fld_ptr qfl24_1 rfl up_h) rfl <| ar (ro_eq (ro_ld_ptr k5_ty22 rfl mo0_3 up_h (nle rfl)) (by simp only [pS, Value.cells, Nat.reduceAdd, pE, set_iE, one_iE, app_m] <;> rfl)) rfl ?_
 refine ar (ro_eq (ro_len_row up_h rfl k5_sl22.1) (by simp only [lnS] <;> rfl)) rfl ?_
 refine ar (ro_move ev_c) rfl <| ae4 (up_m rfl (u4 rfl s3_4)) (u2 rfl up_h) (up_m rfl up_h) up_h ?_; clear s1_4 s3_4; intro e_5 s3_5 s9_5 s10_5 s11_5
 refine then_n <| aw_block <| aw_loop (S := (Int × List Int)) (fun s e mem => match s with | ⟨i, xs⟩ => (evA e (.tmp 11) = .v (.int .i64 i)) ∧ (evA e (.tmp 9) = evA e_5 (.tmp 9)) ∧ (evA e (.tmp 10) = evA e_5 (.tmp 10)) ∧ (mem[0]? = m_3[0]?) ∧ (∃ j, evA e (.tmp 3) = .own j ∧ mem[j]? = some (.row 3 1 (xs.map iE)) ∧ j ≠ 0) ∧ (∃ n, mem.length = n ∧ 2 ≤ n) ∧ ((0 ≤ i ∧ i ≤ ps.length ∧ xs = plW ps i.toNat))) (fun s => match s with | ⟨i, xs⟩ => (ps.length - i).toNat) ⟨_, _⟩ ⟨s11_5, rfl, rfl, rfl, ⟨_, s3_5, mo1_3, (by decide)⟩, ⟨_, ml_3, Nat.le_refl _⟩, ?_⟩ ?_
 ·exact ⟨by omega, by omega, rfl⟩
 ·rintro ⟨i, xs⟩ e_6 m_6 ⟨s11_6, k9_6, k10_6, mk0_6, ⟨j3_6, s3_6, mo_j3_6, nj3_0_6⟩, ⟨n_6, ml_6, hn_6⟩, hinv⟩
  have s9_6 := k9_6.trans s9_5
  have s10_6 := k10_6.trans s10_5
  have mo0_6 := mk0_6.trans mo0_3
  have jl3_6 := m_lt mo_j3_6 ml_6
  (have hb := (hok.at i.toNat).1; have hc := sumL_bound hok i.toNat; have hl : xs.length = i.toNat + 1 := (by rw [hinv.2.2, plW_len]); have hx : xs.getD i.toNat default = sumL ps i.toNat := (by rw [hinv.2.2, plW_at ps (Nat.le_refl _)]); have hin := hinv.2.1; have hin0 := hinv.1)
  refine aw_seq <| at_ <| ar (ro_lss s11_6 s10_6) rfl <| ae5 (up_m rfl s3_6) (up_m rfl s9_6) (up_m rfl s10_6) (up_m rfl s11_6) up_h ?_; clear s10_6 s11_6 s3_6 s9_6; intro e_7 s3_7 s9_7 s10_7 s11_7 s12_7
  refine then_n <| aw_seq <| aw_case s12_7 (fun hq_8 => ?_) (fun hq_8 => ?_)
  ·replace hq_8 := bt hq_8
   refine aw_skip <| then_n <| aw_seq <| aw_block <| aw_seq <| at_ <| ar (ro_move s11_7) rfl <| ar (ro_eq (ro_ix k5_sl22 (up_m rfl s9_7) (up_m rfl s11_7) (by omega) (by first | (refine idx_map ?_; first | omega | (simp only [lnS]; omega)) | (refine idx_mapI ?_; first | omega | (simp only [lnS]; omega)) | (refine idx_mapN ?_; first | omega | (simp only [lnS]; omega)) | rfl)) (by simp only [pS, Value.cells, Nat.reduceAdd, pE, set_iE, one_iE, app_m] <;> rfl)) rfl ?_
   refine ar (ro_eq (ro_ld_ref k5_ty111 rfl up_h (nle rfl)) (by simp only [pS, Value.cells, Nat.reduceAdd, pE, set_iE, one_iE, app_m] <;> rfl)) rfl ?_
   refine al_stm (st_alloc qaz111 rfl ml_6) trivial rfl (fun m_9 hm_9 => ?_)
   have mon_6_9 := m_push hm_9 ml_6
   simp only [pS, Value.cells, Nat.reduceAdd, pE, set_iE, one_iE, app_m] at mon_6_9
   have mo0_9 := m_push_o hm_9 mo0_6
   have moj3_6_9 := m_push_o hm_9 mo_j3_6
   have ml_9 := m_push_l hm_9 ml_6
   clear hm_9 mo0_6 mo_j3_6
   refine ar (ro_assign (up_m rfl (u2 rfl up_h))) rfl <| al_stm (st_store (up_m rfl up_h) (u2 rfl up_h) rfl rfl mon_6_9 qsz111 rfl (nle rfl)) trivial rfl (fun m_10 hm_10 => ?_)
   have mon_6_10 := m_set hm_10 mon_6_9
   simp only [pS, Value.cells, Nat.reduceAdd, pE, set_iE, one_iE, app_m] at mon_6_10
   have mo0_10 := m_set_o hm_10 mo0_9 (by omega)
   have moj3_6_10 := m_set_o hm_10 moj3_6_9 (by omega)
   have ml_10 := m_set_l hm_10 ml_9
   clear hm_10 mon_6_9 mo0_9 moj3_6_9
   refine ae6 (up_n (up_m rfl (u4 rfl s3_7))) (up_n up_h) (up_n (up_m rfl up_h)) (up_n (up_m rfl (u4 rfl s9_7))) (up_n (up_m rfl (u4 rfl s10_7))) (up_n (up_m rfl (u4 rfl s11_7))) ?_; clear s10_7 s11_7 s12_7 s3_7 s9_7; intro e_11 s3_11 s4_11 s5_11 s9_11 s10_11 s11_11
   refine then_n <| aw_draw 9 (by kernel_rfl) (by kernel_rfl) (by kernel_rfl) (by kernel_rfl) ?_
   refine dr (ro_move s3_11) rfl <| dr (ro_move (up_m rfl s3_11)) rfl <| dr (ro_move (u2 rfl s4_11)) rfl <| dr (ro_ix_own k5_sl76 moj3_6_10 (up_m rfl up_h) up_h (by omega) (by simp only [lnS] <;> omega)) rfl ?_
   refine dr (ro_eq (ro_ld_el k5_ty3 rfl moj3_6_10 up_h (nle rfl) (by first | (refine idx_map ?_; first | omega | (simp only [lnS]; omega)) | (refine idx_mapI ?_; first | omega | (simp only [lnS]; omega)) | (refine idx_mapN ?_; first | omega | (simp only [lnS]; omega)) | rfl)) (by simp only [pS, Value.cells, Nat.reduceAdd, pE, set_iE, one_iE, app_m] <;> rfl)) rfl ?_
   refine dr (ro_fld_ptr qfl111_0 rfl (up_m rfl (u4 rfl s5_11))) rfl <| dr (ro_eq (ro_ld_ptr k5_ty3 rfl mon_6_10 up_h (nle rfl)) (by simp only [pS, Value.cells, Nat.reduceAdd, pE, set_iE, one_iE, app_m] <;> rfl)) rfl ?_
   (refine dr (ro_add' (u2 rfl up_h) up_h ?_) rfl ?_; · (unfold In64; omega))
   refine dr (ro_lit k5_sl76 (evP_cons up_h evP_nil) rfl rfl rfl rfl) rfl <| ds_nil <| al_stm (st_app k5_sl76 rfl ml_10 moj3_6_10 (u8 rfl up_h) up_h (by rfl) (by simp only [lnS] <;> omega)) trivial rfl (fun m_12 hm_12 => ?_)
   have mon_6_1_12 := m_swap hm_12 ml_10
   simp only [pS, Value.cells, Nat.reduceAdd, pE, set_iE, one_iE, app_m] at mon_6_1_12
   have mon_6_12 := m_swap_o hm_12 mon_6_10 (by omega)
   have mo0_12 := m_swap_o hm_12 mo0_10 (by omega)
   have ml_12 := m_swap_l hm_12 ml_10
   clear hm_12 mon_6_10 mo0_10 moj3_6_10
   refine ar (ro_assign up_h) rfl <| ae4 up_h (up_m rfl (u2 rfl (u8 rfl s9_11))) (up_m rfl (u2 rfl (u8 rfl s10_11))) (up_m rfl (u2 rfl (u8 rfl s11_11))) ?_; clear s10_11 s11_11 s3_11 s4_11 s5_11 s9_11; intro e_13 s3_13 s9_13 s10_13 s11_13
   refine block_n <| then_n <| at_ ?_
   (refine ar (ro_add' s11_13 ev_c ?_) rfl ?_; · (unfold In64; omega))
   refine ar (ro_move up_h) rfl <| ae4 (u2 rfl s3_13) (u2 rfl s9_13) (u2 rfl s10_13) up_h ?_; clear s10_13 s11_13 s3_13 s9_13; intro e_14 s3_14 s9_14 s10_14 s11_14
   refine then_n <| ⟨⟨_, _⟩, ⟨s11_14, (s9_14.trans s9_5.symm), (s10_14.trans s10_5.symm), (mo0_12.trans mo0_3.symm), ⟨_, s3_14, mon_6_1_12, (by omega)⟩, ⟨_, ml_12, by omega⟩, ?_⟩, ?_⟩
   ·(obtain ⟨h1, h2, h3⟩ := hinv; refine ⟨by omega, by omega, ?_⟩; rw [hx, h3, plW_succ]; congr 1; omega)
   ·((try dsimp only); omega)
  replace hq_8 := bf hq_8
  refine aw_exit <| then_x <| then_x <| block_hit <| then_n <| aw_seq <| at_ <| ar (ro_move s3_7) rfl <| ar (ro_assign up_h) rfl <| ae1 up_h ?_; clear s10_7 s11_7 s12_7 s3_7 s9_7; intro e_15 s2_15
  refine then_n <| aw_ret <| ret1 (.inr rfl) (by kernel_rfl) (resV_tmp s2_15) (.own _ _ _ _ mo_j3_6) ?_
  clear s2_15 mo0_6 mo_j3_6 ml_6
  (obtain ⟨h1, h2, h3⟩ := hinv; rw [h3, show i.toNat = ps.length by omega])
set_option maxRecDepth 100000 in
set_option maxHeartbeats 1000000 in
theorem limits1_ok (p q : Piece) (hp : 0 ≤ p.lim ∧ p.lim ≤ 20000000000) (hq : 0 ≤ q.lim ∧ q.lim ≤ 20000000000) : FnOk Tryz.prog 145 [.agg (pE p), .agg (pE q)] (fun r => r = iA (p.lim - q.lim)) := by
 refine fnOk_of (fn := Tryz.f145) 10 (by kernel_rfl) rfl (by kernel_rfl) (Nat.le_of_ble_eq_true rfl) ?_
 intro e_0 m_0 hA hm_0
 have s0_0 : evA e_0 (.tmp 0) = _ := hA 0 _ rfl
 have s1_0 : evA e_0 (.tmp 1) = _ := hA 1 _ rfl
 have ml_0 : m_0.length = 0 := by rw [hm_0]; rfl
 clear hA hm_0
 refine aw_seq <| at_ <| al_stm (st_box s0_0 rfl ml_0) trivial rfl (fun m_1 hm_1 => ?_)
 have mo0_1 := m_push hm_1 ml_0
 simp only [pS, Value.cells, Nat.reduceAdd, pE] at mo0_1
 have ml_1 := m_push_l hm_1 ml_0
 have ml_1 : _ = 1 := ml_1
 clear hm_1
 refine al_stm (st_box (up_m rfl s1_0) rfl ml_1) trivial rfl (fun m_2 hm_2 => ?_)
 have mo1_2 := m_push hm_2 ml_1
 simp only [pS, Value.cells, Nat.reduceAdd, pE] at mo1_2
 have mo0_2 := m_push_o hm_2 mo0_1
 have ml_2 := m_push_l hm_2 ml_1
 have ml_2 : _ = 2 := ml_2
 clear hm_2 mo0_1
 refine ar (ro_assign ev_c) rfl <| ae2 (u2 rfl up_h) (up_m rfl up_h) ?_; clear s0_0 s1_0; intro e_3 s2_3 s3_3
 refine then_n <| aw_seq <| at_ <| ar (ro_fld_ptr qfl111_2 rfl s2_3) rfl <| ar (ro_eq (ro_ld_ptr k5_ty3 rfl mo0_2 up_h (nle rfl)) (by simp only [pS, Value.cells, Nat.reduceAdd, pE] <;> rfl)) rfl ?_
 refine ar (ro_fld_ptr qfl111_2 rfl (u2 rfl s3_3)) rfl <| ar (ro_eq (ro_ld_ptr k5_ty3 rfl mo1_2 up_h (nle rfl)) (by simp only [pS, Value.cells, Nat.reduceAdd, pE] <;> rfl)) rfl ?_
 (refine ar (ro_sub' (u2 rfl up_h) up_h ?_) rfl ?_; · (unfold In64; omega))
 refine ar (ro_assign up_h) rfl <| ae1 up_h ?_; clear s2_3 s3_3; intro e_4 s4_4
 refine then_n <| aw_ret <| ret1 (.inr rfl) (by kernel_rfl) (resV_tmp s4_4) (.ro _ rfl) ?_
 clear s4_4 mo1_2 mo0_2 ml_2
 rfl
def minP (ps : List Piece) : Nat → Piece
 | 0 => ps.getD 0 default
 | n + 1 => if (ps.getD (n + 1) default).lim - (minP ps n).lim < 0 then ps.getD (n + 1) default else minP ps n
theorem minP_mem {ps : List Piece} (h : 0 < ps.length) : ∀ n : Nat, n < ps.length → minP ps n ∈ ps
 | 0, _ => by simp [minP, List.getD_eq_getElem?_getD, h]
 | n + 1, hn => by
  simp only [minP]
  split
  ·simp [List.getD_eq_getElem?_getD, hn]
  ·exact minP_mem h n (by omega)
set_option maxRecDepth 100000 in
set_option maxHeartbeats 1000000 in
theorem minFunc_ok (ps : List Piece) (hok : Ok ps) (h0 : 0 < ps.length) (hp : ps.length ≤ 1000) : FnOk Tryz.prog 144 [.row 4 (ps.map pE), .v (.func (.func 145) #[] #[])] (fun r => r = .agg (pE (minP ps (ps.length - 1)))) := by
 refine fnOk_of (fn := Tryz.f144) 33 (by kernel_rfl) rfl (by kernel_rfl) (Nat.le_of_ble_eq_true rfl) ?_
 intro e_0 m_0 hA hm_0
 have s0_0 : evA e_0 (.tmp 0) = _ := hA 0 _ rfl
 have s1_0 : evA e_0 (.tmp 1) = _ := hA 1 _ rfl
 have ml_0 : m_0.length = 0 := by rw [hm_0]; rfl
 clear hA hm_0
 refine aw_seq <| at_ <| al_stm (st_alloc qaz111 rfl ml_0) trivial rfl (fun m_1 hm_1 => ?_)
 have mo0_1 := m_push hm_1 ml_0
 simp only [pS, Value.cells, Nat.reduceAdd, pE] at mo0_1
 have ml_1 := m_push_l hm_1 ml_0
 have ml_1 : _ = 1 := ml_1
 clear hm_1
 refine ae3 (up_m rfl s0_0) (up_m rfl s1_0) up_h ?_; clear s0_0 s1_0; intro e_2 s0_2 s1_2 s4_2
 refine then_n <| aw_seq <| aw_seq <| at_ <| ar (ro_move s0_2) rfl <| ar (ro_eq (ro_len_row up_h rfl k5_sl22.1) (by simp only [lnS] <;> rfl)) rfl ?_
 refine ar (ro_lss up_h ev_c) rfl <| ae4 (up_m rfl (u2 rfl s0_2)) (up_m rfl (u2 rfl s1_2)) (up_m rfl (u2 rfl s4_2)) up_h ?_; clear s0_2 s1_2 s4_2; intro e_3 s0_3 s1_3 s4_3 s9_3
 refine then_n <| aw_case s9_3 (fun hq_4 => ?_) (fun hq_4 => ?_)
 ·replace hq_4 := bt hq_4; exfalso; omega
 replace hq_4 := bf hq_4
 refine aw_skip <| then_n <| aw_seq <| at_ <| ar (ro_move s0_3) rfl <| ar (ro_eq (ro_ix k5_sl22 up_h ev_c (by decide) (by first | (refine idx_map ?_; first | omega | (simp only [lnS]; omega)) | (refine idx_mapI ?_; first | omega | (simp only [lnS]; omega)) | (refine idx_mapN ?_; first | omega | (simp only [lnS]; omega)) | rfl)) (by simp only [pS, Value.cells, Nat.reduceAdd, pE] <;> rfl)) rfl ?_
 refine ar (ro_eq (ro_ld_ref k5_ty111 rfl up_h (nle rfl)) (by simp only [pS, Value.cells, Nat.reduceAdd, pE] <;> rfl)) rfl ?_
 refine al_stm (st_alloc qaz111 rfl ml_1) trivial rfl (fun m_5 hm_5 => ?_)
 have mo1_5 := m_push hm_5 ml_1
 simp only [pS, Value.cells, Nat.reduceAdd, pE] at mo1_5
 have mo0_5 := m_push_o hm_5 mo0_1
 have ml_5 := m_push_l hm_5 ml_1
 have ml_5 : _ = 2 := ml_5
 clear hm_5 mo0_1
 refine al_stm (st_store up_h (up_m rfl up_h) rfl rfl mo1_5 qsz111 rfl (nle rfl)) trivial rfl (fun m_6 hm_6 => ?_)
 have mo1_6 := m_set hm_6 mo1_5
 simp only [pS, Value.cells, Nat.reduceAdd, pE] at mo1_6
 have mo0_6 := m_set_o hm_6 mo0_5 (by decide)
 have ml_6 := m_set_l hm_6 ml_5
 clear hm_6 mo1_5 mo0_5
 refine ae4 (up_n (u4 rfl s0_3)) (up_n (u4 rfl s1_3)) (up_n (u4 rfl s4_3)) (up_n up_h) ?_; clear s0_3 s1_3 s4_3 s9_3; intro e_7 s0_7 s1_7 s4_7 s5_7
 refine then_n <| aw_seq <| aw_seq <| at_ <| ar (ro_assign ev_c) rfl <| ae5 (up_m rfl s0_7) (up_m rfl s1_7) (up_m rfl s4_7) (up_m rfl s5_7) up_h ?_; clear s0_7 s1_7 s4_7 s5_7; intro e_8 s0_8 s1_8 s4_8 s5_8 s6_8
 refine then_n <| aw_block <| aw_loop (S := (Int × Piece)) (fun s e mem => match s with | ⟨i, p⟩ => (evA e (.tmp 6) = .v (.int .i64 i)) ∧ (evA e (.tmp 0) = evA e_8 (.tmp 0)) ∧ (evA e (.tmp 1) = evA e_8 (.tmp 1)) ∧ (evA e (.tmp 4) = evA e_8 (.tmp 4)) ∧ (evA e (.tmp 5) = evA e_8 (.tmp 5)) ∧ (mem[1]? = some (.box 111 [.v (.int .i64 p.len), .v (.int .i64 p.grad), .v (.int .i64 p.lim), .v (.bool p.leave)])) ∧ (mem[0]? = m_6[0]?) ∧ (mem.length = 2) ∧ ((1 ≤ i ∧ i ≤ ps.length ∧ p = minP ps (i.toNat - 1)))) (fun s => match s with | ⟨i, p⟩ => (ps.length - i).toNat) ⟨_, _⟩ ⟨s6_8, rfl, rfl, rfl, rfl, mo1_6, rfl, ml_6, ?_⟩ ?_
 ·exact ⟨by omega, by omega, rfl⟩
 ·rintro ⟨i, p⟩ e_9 m_9 ⟨s6_9, k0_9, k1_9, k4_9, k5_9, mo1_9, mk0_9, ml_9, hinv⟩
  have s0_9 := k0_9.trans s0_8
  have s1_9 := k1_9.trans s1_8
  have s4_9 := k4_9.trans s4_8
  have s5_9 := k5_9.trans s5_8
  have mo0_9 := mk0_9.trans mo0_6
  (have hpl : 0 ≤ p.lim ∧ p.lim ≤ 20000000000 := (by have hm := minP_mem h0 (i.toNat - 1) (by omega); rw [← hinv.2.2] at hm; obtain ⟨n, hn, he⟩ := List.getElem_of_mem hm; have := (hok.at n).2.2; rwa [List.getD_eq_getElem?_getD, List.getElem?_eq_getElem hn, Option.getD_some, he] at this); have hin := hinv.2.1; have hin0 := hinv.1)
  refine aw_seq <| aw_seq <| at_ <| ar (ro_move s6_9) rfl <| ar (ro_move (up_m rfl s0_9)) rfl <| ar (ro_eq (ro_len_row up_h rfl k5_sl22.1) (by simp only [lnS] <;> rfl)) rfl ?_
  refine ar (ro_lss (u2 rfl up_h) up_h) rfl <| ae6 (u4 rfl s0_9) (u4 rfl s1_9) (u4 rfl s4_9) (u4 rfl s5_9) (u4 rfl s6_9) up_h ?_; clear s0_9 s1_9 s4_9 s5_9 s6_9; intro e_10 s0_10 s1_10 s4_10 s5_10 s6_10 s17_10
  refine then_n <| aw_case s17_10 (fun hq_11 => ?_) (fun hq_11 => ?_)
  ·replace hq_11 := bt hq_11
   refine aw_skip <| then_n <| aw_seq <| aw_block <| aw_seq <| aw_draw 8 (by kernel_rfl) (by kernel_rfl) (by kernel_rfl) (by kernel_rfl) ?_
   refine dr (ro_move s1_10) rfl <| dr (ro_move (up_m rfl s0_10)) rfl <| dr (ro_move (u2 rfl s6_10)) rfl <| dr (ro_eq (ro_ix k5_sl22 (up_m rfl up_h) up_h (by omega) (by first | (refine idx_map ?_; first | omega | (simp only [lnS]; omega)) | (refine idx_mapI ?_; first | omega | (simp only [lnS]; omega)) | (refine idx_mapN ?_; first | omega | (simp only [lnS]; omega)) | rfl)) (by simp only [pS, Value.cells, Nat.reduceAdd, pE] <;> rfl)) rfl ?_
   refine dr (ro_eq (ro_ld_ref k5_ty111 rfl up_h (nle rfl)) (by simp only [pS, Value.cells, Nat.reduceAdd, pE] <;> rfl)) rfl ?_
   refine dr (ro_eq (ro_ld_ptr k5_ty111 rfl mo1_9 (up_m rfl (u4 rfl s5_10)) (nle rfl)) (by simp only [pS, Value.cells, Nat.reduceAdd, pE] <;> rfl)) rfl ?_
   refine dr (ro_callf (up_m rfl (u4 rfl up_h)) (evL_cons (up_m rfl up_h) (evL_cons up_h evL_nil)) rfl (limits1_ok _ _ (hok.at _).2.2 (by first | assumption | exact (hok.at _).2.2)) k5_hcf145) rfl ?_
   refine dr (ro_lss up_h ev_c) rfl <| ds_nil <| ae6 (u8 rfl s0_10) (u8 rfl s1_10) (u8 rfl s4_10) (u8 rfl s5_10) (u8 rfl s6_10) up_h ?_; clear s0_10 s17_10 s1_10 s4_10 s5_10 s6_10; intro e_12 s0_12 s1_12 s4_12 s5_12 s6_12 s27_12
   refine then_n <| aw_case s27_12 (fun hq_13 => ?_) (fun hq_13 => ?_)
   ·replace hq_13 := bt hq_13
    refine at_ <| ar (ro_move s0_12) rfl <| ar (ro_move (up_m rfl s6_12)) rfl <| ar (ro_eq (ro_ix k5_sl22 (up_m rfl up_h) up_h (by omega) (by first | (refine idx_map ?_; first | omega | (simp only [lnS]; omega)) | (refine idx_mapI ?_; first | omega | (simp only [lnS]; omega)) | (refine idx_mapN ?_; first | omega | (simp only [lnS]; omega)) | rfl)) (by simp only [pS, Value.cells, Nat.reduceAdd, pE] <;> rfl)) rfl ?_
    refine ar (ro_eq (ro_ld_ref k5_ty111 rfl up_h (nle rfl)) (by simp only [pS, Value.cells, Nat.reduceAdd, pE] <;> rfl)) rfl ?_
    refine al_stm (st_store (u4 rfl s5_12) up_h rfl rfl mo1_9 qsz111 rfl (nle rfl)) trivial rfl (fun m_14 hm_14 => ?_)
    have mo1_14 := m_set hm_14 mo1_9
    simp only [pS, Value.cells, Nat.reduceAdd, pE] at mo1_14
    have mo0_14 := m_set_o hm_14 mo0_9 (by decide)
    have ml_14 := m_set_l hm_14 ml_9
    clear hm_14 mo1_9 mo0_9
    refine ae5 (up_n (u4 rfl s0_12)) (up_n (u4 rfl s1_12)) (up_n (u4 rfl s4_12)) (up_n (u4 rfl s5_12)) (up_n (u4 rfl s6_12)) ?_; clear s0_12 s1_12 s27_12 s4_12 s5_12 s6_12; intro e_15 s0_15 s1_15 s4_15 s5_15 s6_15
    refine block_n <| then_n <| at_ <| ar (ro_move s6_15) rfl ?_
    (refine ar (ro_add' up_h ev_c ?_) rfl ?_; · (unfold In64; omega))
    refine ar (ro_assign up_h) rfl <| ae5 (up_m rfl (u2 rfl s0_15)) (up_m rfl (u2 rfl s1_15)) (up_m rfl (u2 rfl s4_15)) (up_m rfl (u2 rfl s5_15)) up_h ?_; clear s0_15 s1_15 s4_15 s5_15 s6_15; intro e_16 s0_16 s1_16 s4_16 s5_16 s6_16
    refine then_n <| ⟨⟨_, _⟩, ⟨s6_16, (s0_16.trans s0_8.symm), (s1_16.trans s1_8.symm), (s4_16.trans s4_8.symm), (s5_16.trans s5_8.symm), mo1_14, (mo0_14.trans mo0_6.symm), ml_14, ?_⟩, ?_⟩
    ·(obtain ⟨h1, h2, h3⟩ := hinv; refine ⟨by omega, by omega, ?_⟩; have e1 : (i + 1).toNat - 1 = (i.toNat - 1) + 1 := (by omega); have e2 : i.toNat - 1 + 1 = i.toNat := (by omega); rw [e1]; simp only [minP]; rw [e2, ← h3]; first | rw [if_pos (by assumption)] | rw [if_neg (by assumption)])
    ·((try dsimp only); omega)
   replace hq_13 := bf hq_13
   refine aw_skip <| block_n <| then_n <| at_ <| ar (ro_move s6_12) rfl ?_
   (refine ar (ro_add' up_h ev_c ?_) rfl ?_; · (unfold In64; omega))
   refine ar (ro_assign up_h) rfl <| ae5 (up_m rfl (u2 rfl s0_12)) (up_m rfl (u2 rfl s1_12)) (up_m rfl (u2 rfl s4_12)) (up_m rfl (u2 rfl s5_12)) up_h ?_; clear s0_12 s1_12 s27_12 s4_12 s5_12 s6_12; intro e_17 s0_17 s1_17 s4_17 s5_17 s6_17
   refine then_n <| ⟨⟨_, _⟩, ⟨s6_17, (s0_17.trans s0_8.symm), (s1_17.trans s1_8.symm), (s4_17.trans s4_8.symm), (s5_17.trans s5_8.symm), mo1_9, (mo0_9.trans mo0_6.symm), ml_9, ?_⟩, ?_⟩
   ·(obtain ⟨h1, h2, h3⟩ := hinv; refine ⟨by omega, by omega, ?_⟩; have e1 : (i + 1).toNat - 1 = (i.toNat - 1) + 1 := (by omega); have e2 : i.toNat - 1 + 1 = i.toNat := (by omega); rw [e1]; simp only [minP]; rw [e2, ← h3]; first | rw [if_pos (by assumption)] | rw [if_neg (by assumption)])
   ·((try dsimp only); omega)
  replace hq_11 := bf hq_11
  refine aw_exit <| then_x <| then_x <| block_hit <| then_n <| aw_seq <| at_ <| ar (ro_eq (ro_ld_ptr k5_ty111 rfl mo1_9 s5_10 (nle rfl)) (by simp only [pS, Value.cells, Nat.reduceAdd, pE] <;> rfl)) rfl ?_
  refine al_stm (st_store (up_m rfl s4_10) up_h rfl rfl mo0_9 qsz111 rfl (nle rfl)) trivial rfl (fun m_18 hm_18 => ?_)
  have mo0_18 := m_set hm_18 mo0_9
  simp only [pS, Value.cells, Nat.reduceAdd, pE] at mo0_18
  have mo1_18 := m_set_o hm_18 mo1_9 (by decide)
  have ml_18 := m_set_l hm_18 ml_9
  clear hm_18 mo1_9 mo0_9
  refine ae1 (up_n (up_m rfl s4_10)) ?_; clear s0_10 s17_10 s1_10 s4_10 s5_10 s6_10; intro e_19 s4_19
  refine then_n <| aw_ret <| ret1 (.inr rfl) (by kernel_rfl) (resV_cell s4_19 mo0_18 k5_ty111 (nle rfl) (by simp)) (vw_r (.ro _ rfl)) ?_
  clear s4_19 mo0_18 mo1_18 ml_18
  (obtain ⟨h1, h2, h3⟩ := hinv; rw [h3, show i.toNat - 1 = ps.length - 1 by omega]; rfl)
theorem k6_hcf144 : ∀ args w, (callFunc 144 args).run Tryz.prog w = .ok (.enter 144 args) w := fun _ _ => by kernel_rfl
theorem k6_sl22 : SlIs Tryz.prog 22 111 4 32 (.agg #[.int .i64 0, .int .i64 0, .int .i64 0, .bool false]) := ⟨by kernel_rfl, by kernel_rfl, by kernel_rfl⟩
theorem k6_sl76 : SlIs Tryz.prog 76 3 1 8 (.int .i64 0) := ⟨by kernel_rfl, by kernel_rfl, by kernel_rfl⟩
theorem k6_ty115 : TyIs Tryz.prog 115 true 2 := ⟨by kernel_rfl, by kernel_rfl⟩
theorem k6_ty178 : TyIs Tryz.prog 178 true 5 := ⟨by kernel_rfl, by kernel_rfl⟩
theorem k6_ty22 : TyIs Tryz.prog 22 false 1 := ⟨by kernel_rfl, by kernel_rfl⟩
theorem k6_ty3 : TyIs Tryz.prog 3 false 1 := ⟨by kernel_rfl, by kernel_rfl⟩
theorem td_m {α : Type} (f : α → List AV) (l : List α) (a b : Nat) : ((l.map f).take b).drop a = ((l.take b).drop a).map f := by rw [List.map_drop, List.map_take]
def limW (ps : List Piece) (i : Nat) : Int :=
 if i = 0 then (ps.getD 0 default).lim else if i < ps.length then min (ps.getD (i - 1) default).lim (ps.getD i default).lim else (ps.getD (i - 1) default).lim
def meetW (ps : List Piece) (i : Int) : List Piece := (ps.take (min (ps.length : Int) (i + 1)).toNat).drop (max 0 (i - 1)).toNat
theorem meet_lim {ps : List Piece} {i : Int} (h0 : 0 ≤ i) (h1 : i ≤ ps.length) (hp : 0 < ps.length) : 0 < (meetW ps i).length ∧ (minP (meetW ps i) ((meetW ps i).length - 1)).lim = limW ps i.toNat := by
 obtain ⟨n, rfl⟩ : ∃ n : Nat, i = n := ⟨i.toNat, by omega⟩
 have get : ∀ j : Nat, (meetW ps n).getD j default = if (max 0 ((n : Int) - 1)).toNat + j < (min (ps.length : Int) ((n : Int) + 1)).toNat then ps.getD ((max 0 ((n : Int) - 1)).toNat + j) default else default := fun j => by
  unfold meetW
  simp only [List.getD_eq_getElem?_getD, List.getElem?_drop, List.getElem?_take]
  split <;> rfl
 have hlen : (meetW ps n).length = (min (ps.length : Int) ((n : Int) + 1)).toNat - (max 0 ((n : Int) - 1)).toNat := by
  unfold meetW; simp; omega
 simp only [Int.toNat_natCast]
 unfold limW
 by_cases c0 : n = 0
 ·subst c0
  have hl : (meetW ps ((0 : Nat) : Int)).length = 1 := by rw [hlen]; omega
  have g0 : (meetW ps ((0 : Nat) : Int)).getD 0 default = ps.getD 0 default := by
   rw [get 0, if_pos (by omega)]; congr 1
  rw [hl, if_pos rfl]
  refine ⟨by omega, ?_⟩
  show ((meetW ps ((0 : Nat) : Int)).getD 0 default).lim = _
  rw [g0]
 ·have g0 : (meetW ps (n : Int)).getD 0 default = ps.getD (n - 1) default := by
   rw [get 0, if_pos (by omega)]; congr 1; omega
  by_cases c1 : n < ps.length
  ·have hl : (meetW ps (n : Int)).length = 2 := by rw [hlen]; omega
   have g1 : (meetW ps (n : Int)).getD 1 default = ps.getD n default := by
    rw [get 1, if_pos (by omega)]; congr 1; omega
   rw [hl, if_neg c0, if_pos c1]
   refine ⟨by omega, ?_⟩
   show (if ((meetW ps (n : Int)).getD 1 default).lim - ((meetW ps (n : Int)).getD 0 default).lim < 0 then (meetW ps (n : Int)).getD 1 default else (meetW ps (n : Int)).getD 0 default).lim = _
   rw [g0, g1]
   split <;> omega
  ·have hl : (meetW ps (n : Int)).length = 1 := by rw [hlen]; omega
   rw [hl, if_neg c0, if_neg c1]
   refine ⟨by omega, ?_⟩
   show ((meetW ps (n : Int)).getD 0 default).lim = _
   rw [g0]
theorem Ok.meet {ps : List Piece} (h : Ok ps) (i : Int) : Ok (meetW ps i) := fun p hp => h p (List.mem_of_mem_take (List.mem_of_mem_drop hp))
theorem limW_bound {ps : List Piece} (h : Ok ps) (i : Nat) : 0 ≤ limW ps i ∧ limW ps i ≤ 20000000000 := by
 have h1 := (h.at 0).2.2; have h2 := (h.at i).2.2; have h3 := (h.at (i - 1)).2.2
 unfold limW
 split
 ·exact h1
 ·split <;> omega
def liW (ps : List Piece) (n : Nat) : List Int := (List.range n).map (limW ps)
theorem liW_len (ps : List Piece) (n : Nat) : (liW ps n).length = n := by simp [liW]
theorem liW_at (ps : List Piece) {n i : Nat} (h : i < n) : (liW ps n).getD i default = limW ps i := by simp [liW, List.getD_eq_getElem?_getD, h]
theorem liW_succ (ps : List Piece) (n : Nat) : liW ps n ++ [limW ps n] = liW ps (n + 1) := by simp [liW, List.range_succ]
theorem meetMin_ok (ps : List Piece) (hok : Ok ps) (hp : 0 < ps.length) (hp2 : ps.length ≤ 900) (i : Int) (h0 : 0 ≤ i) (h1 : i ≤ ps.length) : FnOk Tryz.prog 144 [.row 4 ((meetW ps i).map pE), .v (.func (.func 145) #[] #[])] (fun r => r = .agg (pE (minP (meetW ps i) ((meetW ps i).length - 1)))) :=
 minFunc_ok _ (hok.meet i) (meet_lim h0 h1 hp).1 (by unfold meetW; simp; omega)
set_option maxRecDepth 100000 in
set_option maxHeartbeats 4000000 in
theorem limits_ok (nm : ByteArray) (ps : List Piece) (hok : Ok ps) (hp : 0 < ps.length) (hp2 : ps.length ≤ 900) : FnOk Tryz.prog 95 [trA nm ps] (fun q => q = .row 1 ((liW ps (ps.length + 1)).map iE)) := by
 refine fnOk_of (fn := Tryz.f95) 32 (by kernel_rfl) rfl (by kernel_rfl) (Nat.le_of_ble_eq_true rfl) ?_
 intro e_0 m_0 hA hm_0
 have s0_0 : evA e_0 (.tmp 0) = _ := hA 0 _ rfl
 have ml_0 : m_0.length = 0 := by rw [hm_0]; rfl
 clear hA hm_0
 refine aw_seq <| at_ <| al_stm (st_box s0_0 rfl ml_0) trivial rfl (fun m_1 hm_1 => ?_)
 have mo0_1 := m_push hm_1 ml_0
 have ml_1 := m_push_l hm_1 ml_0
 have ml_1 : _ = 1 := ml_1
 clear hm_1
 refine ar (ro_assign ev_c) rfl <| ae1 (up_m rfl up_h) ?_; clear s0_0; intro e_2 s1_2
 refine then_n <| aw_seq <| at_ <| ar (ro_assign ev_c) rfl <| ae2 (up_m rfl s1_2) up_h ?_; clear s1_2; intro e_3 s1_3 s3_3
 refine then_n <| aw_seq <| aw_seq <| at_ <| ar (ro_eq (ro_ld_ptr k6_ty115 rfl mo0_1 s1_3 (nle rfl)) (by simp only [pS, Value.cells, Nat.reduceAdd, pE, one_iE, app_m, td_m] <;> rfl)) rfl ?_
 refine ar (ro_call (evL_cons up_h evL_nil) rfl (last_ok nm ps) qhcf97) rfl ?_
 (refine ar (ro_add' up_h ev_c ?_) rfl ?_; · (unfold In64; omega))
 refine ar (ro_move ev_c) rfl <| ae4 (u4 rfl s1_3) (u4 rfl s3_3) (up_m rfl up_h) up_h ?_; clear s1_3 s3_3; intro e_4 s1_4 s3_4 s8_4 s9_4
 refine then_n <| aw_block <| aw_adopt 3 1 s3_4 ml_1 (fun m_5 e_5 hm_5 he_5 => ?_)
 have mo1_5 := m_push hm_5 ml_1
 have mo0_5 := m_push_o hm_5 mo0_1
 have ml_5 := m_push_l hm_5 ml_1
 have ml_5 : _ = 2 := ml_5
 have s1_5 : evA e_5 (.tmp 1) = _ := (congrArg (fun q => evA q (.tmp 1)) he_5).trans (up_m rfl s1_4)
 have s3_5 : evA e_5 (.tmp 3) = _ := (congrArg (fun q => evA q (.tmp 3)) he_5).trans up_h
 have s8_5 : evA e_5 (.tmp 8) = _ := (congrArg (fun q => evA q (.tmp 8)) he_5).trans (up_m rfl s8_4)
 have s9_5 : evA e_5 (.tmp 9) = _ := (congrArg (fun q => evA q (.tmp 9)) he_5).trans (up_m rfl s9_4)
 clear hm_5 he_5
 refine aw_loop (S := (Int × List Int)) (fun s e mem => match s with | ⟨i, xs⟩ => (evA e (.tmp 9) = .v (.int .i64 i)) ∧ (evA e (.tmp 1) = evA e_5 (.tmp 1)) ∧ (evA e (.tmp 8) = evA e_5 (.tmp 8)) ∧ (mem[0]? = m_5[0]?) ∧ (∃ j, evA e (.tmp 3) = .own j ∧ mem[j]? = some (.row 3 1 (xs.map iE)) ∧ j ≠ 0) ∧ (∃ n, mem.length = n ∧ 2 ≤ n) ∧ ((0 ≤ i ∧ i ≤ ps.length + 1 ∧ xs = liW ps i.toNat))) (fun s => match s with | ⟨i, xs⟩ => (ps.length + 1 - i).toNat) ⟨_, []⟩ ⟨s9_5, rfl, rfl, rfl, ⟨_, s3_5, mo1_5, (by decide)⟩, ⟨_, ml_5, Nat.le_refl _⟩, ?_⟩ ?_
 ·exact ⟨by omega, by omega, rfl⟩
 ·rintro ⟨i, xs⟩ e_6 m_6 ⟨s9_6, k1_6, k8_6, mk0_6, ⟨j3_6, s3_6, mo_j3_6, nj3_0_6⟩, ⟨n_6, ml_6, hn_6⟩, hinv⟩
  have s1_6 := k1_6.trans s1_5
  have s8_6 := k8_6.trans s8_5
  have mo0_6 := mk0_6.trans mo0_5
  have jl3_6 := m_lt mo_j3_6 ml_6
  (have hl : xs.length = i.toNat := (by rw [hinv.2.2, liW_len]); have hin := hinv.2.1; have hin0 := hinv.1)
  refine aw_seq <| at_ <| ar (ro_lss s9_6 s8_6) rfl <| ae5 (up_m rfl s1_6) (up_m rfl s3_6) (up_m rfl s8_6) (up_m rfl s9_6) up_h ?_; clear s1_6 s3_6 s8_6 s9_6; intro e_7 s1_7 s3_7 s8_7 s9_7 s10_7
  refine then_n <| aw_seq <| aw_case s10_7 (fun hq_8 => ?_) (fun hq_8 => ?_)
  ·replace hq_8 := bt hq_8
   refine aw_skip <| then_n <| aw_seq <| aw_block <| aw_seq <| at_ <| ar (ro_move s9_7) rfl <| ar (ro_assign up_h) rfl <| ae5 (u2 rfl s1_7) (u2 rfl s3_7) up_h (u2 rfl s8_7) (u2 rfl s9_7) ?_; clear s10_7 s1_7 s3_7 s8_7 s9_7; intro e_9 s1_9 s3_9 s4_9 s8_9 s9_9
   refine then_n <| aw_seq <| aw_draw 13 (by kernel_rfl) (by kernel_rfl) (by kernel_rfl) (by kernel_rfl) ?_
   refine dr (ro_fld_ptr qfl115_0 rfl s1_9) rfl <| dr (ro_fld_ptr qfl24_1 rfl up_h) rfl <| dr (ro_eq (ro_ld_ptr k6_ty22 rfl mo0_6 up_h (nle rfl)) (by simp only [pS, Value.cells, Nat.reduceAdd, pE, one_iE, app_m, td_m] <;> rfl)) rfl ?_
   refine dr (ro_move (up_m rfl (u2 rfl s4_9))) rfl ?_
   (refine dr (ro_sub' up_h ev_c ?_) rfl ?_; · (unfold In64; omega))
   refine dr (ro_max ev_c up_h) rfl <| dr (ro_eq (ro_ld_ptr k6_ty115 rfl mo0_6 (u2 rfl (u4 rfl s1_9)) (nle rfl)) (by simp only [pS, Value.cells, Nat.reduceAdd, pE, one_iE, app_m, td_m] <;> rfl)) rfl ?_
   refine dr (ro_call (evL_cons up_h evL_nil) rfl (last_ok nm ps) qhcf97) rfl <| dr (ro_move (u8 rfl s4_9)) rfl ?_
   (refine dr (ro_add' up_h ev_c ?_) rfl ?_; · (unfold In64; omega))
   refine dr (ro_min (u2 rfl up_h) up_h) rfl <| dr (ro_eq (ro_sl k6_sl22 (u8 rfl up_h) (up_m rfl (u4 rfl up_h)) up_h (by omega) (by omega) (by simp only [lnS] <;> omega)) (by simp only [pS, Value.cells, Nat.reduceAdd, pE, one_iE, app_m, td_m] <;> rfl)) rfl ?_
   refine dr (ro_assign up_h) rfl <| ds_nil <| ae5 (up_m rfl (u4 rfl (u8 rfl s1_9))) (up_m rfl (u4 rfl (u8 rfl s3_9))) up_h (up_m rfl (u4 rfl (u8 rfl s8_9))) (up_m rfl (u4 rfl (u8 rfl s9_9))) ?_; clear s1_9 s3_9 s4_9 s8_9 s9_9; intro e_10 s1_10 s3_10 s5_10 s8_10 s9_10
   refine then_n <| at_ <| ar (ro_move s3_10) rfl <| ar (ro_move (up_m rfl s5_10)) rfl <| ar (ro_call (evL_cons up_h (evL_cons ev_f evL_nil)) rfl (meetMin_ok ps hok hp hp2 i (by omega) (by omega)) k6_hcf144) rfl ?_
   refine ar (ro_eq (ro_fld qfl111_2 up_h (nle rfl) rfl) (by simp only [pS, Value.cells, Nat.reduceAdd, pE, one_iE, app_m, td_m] <;> rfl)) rfl ?_
   refine ar (ro_lit k6_sl76 (evP_cons up_h evP_nil) rfl rfl rfl rfl) rfl <| al_stm (st_app k6_sl76 rfl ml_6 mo_j3_6 (u4 rfl up_h) up_h (by rfl) (by simp only [lnS] <;> omega)) trivial rfl (fun m_11 hm_11 => ?_)
   have mon_6_11 := m_swap hm_11 ml_6
   simp only [pS, Value.cells, Nat.reduceAdd, pE, one_iE, app_m, td_m] at mon_6_11
   have mo0_11 := m_swap_o hm_11 mo0_6 (by omega)
   have ml_11 := m_swap_l hm_11 ml_6
   clear hm_11 mo0_6 mo_j3_6
   refine ar (ro_assign up_h) rfl <| ae4 (up_m rfl (u2 rfl (u4 rfl s1_10))) up_h (up_m rfl (u2 rfl (u4 rfl s8_10))) (up_m rfl (u2 rfl (u4 rfl s9_10))) ?_; clear s1_10 s3_10 s5_10 s8_10 s9_10; intro e_12 s1_12 s3_12 s8_12 s9_12
   refine block_n <| then_n <| at_ ?_
   (refine ar (ro_add' s9_12 ev_c ?_) rfl ?_; · (unfold In64; omega))
   refine ar (ro_move up_h) rfl <| ae4 (u2 rfl s1_12) (u2 rfl s3_12) (u2 rfl s8_12) up_h ?_; clear s1_12 s3_12 s8_12 s9_12; intro e_13 s1_13 s3_13 s8_13 s9_13
   refine then_n <| ⟨⟨_, _⟩, ⟨s9_13, (s1_13.trans s1_5.symm), (s8_13.trans s8_5.symm), (mo0_11.trans mo0_5.symm), ⟨_, s3_13, mon_6_11, (by omega)⟩, ⟨_, ml_11, by omega⟩, ?_⟩, ?_⟩
   ·(obtain ⟨h1, h2, h3⟩ := hinv; refine ⟨by omega, by omega, ?_⟩; rw [(meet_lim (by omega) (by omega) hp).2, h3, liW_succ]; congr 1; omega)
   ·((try dsimp only); omega)
  replace hq_8 := bf hq_8
  refine aw_exit <| then_x <| then_x <| block_hit <| then_n <| aw_seq <| at_ <| ar (ro_move s3_7) rfl <| ar (ro_assign up_h) rfl <| ae1 up_h ?_; clear s10_7 s1_7 s3_7 s8_7 s9_7; intro e_14 s2_14
  refine then_n <| aw_ret <| ret1 (.inr rfl) (by kernel_rfl) (resV_tmp s2_14) (.own _ _ _ _ mo_j3_6) ?_
  clear s2_14 mo0_6 mo_j3_6 ml_6
  (obtain ⟨h1, h2, h3⟩ := hinv; rw [h3, show i.toNat = ps.length + 1 by omega])
def bwD (ps : List Piece) (b sq : Int) (post : Nat) : Nat → Int
 | 0 => sq
 | k + 1 => if bwD ps b sq post k = -1 then -1 else max (-1) (min (limW ps (post - k - 1)) (bwD ps b sq post k + losW b (ps.getD (post - k - 1) default)))
theorem bwD_bound {ps : List Piece} (h : Ok ps) {b sq : Int} {post : Nat} (hs : -1 ≤ sq ∧ sq ≤ 20000000000) : ∀ k, -1 ≤ bwD ps b sq post k ∧ bwD ps b sq post k ≤ 20000000000
 | 0 => hs
 | k + 1 => by
  have := (limW_bound h (post - k - 1)).2
  simp only [bwD]
  split <;> omega
def bwL (ps : List Piece) (b sq : Int) (post : Nat) : List Int := (List.range (post + 1)).map fun j => bwD ps b sq post (post - j)
theorem getD_se {xs : List Int} {i : Nat} {v : Int} (h : i < xs.length) : (xs.set i v).getD i default = v := by simp [List.getD_eq_getElem?_getD, h]
theorem getD_sn {xs : List Int} {i j : Nat} {v : Int} (h : i ≠ j) : (xs.set i v).getD j default = xs.getD j default := by simp [List.getD_eq_getElem?_getD, List.getElem?_set, h]
theorem list_eq {xs : List Int} {n : Nat} {f : Nat → Int} (hl : xs.length = n) (h : ∀ j, j < n → xs.getD j default = f j) : xs = (List.range n).map f := by
 apply List.ext_getElem (by simpa using hl)
 intro j h1 h2
 have := h j (by omega)
 simp only [List.getD_eq_getElem?_getD, List.getElem?_eq_getElem h1, Option.getD_some] at this
 simpa using this
set_option maxRecDepth 100000 in
set_option maxHeartbeats 4000000 in
theorem backward_ok (nm : ByteArray) (ps : List Piece) (hok : Ok ps) (hp : 0 < ps.length) (hp2 : ps.length ≤ 900) (b d v sq post : Int) (hb : 0 ≤ b ∧ b ≤ 3000) (hsq : -1 ≤ sq ∧ sq ≤ 20000000000) (h0 : 0 ≤ post) (h1 : post ≤ ps.length) :
 FnOk Tryz.prog 96 [riA nm ps b d v, iA sq, iA post] (fun q => q = .row 1 ((bwL ps b sq post.toNat).map iE)) := by
 refine fnOk_of (fn := Tryz.f96) 54 (by kernel_rfl) rfl (by kernel_rfl) (Nat.le_of_ble_eq_true rfl) ?_
 intro e_0 m_0 hA hm_0
 have s0_0 : evA e_0 (.tmp 0) = _ := hA 0 _ rfl
 have s1_0 : evA e_0 (.tmp 1) = _ := hA 1 _ rfl
 have s2_0 : evA e_0 (.tmp 2) = _ := hA 2 _ rfl
 have ml_0 : m_0.length = 0 := by rw [hm_0]; rfl
 clear hA hm_0
 have hlw := liW_len ps (ps.length + 1)
 refine aw_seq <| at_ <| al_stm (st_box s0_0 rfl ml_0) trivial rfl (fun m_1 hm_1 => ?_)
 have mo0_1 := m_push hm_1 ml_0
 have ml_1 := m_push_l hm_1 ml_0
 have ml_1 : _ = 1 := ml_1
 clear hm_1
 refine ar (ro_assign ev_c) rfl <| ae3 (u2 rfl s1_0) (u2 rfl s2_0) (up_m rfl up_h) ?_; clear s0_0 s1_0 s2_0; intro e_2 s1_2 s2_2 s3_2
 refine then_n <| aw_seq <| at_ <| ar (ro_fld_ptr qfl178_0 rfl s3_2) rfl <| ar (ro_eq (ro_ld_ptr k6_ty115 rfl mo0_1 up_h (nle rfl)) (by simp only [pS, Value.cells, Nat.reduceAdd, rep_iE, set_iE] <;> rfl)) rfl ?_
 refine ar (ro_call (evL_cons up_h evL_nil) rfl (limits_ok nm ps hok hp hp2) qhcf95) rfl <| ar (ro_assign up_h) rfl <| ae4 (u4 rfl s1_2) (u4 rfl s2_2) (u4 rfl s3_2) up_h ?_; clear s1_2 s2_2 s3_2; intro e_3 s1_3 s2_3 s3_3 s7_3
 refine then_n <| aw_seq <| at_ <| ar (ro_move s2_3) rfl ?_
 (refine ar (ro_add' up_h ev_c ?_) rfl ?_; · (unfold In64; omega))
 refine al_stm (st_mk k6_sl76 rfl rfl ml_1 up_h up_h (by omega) (by omega)) trivial rfl (fun m_4 hm_4 => ?_)
 have mo1_4 := m_push hm_4 ml_1
 simp only [pS, Value.cells, Nat.reduceAdd, rep_iE, set_iE] at mo1_4
 have mo0_4 := m_push_o hm_4 mo0_1
 have ml_4 := m_push_l hm_4 ml_1
 have ml_4 : _ = 2 := ml_4
 clear hm_4 mo0_1
 refine ar (ro_assign up_h) rfl <| ae5 (u4 rfl s1_3) (u4 rfl s2_3) (u4 rfl s3_3) (u4 rfl s7_3) up_h ?_; clear s1_3 s2_3 s3_3 s7_3; intro e_5 s1_5 s2_5 s3_5 s7_5 s8_5
 refine then_n <| aw_seq <| at_ <| ar (ro_move s8_5) rfl <| ar (ro_move (up_m rfl s2_5)) rfl <| ar (ro_move (u2 rfl s1_5)) rfl <| ar (ro_ix_own k6_sl76 mo1_4 (u2 rfl up_h) (up_m rfl up_h) (by omega) (by simp only [lnS] <;> omega)) rfl ?_
 refine al_stm (st_store_el up_h (up_m rfl up_h) rfl rfl rfl mo1_4 (Nat.add_zero _).symm (by refine idx_mapI ?_; first | omega | (simp only [lnS]; omega)) qsz3 rfl (nle rfl)) trivial rfl (fun m_6 hm_6 => ?_)
 have mo1_6 := m_set hm_6 mo1_4
 simp only [pS, Value.cells, Nat.reduceAdd, rep_iE, set_iE] at mo1_6
 have mo0_6 := m_set_o hm_6 mo0_4 (by decide)
 have ml_6 := m_set_l hm_6 ml_4
 clear hm_6 mo1_4 mo0_4
 refine ae4 (up_n (u4 rfl s2_5)) (up_n (u4 rfl s3_5)) (up_n (u4 rfl s7_5)) (up_n (u4 rfl s8_5)) ?_; clear s1_5 s2_5 s3_5 s7_5 s8_5; intro e_7 s2_7 s3_7 s7_7 s8_7
 refine then_n <| aw_seq <| aw_seq <| at_ <| ar (ro_move s2_7) rfl ?_
 (refine ar (ro_sub' up_h ev_c ?_) rfl ?_; · (unfold In64; omega))
 refine ar (ro_assign up_h) rfl <| ae4 (up_m rfl (u2 rfl s3_7)) (up_m rfl (u2 rfl s7_7)) (up_m rfl (u2 rfl s8_7)) up_h ?_; clear s2_7 s3_7 s7_7 s8_7; intro e_8 s3_8 s7_8 s8_8 s9_8
 refine then_n <| aw_block <| aw_loop (S := (Int × List Int)) (fun s e mem => match s with | ⟨i, xs⟩ => (evA e (.tmp 9) = .v (.int .i64 i)) ∧ (evA e (.tmp 3) = evA e_8 (.tmp 3)) ∧ (evA e (.tmp 7) = evA e_8 (.tmp 7)) ∧ (evA e (.tmp 8) = evA e_8 (.tmp 8)) ∧ (mem[1]? = some (.row 3 1 (xs.map iE))) ∧ (mem[0]? = m_6[0]?) ∧ (mem.length = 2) ∧ ((-1 ≤ i ∧ i < post ∧ xs.length = post.toNat + 1 ∧ ∀ j : Nat, i < j → j ≤ post.toNat → xs.getD j default = bwD ps b sq post.toNat (post.toNat - j)))) (fun s => match s with | ⟨i, xs⟩ => (i + 1).toNat) ⟨_, _⟩ ⟨s9_8, rfl, rfl, rfl, mo1_6, rfl, ml_6, ?_⟩ ?_
 ·(refine ⟨by omega, by omega, by simp; omega, fun j hj hj2 => ?_⟩; have hjp : j = post.toNat := (by omega); rw [hjp, getD_se (by simp; omega), Nat.sub_self]; rfl)
 ·rintro ⟨i, xs⟩ e_9 m_9 ⟨s9_9, k3_9, k7_9, k8_9, mo1_9, mk0_9, ml_9, hinv⟩
  have s3_9 := k3_9.trans s3_8
  have s7_9 := k7_9.trans s7_8
  have s8_9 := k8_9.trans s8_8
  have mo0_9 := mk0_9.trans mo0_6
  refine aw_seq <| aw_seq <| at_ <| ar (ro_move s9_9) rfl <| ar (ro_geq up_h ev_c) rfl <| ae5 (u2 rfl s3_9) (u2 rfl s7_9) (u2 rfl s8_9) (u2 rfl s9_9) up_h ?_; clear s3_9 s7_9 s8_9 s9_9; intro e_10 s3_10 s7_10 s8_10 s9_10 s23_10
  refine then_n <| aw_case s23_10 (fun hq_11 => ?_) (fun hq_11 => ?_)
  ·replace hq_11 := bt hq_11
   (obtain ⟨q1, q2, q3, q4⟩ := hinv; have hq4 := q4 (i + 1).toNat (by omega) (by omega); have hbd := bwD_bound hok (b := b) (post := post.toNat) hsq (post.toNat - (i + 1).toNat); have hlb := limW_bound hok i.toNat; have hpa := hok.at i.toNat; have hlos := los_bound (dec := b) (p := ps.getD i.toNat default) (by omega) hpa.1 hpa.2.1; have hset : (xs.set i.toNat (-1)).getD (i + 1).toNat default = xs.getD (i + 1).toNat default := getD_sn (by omega); have hli : (liW ps (ps.length + 1)).getD i.toNat default = limW ps i.toNat := liW_at ps (by omega))
   refine aw_skip <| then_n <| aw_seq <| aw_block <| aw_seq <| at_ <| ar (ro_move s8_10) rfl <| ar (ro_move (up_m rfl s9_10)) rfl <| ar (ro_ix_own k6_sl76 mo1_9 (up_m rfl up_h) up_h (by omega) (by simp only [lnS] <;> omega)) rfl ?_
   refine al_stm (st_store_el up_h ev_c rfl rfl rfl mo1_9 (Nat.add_zero _).symm (by first | (refine idx_map ?_; first | omega | (simp only [lnS]; omega)) | (refine idx_mapI ?_; first | omega | (simp only [lnS]; omega)) | (refine idx_mapN ?_; first | omega | (simp only [lnS]; omega)) | rfl) qsz3 rfl (nle rfl)) trivial rfl (fun m_12 hm_12 => ?_)
   have mo1_12 := m_set hm_12 mo1_9
   simp only [pS, Value.cells, Nat.reduceAdd, rep_iE, set_iE] at mo1_12
   have mo0_12 := m_set_o hm_12 mo0_9 (by decide)
   have ml_12 := m_set_l hm_12 ml_9
   clear hm_12 mo1_9 mo0_9
   refine ae4 (up_n (up_m rfl (u2 rfl s3_10))) (up_n (up_m rfl (u2 rfl s7_10))) (up_n (up_m rfl (u2 rfl s8_10))) (up_n (up_m rfl (u2 rfl s9_10))) ?_; clear s23_10 s3_10 s7_10 s8_10 s9_10; intro e_13 s3_13 s7_13 s8_13 s9_13
   refine then_n <| aw_seq <| at_ <| ar (ro_move s8_13) rfl <| ar (ro_move (up_m rfl s9_13)) rfl ?_
   (refine ar (ro_add' up_h ev_c ?_) rfl ?_; · (unfold In64; omega))
   refine ar (ro_ix_own k6_sl76 mo1_12 (u2 rfl up_h) up_h (by omega) (by simp only [lnS] <;> omega)) rfl ?_
   refine ar (ro_eq (ro_ld_el k6_ty3 rfl mo1_12 up_h (nle rfl) (by refine idx_mapI ?_; first | omega | (simp only [lnS]; omega))) (by simp only [pS, Value.cells, Nat.reduceAdd, rep_iE, set_iE] <;> rfl)) rfl ?_
   refine ar (ro_neq up_h ev_c) rfl <| ae5 (u2 rfl (u4 rfl s3_13)) (u2 rfl (u4 rfl s7_13)) (u2 rfl (u4 rfl s8_13)) (u2 rfl (u4 rfl s9_13)) up_h ?_; clear s3_13 s7_13 s8_13 s9_13; intro e_14 s3_14 s7_14 s8_14 s9_14 s34_14
   refine then_n <| aw_case s34_14 (fun hq_15 => ?_) (fun hq_15 => ?_)
   ·replace hq_15 := bnt hq_15
    refine aw_draw 18 (by kernel_rfl) (by kernel_rfl) (by kernel_rfl) (by kernel_rfl) ?_
    refine dr (ro_move s8_14) rfl <| dr (ro_move (up_m rfl s9_14)) rfl <| dr (ro_move (u2 rfl s7_14)) rfl <| dr (ro_move (up_m rfl (u2 rfl s9_14))) rfl <| dr (ro_eq (ro_ix k6_sl76 (up_m rfl up_h) up_h (by omega) (by first | (refine idx_map ?_; first | omega | (simp only [lnS]; omega)) | (refine idx_mapI ?_; first | omega | (simp only [lnS]; omega)) | (refine idx_mapN ?_; first | omega | (simp only [lnS]; omega)) | rfl)) (by simp only [pS, Value.cells, Nat.reduceAdd, rep_iE, set_iE] <;> rfl)) rfl ?_
    refine dr (ro_eq (ro_ld_ref k6_ty3 rfl up_h (nle rfl)) (by simp only [pS, Value.cells, Nat.reduceAdd, rep_iE, set_iE] <;> rfl)) rfl ?_
    refine dr (ro_move (u2 rfl (u4 rfl s8_14))) rfl <| dr (ro_move (up_m rfl (u2 rfl (u4 rfl s9_14)))) rfl ?_
    (refine dr (ro_add' up_h ev_c ?_) rfl ?_; · (unfold In64; omega))
    refine dr (ro_ix_own k6_sl76 mo1_12 (u2 rfl up_h) up_h (by omega) (by simp only [lnS] <;> omega)) rfl ?_
    refine dr (ro_eq (ro_ld_el k6_ty3 rfl mo1_12 up_h (nle rfl) (by refine idx_mapI ?_; first | omega | (simp only [lnS]; omega))) (by simp only [pS, Value.cells, Nat.reduceAdd, rep_iE, set_iE] <;> rfl)) rfl ?_
    refine dr (ro_eq (ro_ld_ptr k6_ty178 rfl mo0_12 (up_m rfl (u2 rfl (u8 rfl s3_14))) (nle rfl)) (by simp only [pS, Value.cells, Nat.reduceAdd, rep_iE, set_iE] <;> rfl)) rfl ?_
    refine dr (ro_move (u4 rfl (u8 rfl s9_14))) rfl <| dr (ro_call (evL_cons (up_m rfl up_h) (evL_cons up_h evL_nil)) rfl (braked_ok nm ps hok b d v i (by omega) (by omega) hb) qhcf92) rfl ?_
    (refine dr (ro_add' (up_m rfl (u2 rfl up_h)) up_h ?_) rfl ?_; · (unfold In64; omega))
    refine dr (ro_min (up_m rfl (u8 rfl up_h)) up_h) rfl <| dr (ro_max ev_c up_h) rfl <| dr (ro_ix_own k6_sl76 mo1_12 (u16 rfl up_h) (up_m rfl (u2 rfl (u4 rfl (u8 rfl up_h)))) (by omega) (by simp only [lnS] <;> omega)) rfl ?_
    refine ds_nil <| al_stm (st_store_el up_h (up_m rfl up_h) rfl rfl rfl mo1_12 (Nat.add_zero _).symm (by refine idx_mapI ?_; first | omega | (simp only [lnS]; omega)) qsz3 rfl (nle rfl)) trivial rfl (fun m_16 hm_16 => ?_)
    have mo1_16 := m_set hm_16 mo1_12
    simp only [pS, Value.cells, Nat.reduceAdd, rep_iE, set_iE] at mo1_16
    have mo0_16 := m_set_o hm_16 mo0_12 (by decide)
    have ml_16 := m_set_l hm_16 ml_12
    clear hm_16 mo1_12 mo0_12
    refine ae4 (up_n (u2 rfl (u16 rfl s3_14))) (up_n (u2 rfl (u16 rfl s7_14))) (up_n (u2 rfl (u16 rfl s8_14))) (up_n (u2 rfl (u16 rfl s9_14))) ?_; clear s34_14 s3_14 s7_14 s8_14 s9_14; intro e_17 s3_17 s7_17 s8_17 s9_17
    refine block_n <| then_n <| at_ <| ar (ro_move s9_17) rfl ?_
    (refine ar (ro_sub' up_h ev_c ?_) rfl ?_; · (unfold In64; omega))
    refine ar (ro_assign up_h) rfl <| ae4 (up_m rfl (u2 rfl s3_17)) (up_m rfl (u2 rfl s7_17)) (up_m rfl (u2 rfl s8_17)) up_h ?_; clear s3_17 s7_17 s8_17 s9_17; intro e_18 s3_18 s7_18 s8_18 s9_18
    refine then_n <| ⟨⟨_, _⟩, ⟨s9_18, (s3_18.trans s3_8.symm), (s7_18.trans s7_8.symm), (s8_18.trans s8_8.symm), mo1_16, (mo0_16.trans mo0_6.symm), ml_16, ?_⟩, ?_⟩
    ·(refine ⟨by omega, by omega, by simp; omega, fun j hj hj2 => ?_⟩; by_cases hji : j = i.toNat; (have ek : post.toNat - j = (post.toNat - (i + 1).toNat) + 1 := (by omega); have e2 : post.toNat - (post.toNat - (i + 1).toNat) - 1 = i.toNat := (by omega); rw [ek]; simp only [bwD, e2]; first | (rw [hji, getD_se (by omega)]; rw [if_pos (by rw [← hq4, ← hset]; assumption)]; done) | (rw [hji, getD_se (by omega)]; rw [if_pos (by rw [← hq4, ← hset]; assumption)]) | (rw [hji, getD_se (by simp; omega), if_neg (by omega), hli, hset, hq4])); (first | (rw [getD_sn (by omega)]; exact q4 j (by omega) hj2) | (rw [getD_sn (by omega), getD_sn (by omega)]; exact q4 j (by omega) hj2)))
    ·((try dsimp only); omega)
   replace hq_15 := bnf hq_15
   refine aw_skip <| block_n <| then_n <| at_ <| ar (ro_move s9_14) rfl ?_
   (refine ar (ro_sub' up_h ev_c ?_) rfl ?_; · (unfold In64; omega))
   refine ar (ro_assign up_h) rfl <| ae4 (up_m rfl (u2 rfl s3_14)) (up_m rfl (u2 rfl s7_14)) (up_m rfl (u2 rfl s8_14)) up_h ?_; clear s34_14 s3_14 s7_14 s8_14 s9_14; intro e_19 s3_19 s7_19 s8_19 s9_19
   refine then_n <| ⟨⟨_, _⟩, ⟨s9_19, (s3_19.trans s3_8.symm), (s7_19.trans s7_8.symm), (s8_19.trans s8_8.symm), mo1_12, (mo0_12.trans mo0_6.symm), ml_12, ?_⟩, ?_⟩
   ·(refine ⟨by omega, by omega, by simp; omega, fun j hj hj2 => ?_⟩; by_cases hji : j = i.toNat; (have ek : post.toNat - j = (post.toNat - (i + 1).toNat) + 1 := (by omega); have e2 : post.toNat - (post.toNat - (i + 1).toNat) - 1 = i.toNat := (by omega); rw [ek]; simp only [bwD, e2]; first | (rw [hji, getD_se (by omega)]; rw [if_pos (by rw [← hq4, ← hset]; assumption)]; done) | (rw [hji, getD_se (by omega)]; rw [if_pos (by rw [← hq4, ← hset]; assumption)]) | (rw [hji, getD_se (by simp; omega), if_neg (by omega), hli, hset, hq4])); (first | (rw [getD_sn (by omega)]; exact q4 j (by omega) hj2) | (rw [getD_sn (by omega), getD_sn (by omega)]; exact q4 j (by omega) hj2)))
   ·((try dsimp only); omega)
  replace hq_11 := bf hq_11
  refine aw_exit <| then_x <| then_x <| block_hit <| then_n <| aw_seq <| at_ <| ar (ro_move s8_10) rfl <| ar (ro_assign up_h) rfl <| ae1 up_h ?_; clear s23_10 s3_10 s7_10 s8_10 s9_10; intro e_20 s6_20
  refine then_n <| aw_ret <| ret1 (.inr rfl) (by kernel_rfl) (resV_tmp s6_20) (.own _ _ _ _ mo1_9) ?_
  clear s6_20 mo1_9 mo0_9 ml_9
  (obtain ⟨q1, q2, q3, q4⟩ := hinv; congr 2; exact list_eq q3 (fun j hj => q4 j (by omega) (by omega)))
theorem k7_sl219 : SlIs Tryz.prog 219 29 1 8 (.int .i64 0) := ⟨by kernel_rfl, by kernel_rfl, by kernel_rfl⟩
theorem k7_sl22 : SlIs Tryz.prog 22 111 4 32 (.agg #[.int .i64 0, .int .i64 0, .int .i64 0, .bool false]) := ⟨by kernel_rfl, by kernel_rfl, by kernel_rfl⟩
theorem k7_ty115 : TyIs Tryz.prog 115 true 2 := ⟨by kernel_rfl, by kernel_rfl⟩
theorem k7_ty178 : TyIs Tryz.prog 178 true 5 := ⟨by kernel_rfl, by kernel_rfl⟩
theorem k7_ty22 : TyIs Tryz.prog 22 false 1 := ⟨by kernel_rfl, by kernel_rfl⟩
theorem k7_ty24 : TyIs Tryz.prog 24 true 2 := ⟨by kernel_rfl, by kernel_rfl⟩
theorem k7_ty3 : TyIs Tryz.prog 3 false 1 := ⟨by kernel_rfl, by kernel_rfl⟩
theorem k7_ty4 : TyIs Tryz.prog 4 false 1 := ⟨by kernel_rfl, by kernel_rfl⟩
theorem k7_ty81 : TyIs Tryz.prog 81 true 3 := ⟨by kernel_rfl, by kernel_rfl⟩
theorem firstE_cons {e : Int} {l : List Int} (h : firstE (e :: l) = 0) : e = 0 ∧ firstE l = 0 := by
 simp only [firstE] at h
 by_cases he : e = 0
 ·rw [if_pos he] at h; exact ⟨he, h⟩
 ·rw [if_neg he] at h; exact absurd h he
theorem unlessE_zero {ok : Bool} {e : Int} (h : unlessE ok e = 0) (he : e ≠ 0) : ok = true := by
 cases ok
 ·exact absurd h he
 ·rfl
def trackR (ps : List Piece) : Prop := Ok ps ∧ 1 ≤ ps.length ∧ ps.length ≤ 12
theorem chk_right {nm : ByteArray} {ps : List Piece} (h : (chk nm ps).2 = 0) : trackR ps := by
 unfold chk at h
 by_cases h0 : err0 nm ps ≠ 0
 ·rw [if_pos h0] at h; exact absurd h h0
 ·rw [if_neg h0] at h
  have h0' : err0 nm ps = 0 := by simpa using h0
  obtain ⟨_, h1⟩ := firstE_cons h0'
  obtain ⟨h2, h3⟩ := firstE_cons h1
  obtain ⟨h4, _⟩ := firstE_cons h3
  have h5 := unlessE_zero h2 (by decide)
  have h6 := unlessE_zero h4 (by decide)
  simp only [decide_eq_true_eq] at h5 h6
  refine ⟨fun p hp => ?_, by omega, by omega⟩
  cases hf : ps.findIdx? fun p => !pieceB p with
  | some i => rw [hf] at h; simp at h
  | none =>
   rw [List.findIdx?_eq_none_iff] at hf
   simpa using hf p hp
def sysR (b d v : Int) : Prop := (1 ≤ b ∧ b ≤ 3000) ∧ (0 ≤ d ∧ d ≤ 500) ∧ (0 ≤ v ∧ v ≤ 2000) ∧ d ≤ b
theorem sys_right {b d v : Int} (h : sysE b d v = 0) : sysR b d v := by
 obtain ⟨h1, h2⟩ := firstE_cons h
 obtain ⟨h3, _⟩ := firstE_cons h2
 have h4 := unlessE_zero h1 (by decide)
 have h5 := unlessE_zero h3 (by decide)
 simp only [sysRight, withinB, Bool.and_eq_true, decide_eq_true_eq] at h4 h5
 exact ⟨by omega, by omega, by omega, by omega⟩
theorem ride_right {nm : ByteArray} {ps : List Piece} {b d v : Int} {l : List Int} (h : firstE (firstE [(chk nm ps).2, sysE b d v] :: l) = 0) : trackR ps ∧ sysR b d v ∧ firstE l = 0 := by
 obtain ⟨h1, h2⟩ := firstE_cons h
 obtain ⟨h3, h4⟩ := firstE_cons h1
 exact ⟨chk_right h3, sys_right (firstE_cons h4).1, h2⟩
def stopE (ps : List Piece) (stop : Int) : Int := if withinB stop 0 (ps.length - 1) then unlessE (ps.getD stop.toNat default).leave 15 else 6
def stateE (ps : List Piece) (post sq : Int) : Int := firstE [unlessE (withinB post 0 ps.length) 6, unlessE (withinB sq 0 20000000000) 2]
theorem stop_right {ps : List Piece} {stop : Int} (h : stopE ps stop = 0) : 0 ≤ stop ∧ stop < ps.length ∧ (ps.getD stop.toNat default).leave = true := by
 unfold stopE at h
 split at h
 ·rename_i hw
  simp only [withinB, Bool.and_eq_true, decide_eq_true_eq] at hw
  exact ⟨by omega, by omega, unlessE_zero h (by decide)⟩
 ·cases h
section
variable (nm : ByteArray) (ps : List Piece) (hp : ps.length ≤ 1000000000) (b d v : Int)
include hp
set_option maxRecDepth 100000 in
set_option maxHeartbeats 1000000 in
theorem stopErr_ok (stop : Int) : FnOk Tryz.prog 86 [riA nm ps b d v, iA stop] (fun q => q = iA (stopE ps stop)) := by
 refine fnOk_of (fn := Tryz.f86) 23 (by kernel_rfl) rfl (by kernel_rfl) (Nat.le_of_ble_eq_true rfl) ?_
 intro e_0 m_0 hA hm_0
 have s0_0 : evA e_0 (.tmp 0) = _ := hA 0 _ rfl
 have s1_0 : evA e_0 (.tmp 1) = _ := hA 1 _ rfl
 have ml_0 : m_0.length = 0 := by rw [hm_0]; rfl
 clear hA hm_0
 refine aw_seq <| at_ <| al_stm (st_box s0_0 rfl ml_0) trivial rfl (fun m_1 hm_1 => ?_)
 have mo0_1 := m_push hm_1 ml_0
 have ml_1 := m_push_l hm_1 ml_0
 have ml_1 : _ = 1 := ml_1
 clear hm_1
 refine ar (ro_assign ev_c) rfl <| ae2 (u2 rfl s1_0) (up_m rfl up_h) ?_; clear s0_0 s1_0; intro e_2 s1_2 s2_2
 refine then_n <| aw_seq <| aw_seq <| at_ <| ar (ro_move s1_2) rfl <| ar (ro_fld_ptr qfl178_0 rfl (up_m rfl s2_2)) rfl <| ar (ro_fld_ptr qfl115_0 rfl up_h) rfl <| ar (ro_fld_ptr qfl24_1 rfl up_h) rfl <| ar (ro_eq (ro_ld_ptr k7_ty22 rfl mo0_1 up_h (nle rfl)) (by simp only [pS, Value.cells, Nat.reduceAdd, pE] <;> rfl)) rfl ?_
 refine ar (ro_eq (ro_len_row up_h rfl k7_sl22.1) (by simp only [lnS] <;> rfl)) rfl ?_
 (refine ar (ro_sub' up_h ev_c ?_) rfl ?_; · (unfold In64; omega))
 refine ar (ro_call (evL_cons (u2 rfl (u4 rfl up_h)) (evL_cons ev_c (evL_cons up_h evL_nil))) rfl (within_ok _ _ _) qhcf110) rfl <| ar (ro_not up_h) rfl <| ae3 (up_m rfl (u8 rfl s1_2)) (up_m rfl (u8 rfl s2_2)) up_h ?_; clear s1_2 s2_2; intro e_3 s1_3 s2_3 s13_3
 refine then_n <| aw_case s13_3 (fun hq_4 => ?_) (fun hq_4 => ?_)
 ·replace hq_4 := bt' hq_4
  refine aw_seq <| at_ <| ar (ro_assign ev_c) rfl <| ae1 up_h ?_; clear s13_3 s1_3 s2_3; intro e_5 s4_5
  refine then_n <| aw_ret <| then_r <| ret1 (.inr rfl) (by kernel_rfl) (resV_tmp s4_5) (.ro _ rfl) ?_
  clear s4_5 mo0_1 ml_1
  (have hw : withinB stop 0 (ps.length - 1) = false := (by assumption); rw [stopE, if_neg (by simp [hw])])
 replace hq_4 := bf' hq_4
 (have hw : withinB stop 0 (ps.length - 1) = true := (by assumption); simp only [withinB, Bool.and_eq_true, decide_eq_true_eq] at hw)
 refine aw_skip <| then_n <| aw_seq <| at_ <| ar (ro_fld_ptr qfl178_0 rfl s2_3) rfl <| ar (ro_fld_ptr qfl115_0 rfl up_h) rfl <| ar (ro_fld_ptr qfl24_1 rfl up_h) rfl <| ar (ro_eq (ro_ld_ptr k7_ty22 rfl mo0_1 up_h (nle rfl)) (by simp only [pS, Value.cells, Nat.reduceAdd, pE] <;> rfl)) rfl ?_
 refine ar (ro_move (u4 rfl s1_3)) rfl <| ar (ro_eq (ro_ix k7_sl22 (up_m rfl up_h) up_h (by omega) (by first | (refine idx_map ?_; first | omega | (simp only [lnS]; omega)) | (refine idx_mapI ?_; first | omega | (simp only [lnS]; omega)) | (refine idx_mapN ?_; first | omega | (simp only [lnS]; omega)) | rfl)) (by simp only [pS, Value.cells, Nat.reduceAdd, pE] <;> rfl)) rfl ?_
 refine ar (ro_eq (ro_fld_ref qfl111_3 rfl up_h) (by simp only [pS, Value.cells, Nat.reduceAdd, pE] <;> rfl)) rfl ?_
 refine ar (ro_eq (ro_ld_ref k7_ty4 rfl up_h (nle rfl)) (by simp only [pS, Value.cells, Nat.reduceAdd, pE] <;> rfl)) rfl ?_
 refine ar (ro_call (evL_cons up_h (evL_cons ev_c evL_nil)) rfl (unless_ok _ _) qhcf93) rfl <| ar (ro_assign up_h) rfl <| ae1 up_h ?_; clear s13_3 s1_3 s2_3; intro e_6 s4_6
 refine then_n <| aw_ret <| ret1 (.inr rfl) (by kernel_rfl) (resV_tmp s4_6) (.ro _ rfl) ?_
 clear s4_6 mo0_1 ml_1
 (rw [stopE, if_pos (by simp [withinB]; omega)])
set_option maxRecDepth 100000 in
set_option maxHeartbeats 1000000 in
theorem stateErr_ok (post sq : Int) : FnOk Tryz.prog 90 [riA nm ps b d v, .agg [iA post, iA sq]] (fun q => q = iA (stateE ps post sq)) := by
 have _hp := hp
 refine fnOk_of (fn := Tryz.f90) 18 (by kernel_rfl) rfl (by kernel_rfl) (Nat.le_of_ble_eq_true rfl) ?_
 intro e_0 m_0 hA hm_0
 have s0_0 : evA e_0 (.tmp 0) = _ := hA 0 _ rfl
 have s1_0 : evA e_0 (.tmp 1) = _ := hA 1 _ rfl
 have ml_0 : m_0.length = 0 := by rw [hm_0]; rfl
 clear hA hm_0
 refine aw_seq <| at_ <| al_stm (st_box s0_0 rfl ml_0) trivial rfl (fun m_1 hm_1 => ?_)
 have mo0_1 := m_push hm_1 ml_0
 have ml_1 := m_push_l hm_1 ml_0
 have ml_1 : _ = 1 := ml_1
 clear hm_1
 refine al_stm (st_box (up_m rfl s1_0) rfl ml_1) trivial rfl (fun m_2 hm_2 => ?_)
 have mo1_2 := m_push hm_2 ml_1
 have mo0_2 := m_push_o hm_2 mo0_1
 have ml_2 := m_push_l hm_2 ml_1
 have ml_2 : _ = 2 := ml_2
 clear hm_2 mo0_1
 refine ar (ro_assign ev_c) rfl <| ae2 (u2 rfl up_h) (up_m rfl up_h) ?_; clear s0_0 s1_0; intro e_3 s2_3 s3_3
 refine then_n <| aw_seq <| aw_draw 14 (by kernel_rfl) (by kernel_rfl) (by kernel_rfl) (by kernel_rfl) ?_
 refine dr (ro_fld_ptr qfl85_0 rfl s3_3) rfl <| dr (ro_eq (ro_ld_ptr k7_ty3 rfl mo1_2 up_h (nle rfl)) (by simp only [pS, Value.cells, Nat.reduceAdd] <;> rfl)) rfl ?_
 refine dr (ro_fld_ptr qfl178_0 rfl (u2 rfl s2_3)) rfl <| dr (ro_eq (ro_ld_ptr k7_ty115 rfl mo0_2 up_h (nle rfl)) (by simp only [pS, Value.cells, Nat.reduceAdd] <;> rfl)) rfl ?_
 refine dr (ro_call (evL_cons up_h evL_nil) rfl (last_ok nm ps) qhcf97) rfl <| dr (ro_call (evL_cons (up_m rfl (u2 rfl up_h)) (evL_cons ev_c (evL_cons up_h evL_nil))) rfl (within_ok _ _ _) qhcf110) rfl <| dr (ro_call (evL_cons up_h (evL_cons ev_c evL_nil)) rfl (unless_ok _ _) qhcf93) rfl <| dr (ro_fld_ptr qfl85_1 rfl (up_m rfl (u2 rfl (u4 rfl s3_3)))) rfl <| dr (ro_eq (ro_ld_ptr k7_ty3 rfl mo1_2 up_h (nle rfl)) (by simp only [pS, Value.cells, Nat.reduceAdd] <;> rfl)) rfl ?_
 refine dr (ro_call (evL_cons up_h evL_nil) rfl (isSquare_ok _) qhcf94) rfl <| dr (ro_call (evL_cons up_h (evL_cons ev_c evL_nil)) rfl (unless_ok _ _) qhcf93) rfl <| dr (ro_lit k7_sl219 (evP_cons (u4 rfl up_h) (evP_cons up_h evP_nil)) rfl rfl rfl rfl) rfl <| dr (ro_call (evL_cons up_h evL_nil) rfl (first_ok [_, _] (by simp)) qhcf85) rfl ?_
 refine dr (ro_assign up_h) rfl <| ds_nil <| ae1 up_h ?_; clear s2_3 s3_3; intro e_4 s4_4
 refine then_n <| aw_ret <| ret1 (.inr rfl) (by kernel_rfl) (resV_tmp s4_4) (.ro _ rfl) ?_
 clear s4_4 mo1_2 mo0_2 ml_2
 rfl
end
def curE (nm : ByteArray) (ps : List Piece) (b d v stop : Int) : Int := firstE [firstE [(chk nm ps).2, sysE b d v], stopE ps stop]
section
variable (nm : ByteArray) (ps : List Piece) (hok : trackR ps) (b d v : Int) (hb : sysR b d v)
include hok hb
set_option maxRecDepth 100000 in
set_option maxHeartbeats 1000000 in
theorem curve_ok (stop : Int) (h0 : 0 ≤ stop) (h1 : stop < ps.length) : FnOk Tryz.prog 87 [riA nm ps b d v, iA stop] (fun q => q = .row 1 ((bwL ps b 0 (stop + 1).toNat).map iE)) := by
 obtain ⟨q1, q2, q3⟩ := hok
 obtain ⟨r1, r2, r3, r4⟩ := hb
 refine fnOk_of (fn := Tryz.f87) 9 (by kernel_rfl) rfl (by kernel_rfl) (Nat.le_of_ble_eq_true rfl) ?_
 intro e_0 m_0 hA hm_0
 have s0_0 : evA e_0 (.tmp 0) = _ := hA 0 _ rfl
 have s1_0 : evA e_0 (.tmp 1) = _ := hA 1 _ rfl
 have ml_0 : m_0.length = 0 := by rw [hm_0]; rfl
 clear hA hm_0
 refine aw_seq <| at_ <| al_stm (st_box s0_0 rfl ml_0) trivial rfl (fun m_1 hm_1 => ?_)
 have mo0_1 := m_push hm_1 ml_0
 have ml_1 := m_push_l hm_1 ml_0
 have ml_1 : _ = 1 := ml_1
 clear hm_1
 refine ar (ro_assign ev_c) rfl <| ae2 (u2 rfl s1_0) (up_m rfl up_h) ?_; clear s0_0 s1_0; intro e_2 s1_2 s2_2
 refine then_n <| aw_seq <| at_ <| ar (ro_eq (ro_ld_ptr k7_ty178 rfl mo0_1 s2_2 (nle rfl)) (by simp only [pS, Value.cells, Nat.reduceAdd] <;> rfl)) rfl ?_
 refine ar (ro_move (up_m rfl s1_2)) rfl ?_
 (refine ar (ro_add' up_h ev_c ?_) rfl ?_; · (unfold In64; omega))
 refine ar (ro_call (evL_cons (u2 rfl up_h) (evL_cons ev_c (evL_cons up_h evL_nil))) rfl (backward_ok nm ps q1 (by omega) (by omega) b d v 0 (stop + 1) (by omega) (by omega) (by omega) (by omega)) qhcf96) rfl ?_
 refine ar (ro_assign up_h) rfl <| ae1 up_h ?_; clear s1_2 s2_2; intro e_3 s4_3
 refine then_n <| aw_ret <| ret1 (.inr rfl) (by kernel_rfl) (resV_tmp s4_3) (.ro _ rfl) ?_
 clear s4_3 mo0_1 ml_1
 rfl
end
section
variable (nm : ByteArray) (ps : List Piece) (hs : nm.size ≤ 1000000000) (hp : ps.length ≤ 1000000000) (b d v : Int)
include hs hp
set_option maxRecDepth 100000 in
set_option maxHeartbeats 1000000 in
theorem curveOf_ok (stop : Int) : FnOk Tryz.prog 32 [trA nm ps, syA b d v, iA stop] (fun q => q = .tuple [.row 1 ((if curE nm ps b d v stop = 0 then bwL ps b 0 (stop + 1).toNat else []).map iE), iA (curE nm ps b d v stop)]) := by
 refine fnOk_of (fn := Tryz.f32) 28 (by kernel_rfl) rfl (by kernel_rfl) (Nat.le_of_ble_eq_true rfl) ?_
 intro e_0 m_0 hA hm_0
 have s0_0 : evA e_0 (.tmp 0) = _ := hA 0 _ rfl
 have s1_0 : evA e_0 (.tmp 1) = _ := hA 1 _ rfl
 have s2_0 : evA e_0 (.tmp 2) = _ := hA 2 _ rfl
 have ml_0 : m_0.length = 0 := by rw [hm_0]; rfl
 clear hA hm_0
 refine aw_seq <| at_ <| al_stm (st_box s0_0 rfl ml_0) trivial rfl (fun m_1 hm_1 => ?_)
 have mo0_1 := m_push hm_1 ml_0
 have ml_1 := m_push_l hm_1 ml_0
 have ml_1 : _ = 1 := ml_1
 clear hm_1
 refine al_stm (st_box (up_m rfl s1_0) rfl ml_1) trivial rfl (fun m_2 hm_2 => ?_)
 have mo1_2 := m_push hm_2 ml_1
 have mo0_2 := m_push_o hm_2 mo0_1
 have ml_2 := m_push_l hm_2 ml_1
 have ml_2 : _ = 2 := ml_2
 clear hm_2 mo0_1
 refine ar (ro_assign ev_c) rfl <| ar (ro_assign ev_c) rfl <| ae3 (u4 rfl s2_0) (up_m rfl (u2 rfl up_h)) (u2 rfl up_h) ?_; clear s0_0 s1_0 s2_0; intro e_3 s2_3 s3_3 s4_3
 refine then_n <| aw_seq <| at_ <| ar (ro_eq (ro_ld_ptr k7_ty24 rfl mo0_2 s3_3 (nle rfl)) (by simp only [pS, Value.cells, Nat.reduceAdd] <;> rfl)) rfl ?_
 refine ar (ro_eq (ro_ld_ptr k7_ty81 rfl mo1_2 (up_m rfl s4_3) (nle rfl)) (by simp only [pS, Value.cells, Nat.reduceAdd] <;> rfl)) rfl ?_
 refine ar (ro_call (evL_cons (up_m rfl up_h) (evL_cons up_h evL_nil)) rfl (openRide_ok nm ps hs hp b d v) qhcf84) rfl <| ar (ro_move up_h) rfl <| ar (ro_extract up_h rfl) rfl <| ar (ro_extract (up_m rfl up_h) rfl) rfl <| al_stm (st_alloc qaz178 rfl ml_2) trivial rfl (fun m_4 hm_4 => ?_)
 have mo2_4 := m_push hm_4 ml_2
 simp only [pS, Value.cells, Nat.reduceAdd] at mo2_4
 have mo1_4 := m_push_o hm_4 mo1_2
 have mo0_4 := m_push_o hm_4 mo0_2
 have ml_4 := m_push_l hm_4 ml_2
 have ml_4 : _ = 3 := ml_4
 clear hm_4 mo1_2 mo0_2
 refine al_stm (st_store up_h (u2 rfl up_h) rfl rfl mo2_4 qsz178 rfl (nle rfl)) trivial rfl (fun m_5 hm_5 => ?_)
 have mo2_5 := m_set hm_5 mo2_4
 simp only [pS, Value.cells, Nat.reduceAdd] at mo2_5
 have mo1_5 := m_set_o hm_5 mo1_4 (by decide)
 have mo0_5 := m_set_o hm_5 mo0_4 (by decide)
 have ml_5 := m_set_l hm_5 ml_4
 clear hm_5 mo2_4 mo1_4 mo0_4
 refine ar (ro_assign (up_n (up_m rfl up_h))) rfl <| ae3 (up_m rfl (up_n (up_m rfl (u2 rfl (u4 rfl s2_3))))) (up_m rfl (up_n up_h)) up_h ?_; clear s2_3 s3_3 s4_3; intro e_6 s2_6 s8_6 s9_6
 refine then_n <| aw_seq <| aw_seq <| at_ <| ar (ro_move s9_6) rfl <| ar (ro_eq (ro_ld_ptr k7_ty178 rfl mo2_5 (up_m rfl s8_6) (nle rfl)) (by simp only [pS, Value.cells, Nat.reduceAdd] <;> rfl)) rfl ?_
 refine ar (ro_move (u2 rfl s2_6)) rfl <| ar (ro_call (evL_cons (up_m rfl up_h) (evL_cons up_h evL_nil)) rfl (stopErr_ok nm ps hp b d v stop) qhcf86) rfl <| ar (ro_lit k7_sl219 (evP_cons (up_m rfl (u2 rfl up_h)) (evP_cons up_h evP_nil)) rfl rfl rfl rfl) rfl <| ar (ro_call (evL_cons up_h evL_nil) rfl (first_ok [_, _] (by simp)) qhcf85) rfl ?_
 refine ar (ro_assign up_h) rfl <| ae3 (up_m rfl (u2 rfl (u4 rfl s2_6))) (up_m rfl (u2 rfl (u4 rfl s8_6))) up_h ?_; clear s2_6 s8_6 s9_6; intro e_7 s2_7 s8_7 s9_7
 refine then_n <| aw_seq <| at_ <| ar (ro_move s9_7) rfl <| ar (ro_neq up_h ev_c) rfl <| ae4 (u2 rfl s2_7) (u2 rfl s8_7) (u2 rfl s9_7) up_h ?_; clear s2_7 s8_7 s9_7; intro e_8 s2_8 s8_8 s9_8 s23_8
 refine then_n <| aw_case s23_8 (fun hq_9 => ?_) (fun hq_9 => ?_)
 ·replace hq_9 := bnt hq_9
  refine aw_seq <| at_ <| ar (ro_move s9_8) rfl <| ar (ro_assign ev_c) rfl <| ar (ro_assign (up_m rfl up_h)) rfl <| ae2 (up_m rfl up_h) up_h ?_; clear s23_8 s2_8 s8_8 s9_8; intro e_10 s6_10 s7_10
  refine then_n <| aw_ret <| then_r <| ret2 (.inr rfl) (by kernel_rfl) (resV_tmp s6_10) (resV_tmp s7_10) (.nil 1) (.ro _ rfl) ?_
  clear s6_10 s7_10 mo2_5 mo1_5 mo0_5 ml_5
  (have hq : ¬ curE nm ps b d v stop = 0 := (by assumption); rw [if_neg hq]; rfl)
 replace hq_9 := bnf hq_9
 (have hq : curE nm ps b d v stop = 0 := (by assumption); have hR := ride_right hq; have hS := stop_right (firstE_cons hR.2.2).1)
 refine aw_skip <| then_n <| aw_seq <| at_ <| ar (ro_eq (ro_ld_ptr k7_ty178 rfl mo2_5 s8_8 (nle rfl)) (by simp only [pS, Value.cells, Nat.reduceAdd] <;> rfl)) rfl ?_
 refine ar (ro_move (up_m rfl s2_8)) rfl <| ar (ro_call (evL_cons (up_m rfl up_h) (evL_cons up_h evL_nil)) rfl (curve_ok nm ps hR.1 b d v hR.2.1 stop hS.1 hS.2.1) qhcf87) rfl <| ar (ro_assign up_h) rfl <| ar (ro_assign ev_c) rfl <| ae2 (up_m rfl up_h) up_h ?_; clear s23_8 s2_8 s8_8 s9_8; intro e_11 s6_11 s7_11
 refine then_n <| aw_ret <| ret2 (.inr rfl) (by kernel_rfl) (resV_tmp s6_11) (resV_tmp s7_11) (.ro _ rfl) (.ro _ rfl) ?_
 clear s6_11 s7_11 mo2_5 mo1_5 mo0_5 ml_5
 (rw [hq, if_pos rfl])
end
end Go.Proofs.YtjhcfpdgldpicaaGreatDoor
namespace Go.Proofs.YtjhcfpdgldpicaaGreatDoor
open Go Go.RowKit Go.Proofs
theorem k8_hcf142 : ∀ args w, (callFunc 142 args).run Tryz.prog w = .ok (.enter 142 args) w := fun _ _ => by kernel_rfl
theorem k8_hcf88 : ∀ args w, (callFunc 88 args).run Tryz.prog w = .ok (.enter 88 args) w := fun _ _ => by kernel_rfl
theorem k8_hcf89 : ∀ args w, (callFunc 89 args).run Tryz.prog w = .ok (.enter 89 args) w := fun _ _ => by kernel_rfl
theorem k8_sl219 : SlIs Tryz.prog 219 29 1 8 (.int .i64 0) := ⟨by kernel_rfl, by kernel_rfl, by kernel_rfl⟩
theorem k8_sl76 : SlIs Tryz.prog 76 3 1 8 (.int .i64 0) := ⟨by kernel_rfl, by kernel_rfl, by kernel_rfl⟩
theorem k8_ty178 : TyIs Tryz.prog 178 true 5 := ⟨by kernel_rfl, by kernel_rfl⟩
theorem k8_ty24 : TyIs Tryz.prog 24 true 2 := ⟨by kernel_rfl, by kernel_rfl⟩
theorem k8_ty3 : TyIs Tryz.prog 3 false 1 := ⟨by kernel_rfl, by kernel_rfl⟩
theorem k8_ty81 : TyIs Tryz.prog 81 true 3 := ⟨by kernel_rfl, by kernel_rfl⟩
theorem k8_ty85 : TyIs Tryz.prog 85 true 2 := ⟨by kernel_rfl, by kernel_rfl⟩
theorem bwL_len (ps : List Piece) (b sq : Int) (n : Nat) : (bwL ps b sq n).length = n + 1 := by simp [bwL]
theorem bwL_at (ps : List Piece) (b sq : Int) {n j : Nat} (h : j ≤ n) : (bwL ps b sq n).getD j default = bwD ps b sq n (n - j) := by simp [bwL, List.getD_eq_getElem?_getD, show j < n + 1 by omega]
theorem bwL_bound {ps : List Piece} (h : Ok ps) {b sq : Int} (hs : -1 ≤ sq ∧ sq ≤ 20000000000) (n j : Nat) : -1 ≤ (bwL ps b sq n).getD j default ∧ (bwL ps b sq n).getD j default ≤ 20000000000 := by
 by_cases hj : j ≤ n
 ·rw [bwL_at ps b sq hj]; exact bwD_bound h hs _
 ·have : (bwL ps b sq n).getD j default = 0 := by
   rw [List.getD_eq_getElem?_getD, List.getElem?_eq_none (by rw [bwL_len]; omega)]; rfl
  rw [this]; omega
def goL (f : Nat → Int → Int) (sq : Int) : Nat → Option (List Int)
 | 0 => some [sq]
 | k + 1 => match goL f sq k with
  | none => none
  | some l => if f k (l.getD k default) < 0 then none else some (l ++ [f k (l.getD k default)])
theorem goL_none {f : Nat → Int → Int} {sq : Int} {k : Nat} (h : goL f sq k = none) : ∀ m, goL f sq (k + m) = none
 | 0 => h
 | m + 1 => by
  have := goL_none h m
  show goL f sq (k + m + 1) = none
  simp only [goL, this]
theorem goL_stop {f : Nat → Int → Int} {sq : Int} {k n : Nat} {l : List Int} (h : goL f sq k = some l) (hk : k < n) (hf : f k (l.getD k default) < 0) : goL f sq n = none := by
 have h1 : goL f sq (k + 1) = none := by simp only [goL, h]; rw [if_pos hf]
 have := goL_none h1 (n - (k + 1))
 rwa [show k + 1 + (n - (k + 1)) = n by omega] at this
theorem goL_step {f : Nat → Int → Int} {sq : Int} {k : Nat} {l : List Int} (h : goL f sq k = some l) (hf : ¬ f k (l.getD k default) < 0) : goL f sq (k + 1) = some (l ++ [f k (l.getD k default)]) := by
 simp only [goL, h]; rw [if_neg hf]
theorem goL_len {f : Nat → Int → Int} {sq : Int} : ∀ {k : Nat} {l : List Int}, goL f sq k = some l → l.length = k + 1
 | 0, l, h => by cases h; rfl
 | k + 1, l, h => by
  simp only [goL] at h
  split at h
  ·cases h
  ·rename_i q hq
   split at h
   ·cases h
   ·cases h; simp [goL_len hq]
theorem getD_snoc {l : List Int} {v : Int} {n : Nat} (h : l.length = n) : (l ++ [v]).getD n default = v := by
 subst h; simp [List.getD_eq_getElem?_getD]
def runF (ps : List Piece) (b d stop : Int) (post : Nat) (k : Nat) (x : Int) : Int := min ((bwL ps b 0 (stop + 1).toNat).getD (post + k + 1) default) (x - losW d (ps.getD (post + k) default))
def runW (ps : List Piece) (b d stop post sq : Int) : List Int × Int :=
 if (bwL ps b 0 (stop + 1).toNat).getD post.toNat default = -1 ∨ (bwL ps b 0 (stop + 1).toNat).getD post.toNat default < sq then ([], 24) else
 match goL (runF ps b d stop post.toNat) sq (stop - post).toNat with
 | none => ([], 12)
 | some l => (l, 0)
set_option maxRecDepth 100000 in
set_option maxHeartbeats 4000000 in
theorem run_ok (nm : ByteArray) (ps : List Piece) (hok : trackR ps) (b d v : Int) (hb : sysR b d v) (post sq stop : Int) (h0 : 0 ≤ post) (h1 : post ≤ stop) (h2 : stop < ps.length) (hsq : 0 ≤ sq ∧ sq ≤ 20000000000) :
 FnOk Tryz.prog 89 [riA nm ps b d v, .agg [iA post, iA sq], iA stop] (fun q => q = .tuple [.row 1 ((runW ps b d stop post sq).1.map iE), iA (runW ps b d stop post sq).2]) := by
 obtain ⟨q1, q2, q3⟩ := hok
 obtain ⟨r1, r2, r3, r4⟩ := hb
 have hcl := bwL_len ps b 0 (stop + 1).toNat
 refine fnOk_of (fn := Tryz.f89) 62 (by kernel_rfl) rfl (by kernel_rfl) (Nat.le_of_ble_eq_true rfl) ?_
 intro e_0 m_0 hA hm_0
 have s0_0 : evA e_0 (.tmp 0) = _ := hA 0 _ rfl
 have s1_0 : evA e_0 (.tmp 1) = _ := hA 1 _ rfl
 have s2_0 : evA e_0 (.tmp 2) = _ := hA 2 _ rfl
 have ml_0 : m_0.length = 0 := by rw [hm_0]; rfl
 clear hA hm_0
 refine aw_seq <| at_ <| al_stm (st_box s0_0 rfl ml_0) trivial rfl (fun m_1 hm_1 => ?_)
 have mo0_1 := m_push hm_1 ml_0
 have ml_1 := m_push_l hm_1 ml_0
 have ml_1 : _ = 1 := ml_1
 clear hm_1
 refine al_stm (st_box (up_m rfl s1_0) rfl ml_1) trivial rfl (fun m_2 hm_2 => ?_)
 have mo1_2 := m_push hm_2 ml_1
 have mo0_2 := m_push_o hm_2 mo0_1
 have ml_2 := m_push_l hm_2 ml_1
 have ml_2 : _ = 2 := ml_2
 clear hm_2 mo0_1
 refine ar (ro_assign ev_c) rfl <| ar (ro_assign ev_c) rfl <| ae3 (u4 rfl s2_0) (up_m rfl (u2 rfl up_h)) (u2 rfl up_h) ?_; clear s0_0 s1_0 s2_0; intro e_3 s2_3 s3_3 s4_3
 refine then_n <| aw_seq <| at_ <| ar (ro_eq (ro_ld_ptr k8_ty178 rfl mo0_2 s3_3 (nle rfl)) (by simp only [pS, Value.cells, Nat.reduceAdd, one_iE, app_m] <;> rfl)) rfl ?_
 refine ar (ro_move (up_m rfl s2_3)) rfl <| ar (ro_call (evL_cons (up_m rfl up_h) (evL_cons up_h evL_nil)) rfl (curve_ok nm ps ⟨q1, q2, q3⟩ b d v ⟨r1, r2, r3, r4⟩ stop (by omega) h2) qhcf87) rfl ?_
 refine ar (ro_assign up_h) rfl <| ae4 (u4 rfl s2_3) (u4 rfl s3_3) (u4 rfl s4_3) up_h ?_; clear s2_3 s3_3 s4_3; intro e_4 s2_4 s3_4 s4_4 s8_4
 refine then_n <| aw_seq <| aw_seq <| at_ <| ar (ro_move s8_4) rfl <| ar (ro_fld_ptr qfl85_0 rfl (up_m rfl s4_4)) rfl <| ar (ro_eq (ro_ld_ptr k8_ty3 rfl mo1_2 up_h (nle rfl)) (by simp only [pS, Value.cells, Nat.reduceAdd, one_iE, app_m] <;> rfl)) rfl ?_
 refine ar (ro_eq (ro_ix k8_sl76 (u2 rfl up_h) up_h (by omega) (by first | (refine idx_map ?_; first | omega | (simp only [lnS]; omega)) | (refine idx_mapI ?_; first | omega | (simp only [lnS]; omega)) | (refine idx_mapN ?_; first | omega | (simp only [lnS]; omega)) | rfl)) (by simp only [pS, Value.cells, Nat.reduceAdd, one_iE, app_m] <;> rfl)) rfl ?_
 refine ar (ro_eq (ro_ld_ref k8_ty3 rfl up_h (nle rfl)) (by simp only [pS, Value.cells, Nat.reduceAdd, one_iE, app_m] <;> rfl)) rfl ?_
 refine ar (ro_assign up_h) rfl <| ae5 (u2 rfl (u4 rfl s2_4)) (u2 rfl (u4 rfl s3_4)) (u2 rfl (u4 rfl s4_4)) (u2 rfl (u4 rfl s8_4)) up_h ?_; clear s2_4 s3_4 s4_4 s8_4; intro e_5 s2_5 s3_5 s4_5 s8_5 s9_5
 refine then_n <| aw_seq <| aw_cut (fun e mem => (evA e (.tmp 28) = .v (.bool (decide ((bwL ps b 0 (stop + 1).toNat).getD post.toNat default = -1 ∨ (bwL ps b 0 (stop + 1).toNat).getD post.toNat default < sq)))) ∧ (evA e (.tmp 2) = evA e_5 (.tmp 2)) ∧ (evA e (.tmp 3) = evA e_5 (.tmp 3)) ∧ (evA e (.tmp 4) = evA e_5 (.tmp 4)) ∧ (evA e (.tmp 8) = evA e_5 (.tmp 8)) ∧ m_2 = mem) ?_ ?_
 ·
  refine at_ <| ar (ro_move s9_5) rfl <| ar (ro_eql up_h ev_c) rfl ?_
  refine ar (ro_move up_h) rfl <| al_case up_h (fun hb_7 hq_7 => ?_) (fun hb_7 hq_7 => ?_)
  ·replace hq_7 := bt hq_7
   refine al_skip' ⟨_, rfl, .inl hb_7⟩ rfl ?_
   refine al_skip' ⟨_, rfl, .inl (up_m rfl hb_7)⟩ rfl ?_
   refine al_skip' ⟨_, rfl, .inl (u2 rfl hb_7)⟩ rfl ?_
   refine al_skip' ⟨_, rfl, .inl (up_m rfl (u2 rfl hb_7))⟩ rfl ?_
   refine ar (ro_pickT (u4 rfl hb_7) ev_c) rfl <| ae5 (u8 rfl s2_5) (u8 rfl s3_5) (u8 rfl s4_5) (u8 rfl s8_5) up_h ?_; intro e_8 s2_8 s3_8 s4_8 s8_8 s28_8
   refine then_n ⟨(s28_8).trans (by (refine avb ?_; simp only [decide_eq_true_eq, true_iff]; omega)), (s2_8).trans (s2_5).symm, (s3_8).trans (s3_5).symm, (s4_8).trans (s4_5).symm, (s8_8).trans (s8_5).symm, rfl⟩
  replace hq_7 := bf hq_7
  refine al_ro' (ro_fld_ptr qfl85_1 rfl (up_m rfl (u2 rfl s4_5))) ⟨_, rfl, hb_7⟩ rfl ?_
  refine al_ro' (ro_eq (ro_ld_ptr k8_ty3 rfl mo1_2 up_h (nle rfl)) (by simp only [pS, Value.cells, Nat.reduceAdd, one_iE, app_m] <;> rfl)) ⟨_, rfl, (up_m rfl hb_7)⟩ rfl ?_
  refine al_ro' (ro_move (up_m rfl (u4 rfl s9_5))) ⟨_, rfl, (u2 rfl hb_7)⟩ rfl ?_
  refine al_ro' (ro_gtr (up_m rfl up_h) up_h) ⟨_, rfl, (up_m rfl (u2 rfl hb_7))⟩ rfl ?_
  refine ar (ro_pickF (u4 rfl hb_7) up_h) rfl <| ae5 (u8 rfl s2_5) (u8 rfl s3_5) (u8 rfl s4_5) (u8 rfl s8_5) up_h ?_; intro e_9 s2_9 s3_9 s4_9 s8_9 s28_9
  refine then_n ⟨(s28_9).trans (by (refine avb ?_; simp only [decide_eq_true_eq, true_iff]; omega)), (s2_9).trans (s2_5).symm, (s3_9).trans (s3_5).symm, (s4_9).trans (s4_5).symm, (s8_9).trans (s8_5).symm, rfl⟩
 ·rintro e_6 _ ⟨s28_6, k2_6, k3_6, k4_6, k8_6, rfl⟩
  have s2_6 := k2_6.trans s2_5
  have s3_6 := k3_6.trans s3_5
  have s4_6 := k4_6.trans s4_5
  have s8_6 := k8_6.trans s8_5
  refine aw_case s28_6 (fun hq_10 => ?_) (fun hq_10 => ?_)
  ·replace hq_10 := bt hq_10
   refine aw_seq <| at_ <| ar (ro_assign ev_c) rfl <| ar (ro_assign ev_c) rfl <| ae2 (up_m rfl up_h) up_h ?_; clear s28_6 s2_6 s3_6 s4_6 s8_6; intro e_11 s6_11 s7_11
   refine then_n <| aw_ret <| then_r <| ret2 (.inr rfl) (by kernel_rfl) (resV_tmp s6_11) (resV_tmp s7_11) (.nil 1) (.ro _ rfl) ?_
   clear s6_11 s7_11 mo1_2 mo0_2 ml_2
   (have hc : (bwL ps b 0 (stop + 1).toNat).getD post.toNat default = -1 ∨ (bwL ps b 0 (stop + 1).toNat).getD post.toNat default < sq := (by assumption); rw [runW, if_pos hc]; rfl)
  replace hq_10 := bf hq_10
  refine aw_skip <| then_n <| aw_seq <| at_ <| ar (ro_fld_ptr qfl85_1 rfl s4_6) rfl <| ar (ro_eq (ro_ld_ptr k8_ty3 rfl mo1_2 up_h (nle rfl)) (by simp only [pS, Value.cells, Nat.reduceAdd, one_iE, app_m] <;> rfl)) rfl ?_
  refine al_stm (st_lit k8_sl76 ml_2 (evP_cons up_h evP_nil) rfl rfl rfl rfl) trivial rfl (fun m_12 hm_12 => ?_)
  have mo2_12 := m_push hm_12 ml_2
  simp only [pS, Value.cells, Nat.reduceAdd, one_iE, app_m] at mo2_12
  have mo1_12 := m_push_o hm_12 mo1_2
  have mo0_12 := m_push_o hm_12 mo0_2
  have ml_12 := m_push_l hm_12 ml_2
  have ml_12 : _ = 3 := ml_12
  clear hm_12 mo1_2 mo0_2
  refine ar (ro_assign up_h) rfl <| ae5 (u4 rfl s2_6) (u4 rfl s3_6) (u4 rfl s4_6) (u4 rfl s8_6) up_h ?_; clear s28_6 s2_6 s3_6 s4_6 s8_6; intro e_13 s2_13 s3_13 s4_13 s8_13 s10_13
  refine then_n <| aw_seq <| aw_seq <| at_ <| ar (ro_fld_ptr qfl85_0 rfl s4_13) rfl <| ar (ro_eq (ro_ld_ptr k8_ty3 rfl mo1_12 up_h (nle rfl)) (by simp only [pS, Value.cells, Nat.reduceAdd, one_iE, app_m] <;> rfl)) rfl ?_
  refine ar (ro_assign up_h) rfl <| ae5 (up_m rfl (u2 rfl s2_13)) (up_m rfl (u2 rfl s3_13)) (up_m rfl (u2 rfl s8_13)) (up_m rfl (u2 rfl s10_13)) up_h ?_; clear s10_13 s2_13 s3_13 s4_13 s8_13; intro e_14 s2_14 s3_14 s8_14 s10_14 s11_14
  refine then_n <| aw_block <| aw_loop (S := (Int × List Int)) (fun s e mem => match s with | ⟨i, xs⟩ => (evA e (.tmp 11) = .v (.int .i64 i)) ∧ (evA e (.tmp 2) = evA e_14 (.tmp 2)) ∧ (evA e (.tmp 3) = evA e_14 (.tmp 3)) ∧ (evA e (.tmp 8) = evA e_14 (.tmp 8)) ∧ (mem[1]? = m_12[1]?) ∧ (mem[0]? = m_12[0]?) ∧ (∃ j, evA e (.tmp 10) = .own j ∧ mem[j]? = some (.row 3 1 (xs.map iE)) ∧ j ≠ 1 ∧ j ≠ 0) ∧ (∃ n, mem.length = n ∧ 3 ≤ n) ∧ ((post ≤ i ∧ i ≤ stop ∧ goL (runF ps b d stop post.toNat) sq (i - post).toNat = some xs ∧ 0 ≤ xs.getD (i - post).toNat default ∧ xs.getD (i - post).toNat default ≤ 20000000000))) (fun s => match s with | ⟨i, xs⟩ => (stop - i).toNat) ⟨_, [sq]⟩ ⟨s11_14, rfl, rfl, rfl, rfl, rfl, ⟨_, s10_14, mo2_12, (by decide), (by decide)⟩, ⟨_, ml_12, Nat.le_refl _⟩, ?_⟩ ?_
  ·(refine ⟨by omega, by omega, ?_, ?_⟩; (rw [show (post - post).toNat = 0 by omega]; rfl); (rw [show (post - post).toNat = 0 by omega]; exact hsq))
  ·rintro ⟨i, xs⟩ e_15 m_15 ⟨s11_15, k2_15, k3_15, k8_15, mk1_15, mk0_15, ⟨j10_15, s10_15, mo_j10_15, nj10_1_15, nj10_0_15⟩, ⟨n_15, ml_15, hn_15⟩, hinv⟩
   have s2_15 := k2_15.trans s2_14
   have s3_15 := k3_15.trans s3_14
   have s8_15 := k8_15.trans s8_14
   have mo1_15 := mk1_15.trans mo1_12
   have mo0_15 := mk0_15.trans mo0_12
   have jl10_15 := m_lt mo_j10_15 ml_15
   (obtain ⟨p1, p2, p3, p4, p5⟩ := hinv; have hl := goL_len p3; have hpa := q1.at i.toNat; have hlos := los_bound (dec := d) (p := ps.getD i.toNat default) (by omega) hpa.1 hpa.2.1; have hlast : xs.getD ((xs.length : Int) - 1).toNat default = xs.getD (i - post).toNat default := (by congr 1; omega); have hcb := bwL_bound q1 (b := b) (sq := 0) (by omega) (stop + 1).toNat (i + 1).toNat; have hf : ∀ x, runF ps b d stop post.toNat (i - post).toNat x = min ((bwL ps b 0 (stop + 1).toNat).getD (i + 1).toNat default) (x - losW d (ps.getD i.toNat default)) := (fun x => by unfold runF; rw [show post.toNat + (i - post).toNat + 1 = (i + 1).toNat by omega, show post.toNat + (i - post).toNat = i.toNat by omega]))
   refine aw_seq <| aw_seq <| at_ <| ar (ro_move s11_15) rfl <| ar (ro_move (up_m rfl s2_15)) rfl <| ar (ro_lss (up_m rfl up_h) up_h) rfl <| ae6 (up_m rfl (u2 rfl s2_15)) (up_m rfl (u2 rfl s3_15)) (up_m rfl (u2 rfl s8_15)) (up_m rfl (u2 rfl s10_15)) (up_m rfl (u2 rfl s11_15)) up_h ?_; clear s10_15 s11_15 s2_15 s3_15 s8_15; intro e_16 s2_16 s3_16 s8_16 s10_16 s11_16 s36_16
   refine then_n <| aw_case s36_16 (fun hq_17 => ?_) (fun hq_17 => ?_)
   ·replace hq_17 := bt hq_17
    refine aw_skip <| then_n <| aw_seq <| aw_block <| aw_seq <| aw_draw 17 (by kernel_rfl) (by kernel_rfl) (by kernel_rfl) (by kernel_rfl) ?_
    refine dr (ro_move s8_16) rfl <| dr (ro_move (up_m rfl s11_16)) rfl ?_
    (refine dr (ro_add' up_h ev_c ?_) rfl ?_; · (unfold In64; omega))
    refine dr (ro_eq (ro_ix k8_sl76 (u2 rfl up_h) up_h (by omega) (by first | (refine idx_map ?_; first | omega | (simp only [lnS]; omega)) | (refine idx_mapI ?_; first | omega | (simp only [lnS]; omega)) | (refine idx_mapN ?_; first | omega | (simp only [lnS]; omega)) | rfl)) (by simp only [pS, Value.cells, Nat.reduceAdd, one_iE, app_m] <;> rfl)) rfl ?_
    refine dr (ro_eq (ro_ld_ref k8_ty3 rfl up_h (nle rfl)) (by simp only [pS, Value.cells, Nat.reduceAdd, one_iE, app_m] <;> rfl)) rfl ?_
    refine dr (ro_move (up_m rfl (u4 rfl s10_16))) rfl <| dr (ro_move (u2 rfl (u4 rfl s10_16))) rfl <| dr (ro_eq (ro_len_own up_h mo_j10_15 rfl k8_sl76.1) (by simp only [lnS] <;> rfl)) rfl ?_
    (refine dr (ro_sub' up_h ev_c ?_) rfl ?_; · (unfold In64; omega))
    refine dr (ro_ix_own k8_sl76 mo_j10_15 (up_m rfl (u2 rfl up_h)) up_h (by omega) (by simp only [lnS] <;> omega)) rfl ?_
    refine dr (ro_eq (ro_ld_el k8_ty3 rfl mo_j10_15 up_h (nle rfl) (by first | (refine idx_map ?_; first | omega | (simp only [lnS]; omega)) | (refine idx_mapI ?_; first | omega | (simp only [lnS]; omega)) | (refine idx_mapN ?_; first | omega | (simp only [lnS]; omega)) | rfl)) (by simp only [pS, Value.cells, Nat.reduceAdd, one_iE, app_m] <;> rfl)) rfl ?_
    refine dr (ro_eq (ro_ld_ptr k8_ty178 rfl mo0_15 (up_m rfl (u2 rfl (u8 rfl s3_16))) (nle rfl)) (by simp only [pS, Value.cells, Nat.reduceAdd, one_iE, app_m] <;> rfl)) rfl ?_
    refine dr (ro_move (u4 rfl (u8 rfl s11_16))) rfl <| dr (ro_call (evL_cons (up_m rfl up_h) (evL_cons up_h evL_nil)) rfl (coasting_ok nm ps q1 b d v i (by omega) (by omega) (by omega)) k8_hcf142) rfl ?_
    (refine dr (ro_sub' (up_m rfl (u2 rfl up_h)) up_h ?_) rfl ?_; · (unfold In64; omega))
    refine dr (ro_min (u2 rfl (u8 rfl up_h)) up_h) rfl <| dr (ro_assign up_h) rfl <| ds_nil <| ae6 (up_m rfl (u16 rfl s2_16)) (up_m rfl (u16 rfl s3_16)) (up_m rfl (u16 rfl s8_16)) (up_m rfl (u16 rfl s10_16)) (up_m rfl (u16 rfl s11_16)) up_h ?_; clear s10_16 s11_16 s2_16 s36_16 s3_16 s8_16; intro e_18 s2_18 s3_18 s8_18 s10_18 s11_18 s12_18
    refine then_n <| aw_seq <| aw_seq <| at_ <| ar (ro_move s12_18) rfl <| ar (ro_lss up_h ev_c) rfl <| ae7 (u2 rfl s2_18) (u2 rfl s3_18) (u2 rfl s8_18) (u2 rfl s10_18) (u2 rfl s11_18) (u2 rfl s12_18) up_h ?_; clear s10_18 s11_18 s12_18 s2_18 s3_18 s8_18; intro e_19 s2_19 s3_19 s8_19 s10_19 s11_19 s12_19 s56_19
    refine then_n <| aw_case s56_19 (fun hq_20 => ?_) (fun hq_20 => ?_)
    ·replace hq_20 := bt hq_20
     refine aw_seq <| at_ <| ar (ro_assign ev_c) rfl <| ar (ro_assign ev_c) rfl <| ae2 (up_m rfl up_h) up_h ?_; clear s10_19 s11_19 s12_19 s2_19 s3_19 s56_19 s8_19; intro e_21 s6_21 s7_21
     refine then_n <| aw_ret <| then_r <| block_r <| then_r <| then_r <| block_r <| then_r <| ret2 (.inr rfl) (by kernel_rfl) (resV_tmp s6_21) (resV_tmp s7_21) (.nil 1) (.ro _ rfl) ?_
     clear s6_21 s7_21 mo1_15 mo0_15 mo_j10_15 ml_15
     (have hc : ¬ ((bwL ps b 0 (stop + 1).toNat).getD post.toNat default = -1 ∨ (bwL ps b 0 (stop + 1).toNat).getD post.toNat default < sq) := (by assumption); have hn := ‹min _ _ < (0 : Int)›; rw [hlast] at hn; rw [runW, if_neg hc, goL_stop (n := (stop - post).toNat) p3 (by omega) (by rw [hf]; exact hn)]; rfl)
    replace hq_20 := bf hq_20
    (have hq_NEG := ‹¬ (min _ _ < (0 : Int))›)
    refine aw_skip <| then_n <| at_ <| ar (ro_move s10_19) rfl <| ar (ro_move (up_m rfl s12_19)) rfl <| ar (ro_lit k8_sl76 (evP_cons up_h evP_nil) rfl rfl rfl rfl) rfl <| al_stm (st_app k8_sl76 rfl ml_15 mo_j10_15 (u2 rfl up_h) up_h (by rfl) (by simp only [lnS] <;> omega)) trivial rfl (fun m_22 hm_22 => ?_)
    have mon_15_22 := m_swap hm_22 ml_15
    simp only [pS, Value.cells, Nat.reduceAdd, one_iE, app_m] at mon_15_22
    have mo1_22 := m_swap_o hm_22 mo1_15 (by omega)
    have mo0_22 := m_swap_o hm_22 mo0_15 (by omega)
    have ml_22 := m_swap_l hm_22 ml_15
    clear hm_22 mo1_15 mo0_15 mo_j10_15
    refine ar (ro_assign up_h) rfl <| ae5 (up_m rfl (u4 rfl s2_19)) (up_m rfl (u4 rfl s3_19)) (up_m rfl (u4 rfl s8_19)) up_h (up_m rfl (u4 rfl s11_19)) ?_; clear s10_19 s11_19 s12_19 s2_19 s3_19 s56_19 s8_19; intro e_23 s2_23 s3_23 s8_23 s10_23 s11_23
    refine block_n <| then_n <| at_ <| ar (ro_move s11_23) rfl ?_
    (refine ar (ro_add' up_h ev_c ?_) rfl ?_; · (unfold In64; omega))
    refine ar (ro_assign up_h) rfl <| ae5 (up_m rfl (u2 rfl s2_23)) (up_m rfl (u2 rfl s3_23)) (up_m rfl (u2 rfl s8_23)) (up_m rfl (u2 rfl s10_23)) up_h ?_; clear s10_23 s11_23 s2_23 s3_23 s8_23; intro e_24 s2_24 s3_24 s8_24 s10_24 s11_24
    refine then_n <| ⟨⟨_, _⟩, ⟨s11_24, (s2_24.trans s2_14.symm), (s3_24.trans s3_14.symm), (s8_24.trans s8_14.symm), (mo1_22.trans mo1_12.symm), (mo0_22.trans mo0_12.symm), ⟨_, s10_24, mon_15_22, (by omega), (by omega)⟩, ⟨_, ml_22, by omega⟩, ?_⟩, ?_⟩
    ·(have hn := hq_NEG; rw [hlast] at hn; have hst := goL_step p3 (by rw [hf]; exact hn); rw [hf] at hst; rw [hlast]; refine ⟨by omega, by omega, ?_, ?_⟩; (rw [show (i + 1 - post).toNat = (i - post).toNat + 1 by omega]; exact hst); (rw [show (i + 1 - post).toNat = (i - post).toNat + 1 by omega, getD_snoc (by omega)]; omega))
    ·((try dsimp only); omega)
   replace hq_17 := bf hq_17
   refine aw_exit <| then_x <| then_x <| block_hit <| then_n <| aw_seq <| at_ <| ar (ro_move s10_16) rfl <| ar (ro_assign up_h) rfl <| ar (ro_assign ev_c) rfl <| ae2 (up_m rfl up_h) up_h ?_; clear s10_16 s11_16 s2_16 s36_16 s3_16 s8_16; intro e_25 s6_25 s7_25
   refine then_n <| aw_ret <| ret2 (.inr rfl) (by kernel_rfl) (resV_tmp s6_25) (resV_tmp s7_25) (.own _ _ _ _ mo_j10_15) (.ro _ rfl) ?_
   clear s6_25 s7_25 mo1_15 mo0_15 mo_j10_15 ml_15
   (have hc : ¬ ((bwL ps b 0 (stop + 1).toNat).getD post.toNat default = -1 ∨ (bwL ps b 0 (stop + 1).toNat).getD post.toNat default < sq) := (by assumption); have hi : i = stop := (by omega); rw [hi] at p3; rw [runW, if_neg hc, p3])
def runE (nm : ByteArray) (ps : List Piece) (b d v post sq stop : Int) : Int := firstE [firstE [(chk nm ps).2, sysE b d v], stateE ps post sq, stopE ps stop, unlessE (decide (post ≤ stop)) 9]
theorem runE_right {nm : ByteArray} {ps : List Piece} {b d v post sq stop : Int} (h : runE nm ps b d v post sq stop = 0) : trackR ps ∧ sysR b d v ∧ (0 ≤ post ∧ post ≤ ps.length) ∧ (0 ≤ sq ∧ sq ≤ 20000000000) ∧ (0 ≤ stop ∧ stop < ps.length ∧ (ps.getD stop.toNat default).leave = true) ∧ post ≤ stop := by
 obtain ⟨h1, h2, h3⟩ := ride_right h
 obtain ⟨h4, h5⟩ := firstE_cons h3
 obtain ⟨h6, h7⟩ := firstE_cons h5
 obtain ⟨h8, h9⟩ := firstE_cons h4
 have a1 := unlessE_zero h8 (by decide)
 have a2 := unlessE_zero (firstE_cons h9).1 (by decide)
 have a3 := unlessE_zero (firstE_cons h7).1 (by decide)
 simp only [withinB, Bool.and_eq_true, decide_eq_true_eq] at a1 a2 a3
 exact ⟨h1, h2, a1, a2, stop_right h6, a3⟩
section
variable (nm : ByteArray) (ps : List Piece) (hs : nm.size ≤ 1000000000) (hp : ps.length ≤ 1000000000) (b d v post sq stop : Int)
include hs hp
set_option maxRecDepth 100000 in
set_option maxHeartbeats 1000000 in
theorem openRun_ok : FnOk Tryz.prog 88 [trA nm ps, syA b d v, .agg [iA post, iA sq], iA stop] (fun q => q = .tuple [riA nm ps b d v, iA (runE nm ps b d v post sq stop)]) := by
 refine fnOk_of (fn := Tryz.f88) 33 (by kernel_rfl) rfl (by kernel_rfl) (Nat.le_of_ble_eq_true rfl) ?_
 intro e_0 m_0 hA hm_0
 have s0_0 : evA e_0 (.tmp 0) = _ := hA 0 _ rfl
 have s1_0 : evA e_0 (.tmp 1) = _ := hA 1 _ rfl
 have s2_0 : evA e_0 (.tmp 2) = _ := hA 2 _ rfl
 have s3_0 : evA e_0 (.tmp 3) = _ := hA 3 _ rfl
 have ml_0 : m_0.length = 0 := by rw [hm_0]; rfl
 clear hA hm_0
 refine aw_seq <| at_ <| al_stm (st_box s0_0 rfl ml_0) trivial rfl (fun m_1 hm_1 => ?_)
 have mo0_1 := m_push hm_1 ml_0
 have ml_1 := m_push_l hm_1 ml_0
 have ml_1 : _ = 1 := ml_1
 clear hm_1
 refine al_stm (st_box (up_m rfl s1_0) rfl ml_1) trivial rfl (fun m_2 hm_2 => ?_)
 have mo1_2 := m_push hm_2 ml_1
 have mo0_2 := m_push_o hm_2 mo0_1
 have ml_2 := m_push_l hm_2 ml_1
 have ml_2 : _ = 2 := ml_2
 clear hm_2 mo0_1
 refine al_stm (st_box (u2 rfl s2_0) rfl ml_2) trivial rfl (fun m_3 hm_3 => ?_)
 have mo2_3 := m_push hm_3 ml_2
 have mo1_3 := m_push_o hm_3 mo1_2
 have mo0_3 := m_push_o hm_3 mo0_2
 have ml_3 := m_push_l hm_3 ml_2
 have ml_3 : _ = 3 := ml_3
 clear hm_3 mo1_2 mo0_2
 refine al_stm (st_alloc qaz178 rfl ml_3) trivial rfl (fun m_4 hm_4 => ?_)
 have mo3_4 := m_push hm_4 ml_3
 simp only [pS, Value.cells, Nat.reduceAdd] at mo3_4
 have mo2_4 := m_push_o hm_4 mo2_3
 have mo1_4 := m_push_o hm_4 mo1_3
 have mo0_4 := m_push_o hm_4 mo0_3
 have ml_4 := m_push_l hm_4 ml_3
 have ml_4 : _ = 4 := ml_4
 clear hm_4 mo2_3 mo1_3 mo0_3
 refine ar (ro_assign ev_c) rfl <| ae5 (up_m rfl (u4 rfl s3_0)) (u4 rfl up_h) (up_m rfl (u2 rfl up_h)) (u2 rfl up_h) (up_m rfl up_h) ?_; clear s0_0 s1_0 s2_0 s3_0; intro e_5 s3_5 s4_5 s5_5 s6_5 s8_5
 refine then_n <| aw_seq <| at_ <| ar (ro_eq (ro_ld_ptr k8_ty24 rfl mo0_4 s4_5 (nle rfl)) (by simp only [pS, Value.cells, Nat.reduceAdd] <;> rfl)) rfl ?_
 refine ar (ro_eq (ro_ld_ptr k8_ty81 rfl mo1_4 (up_m rfl s5_5) (nle rfl)) (by simp only [pS, Value.cells, Nat.reduceAdd] <;> rfl)) rfl ?_
 refine ar (ro_call (evL_cons (up_m rfl up_h) (evL_cons up_h evL_nil)) rfl (openRide_ok nm ps hs hp b d v) qhcf84) rfl <| ar (ro_move up_h) rfl <| ar (ro_extract up_h rfl) rfl <| ar (ro_extract (up_m rfl up_h) rfl) rfl <| al_stm (st_alloc qaz178 rfl ml_4) trivial rfl (fun m_6 hm_6 => ?_)
 have mo4_6 := m_push hm_6 ml_4
 simp only [pS, Value.cells, Nat.reduceAdd] at mo4_6
 have mo3_6 := m_push_o hm_6 mo3_4
 have mo2_6 := m_push_o hm_6 mo2_4
 have mo1_6 := m_push_o hm_6 mo1_4
 have mo0_6 := m_push_o hm_6 mo0_4
 have ml_6 := m_push_l hm_6 ml_4
 have ml_6 : _ = 5 := ml_6
 clear hm_6 mo3_4 mo2_4 mo1_4 mo0_4
 refine al_stm (st_store up_h (u2 rfl up_h) rfl rfl mo4_6 qsz178 rfl (nle rfl)) trivial rfl (fun m_7 hm_7 => ?_)
 have mo4_7 := m_set hm_7 mo4_6
 simp only [pS, Value.cells, Nat.reduceAdd] at mo4_7
 have mo3_7 := m_set_o hm_7 mo3_6 (by decide)
 have mo2_7 := m_set_o hm_7 mo2_6 (by decide)
 have mo1_7 := m_set_o hm_7 mo1_6 (by decide)
 have mo0_7 := m_set_o hm_7 mo0_6 (by decide)
 have ml_7 := m_set_l hm_7 ml_6
 clear hm_7 mo4_6 mo3_6 mo2_6 mo1_6 mo0_6
 refine ar (ro_assign (up_n (up_m rfl up_h))) rfl <| ae5 (up_m rfl (up_n (up_m rfl (u2 rfl (u4 rfl s3_5))))) (up_m rfl (up_n (up_m rfl (u2 rfl (u4 rfl s6_5))))) (up_m rfl (up_n (up_m rfl (u2 rfl (u4 rfl s8_5))))) (up_m rfl (up_n up_h)) up_h ?_; clear s3_5 s4_5 s5_5 s6_5 s8_5; intro e_8 s3_8 s6_8 s8_8 s10_8 s11_8
 refine then_n <| aw_seq <| aw_draw 15 (by kernel_rfl) (by kernel_rfl) (by kernel_rfl) (by kernel_rfl) ?_
 refine dr (ro_eq (ro_ld_ptr k8_ty178 rfl mo4_7 s10_8 (nle rfl)) (by simp only [pS, Value.cells, Nat.reduceAdd] <;> rfl)) rfl ?_
 refine dr (ro_move (up_m rfl s11_8)) rfl <| dr (ro_eq (ro_ld_ptr k8_ty178 rfl mo4_7 (u2 rfl s10_8) (nle rfl)) (by simp only [pS, Value.cells, Nat.reduceAdd] <;> rfl)) rfl ?_
 refine dr (ro_eq (ro_ld_ptr k8_ty85 rfl mo2_7 (up_m rfl (u2 rfl s6_8)) (nle rfl)) (by simp only [pS, Value.cells, Nat.reduceAdd] <;> rfl)) rfl ?_
 refine dr (ro_call (evL_cons (up_m rfl up_h) (evL_cons up_h evL_nil)) rfl (stateErr_ok nm ps hp b d v post sq) qhcf90) rfl <| dr (ro_eq (ro_ld_ptr k8_ty178 rfl mo4_7 (up_m rfl (u4 rfl s10_8)) (nle rfl)) (by simp only [pS, Value.cells, Nat.reduceAdd] <;> rfl)) rfl ?_
 refine dr (ro_move (u2 rfl (u4 rfl s3_8))) rfl <| dr (ro_call (evL_cons (up_m rfl up_h) (evL_cons up_h evL_nil)) rfl (stopErr_ok nm ps hp b d v stop) qhcf86) rfl <| dr (ro_fld_ptr qfl85_0 rfl (u8 rfl s6_8)) rfl <| dr (ro_eq (ro_ld_ptr k8_ty3 rfl mo2_7 up_h (nle rfl)) (by simp only [pS, Value.cells, Nat.reduceAdd] <;> rfl)) rfl ?_
 refine dr (ro_move (u2 rfl (u8 rfl s3_8))) rfl <| dr (ro_leq (up_m rfl up_h) up_h) rfl <| dr (ro_call (evL_cons up_h (evL_cons ev_c evL_nil)) rfl (unless_ok _ _) qhcf93) rfl <| dr (ro_lit k8_sl219 (evP_cons (up_m rfl (u2 rfl (u8 rfl up_h))) (evP_cons (u8 rfl up_h) (evP_cons (up_m rfl (u4 rfl up_h)) (evP_cons up_h evP_nil)))) rfl rfl rfl rfl) rfl <| dr (ro_call (evL_cons up_h evL_nil) rfl (first_ok [_, _, _, _] (by simp)) qhcf85) rfl ?_
 refine ds_nil <| al_stm (st_store (up_m rfl (u2 rfl (u4 rfl (u8 rfl s8_8)))) (u2 rfl (u4 rfl (u8 rfl up_h))) rfl rfl mo3_7 qsz178 rfl (nle rfl)) trivial rfl (fun m_9 hm_9 => ?_)
 have mo3_9 := m_set hm_9 mo3_7
 simp only [pS, Value.cells, Nat.reduceAdd] at mo3_9
 have mo4_9 := m_set_o hm_9 mo4_7 (by decide)
 have mo2_9 := m_set_o hm_9 mo2_7 (by decide)
 have mo1_9 := m_set_o hm_9 mo1_7 (by decide)
 have mo0_9 := m_set_o hm_9 mo0_7 (by decide)
 have ml_9 := m_set_l hm_9 ml_7
 clear hm_9 mo4_7 mo3_7 mo2_7 mo1_7 mo0_7
 refine ar (ro_assign (up_n up_h)) rfl <| ae2 (up_m rfl (up_n (up_m rfl (u2 rfl (u4 rfl (u8 rfl s8_8)))))) up_h ?_; clear s10_8 s11_8 s3_8 s6_8 s8_8; intro e_10 s8_10 s9_10
 refine then_n <| aw_ret <| ret2 (.inr rfl) (by kernel_rfl) (resV_cell s8_10 mo3_9 k8_ty178 (nle rfl) (by simp)) (resV_tmp s9_10) (vw_r (.ro _ rfl)) (.ro _ rfl) ?_
 clear s8_10 s9_10 mo3_9 mo4_9 mo2_9 mo1_9 mo0_9 ml_9
 rfl
set_option maxRecDepth 100000 in
set_option maxHeartbeats 1000000 in
theorem runTo_ok : FnOk Tryz.prog 35 [trA nm ps, syA b d v, .agg [iA post, iA sq], iA stop] (fun q => q = .tuple [.row 1 ((if runE nm ps b d v post sq stop = 0 then (runW ps b d stop post sq).1 else []).map iE), iA (if runE nm ps b d v post sq stop = 0 then (runW ps b d stop post sq).2 else runE nm ps b d v post sq stop)]) := by
 refine fnOk_of (fn := Tryz.f35) 29 (by kernel_rfl) rfl (by kernel_rfl) (Nat.le_of_ble_eq_true rfl) ?_
 intro e_0 m_0 hA hm_0
 have s0_0 : evA e_0 (.tmp 0) = _ := hA 0 _ rfl
 have s1_0 : evA e_0 (.tmp 1) = _ := hA 1 _ rfl
 have s2_0 : evA e_0 (.tmp 2) = _ := hA 2 _ rfl
 have s3_0 : evA e_0 (.tmp 3) = _ := hA 3 _ rfl
 have ml_0 : m_0.length = 0 := by rw [hm_0]; rfl
 clear hA hm_0
 refine aw_seq <| at_ <| al_stm (st_box s0_0 rfl ml_0) trivial rfl (fun m_1 hm_1 => ?_)
 have mo0_1 := m_push hm_1 ml_0
 have ml_1 := m_push_l hm_1 ml_0
 have ml_1 : _ = 1 := ml_1
 clear hm_1
 refine al_stm (st_box (up_m rfl s1_0) rfl ml_1) trivial rfl (fun m_2 hm_2 => ?_)
 have mo1_2 := m_push hm_2 ml_1
 have mo0_2 := m_push_o hm_2 mo0_1
 have ml_2 := m_push_l hm_2 ml_1
 have ml_2 : _ = 2 := ml_2
 clear hm_2 mo0_1
 refine al_stm (st_box (u2 rfl s2_0) rfl ml_2) trivial rfl (fun m_3 hm_3 => ?_)
 have mo2_3 := m_push hm_3 ml_2
 have mo1_3 := m_push_o hm_3 mo1_2
 have mo0_3 := m_push_o hm_3 mo0_2
 have ml_3 := m_push_l hm_3 ml_2
 have ml_3 : _ = 3 := ml_3
 clear hm_3 mo1_2 mo0_2
 refine ar (ro_assign ev_c) rfl <| ar (ro_assign ev_c) rfl <| ae4 (up_m rfl (u4 rfl s3_0)) (u4 rfl up_h) (up_m rfl (u2 rfl up_h)) (u2 rfl up_h) ?_; clear s0_0 s1_0 s2_0 s3_0; intro e_4 s3_4 s4_4 s5_4 s6_4
 refine then_n <| aw_seq <| at_ <| ar (ro_eq (ro_ld_ptr k8_ty24 rfl mo0_3 s4_4 (nle rfl)) (by simp only [pS, Value.cells, Nat.reduceAdd] <;> rfl)) rfl ?_
 refine ar (ro_eq (ro_ld_ptr k8_ty81 rfl mo1_3 (up_m rfl s5_4) (nle rfl)) (by simp only [pS, Value.cells, Nat.reduceAdd] <;> rfl)) rfl ?_
 refine ar (ro_eq (ro_ld_ptr k8_ty85 rfl mo2_3 (u2 rfl s6_4) (nle rfl)) (by simp only [pS, Value.cells, Nat.reduceAdd] <;> rfl)) rfl ?_
 refine ar (ro_move (up_m rfl (u2 rfl s3_4))) rfl <| ar (ro_call (evL_cons (up_m rfl (u2 rfl up_h)) (evL_cons (u2 rfl up_h) (evL_cons (up_m rfl up_h) (evL_cons up_h evL_nil)))) rfl (openRun_ok nm ps hs hp b d v post sq stop) k8_hcf88) rfl <| ar (ro_move up_h) rfl <| ar (ro_extract up_h rfl) rfl <| ar (ro_extract (up_m rfl up_h) rfl) rfl <| al_stm (st_alloc qaz178 rfl ml_3) trivial rfl (fun m_5 hm_5 => ?_)
 have mo3_5 := m_push hm_5 ml_3
 simp only [pS, Value.cells, Nat.reduceAdd] at mo3_5
 have mo2_5 := m_push_o hm_5 mo2_3
 have mo1_5 := m_push_o hm_5 mo1_3
 have mo0_5 := m_push_o hm_5 mo0_3
 have ml_5 := m_push_l hm_5 ml_3
 have ml_5 : _ = 4 := ml_5
 clear hm_5 mo2_3 mo1_3 mo0_3
 refine al_stm (st_store up_h (u2 rfl up_h) rfl rfl mo3_5 qsz178 rfl (nle rfl)) trivial rfl (fun m_6 hm_6 => ?_)
 have mo3_6 := m_set hm_6 mo3_5
 simp only [pS, Value.cells, Nat.reduceAdd] at mo3_6
 have mo2_6 := m_set_o hm_6 mo2_5 (by decide)
 have mo1_6 := m_set_o hm_6 mo1_5 (by decide)
 have mo0_6 := m_set_o hm_6 mo0_5 (by decide)
 have ml_6 := m_set_l hm_6 ml_5
 clear hm_6 mo3_5 mo2_5 mo1_5 mo0_5
 refine ar (ro_assign (up_n (up_m rfl up_h))) rfl <| ae4 (up_m rfl (up_n (up_m rfl (u8 rfl s3_4)))) (up_m rfl (up_n (up_m rfl (u8 rfl s6_4)))) (up_m rfl (up_n up_h)) up_h ?_; clear s3_4 s4_4 s5_4 s6_4; intro e_7 s3_7 s6_7 s10_7 s11_7
 refine then_n <| aw_seq <| aw_seq <| at_ <| ar (ro_move s11_7) rfl <| ar (ro_neq up_h ev_c) rfl <| ae5 (u2 rfl s3_7) (u2 rfl s6_7) (u2 rfl s10_7) (u2 rfl s11_7) up_h ?_; clear s10_7 s11_7 s3_7 s6_7; intro e_8 s3_8 s6_8 s10_8 s11_8 s21_8
 refine then_n <| aw_case s21_8 (fun hq_9 => ?_) (fun hq_9 => ?_)
 ·replace hq_9 := bnt hq_9
  refine aw_seq <| at_ <| ar (ro_move s11_8) rfl <| ar (ro_assign ev_c) rfl <| ar (ro_assign (up_m rfl up_h)) rfl <| ae2 (up_m rfl up_h) up_h ?_; clear s10_8 s11_8 s21_8 s3_8 s6_8; intro e_10 s8_10 s9_10
  refine then_n <| aw_ret <| then_r <| ret2 (.inr rfl) (by kernel_rfl) (resV_tmp s8_10) (resV_tmp s9_10) (.nil 1) (.ro _ rfl) ?_
  clear s8_10 s9_10 mo3_6 mo2_6 mo1_6 mo0_6 ml_6
  (have hq : ¬ runE nm ps b d v post sq stop = 0 := (by assumption); rw [if_neg hq, if_neg hq]; rfl)
 replace hq_9 := bnf hq_9
 (have hq : runE nm ps b d v post sq stop = 0 := (by assumption); have hR := runE_right hq)
 refine aw_skip <| then_n <| aw_seq <| at_ <| ar (ro_eq (ro_ld_ptr k8_ty178 rfl mo3_6 s10_8 (nle rfl)) (by simp only [pS, Value.cells, Nat.reduceAdd] <;> rfl)) rfl ?_
 refine ar (ro_eq (ro_ld_ptr k8_ty85 rfl mo2_6 (up_m rfl s6_8) (nle rfl)) (by simp only [pS, Value.cells, Nat.reduceAdd] <;> rfl)) rfl ?_
 refine ar (ro_move (u2 rfl s3_8)) rfl <| ar (ro_call (evL_cons (u2 rfl up_h) (evL_cons (up_m rfl up_h) (evL_cons up_h evL_nil))) rfl (run_ok nm ps hR.1 b d v hR.2.1 post sq stop hR.2.2.1.1 hR.2.2.2.2.2 hR.2.2.2.2.1.2.1 hR.2.2.2.1) k8_hcf89) rfl <| ar (ro_extract up_h rfl) rfl <| ar (ro_extract (up_m rfl up_h) rfl) rfl <| ar (ro_assign (up_m rfl up_h)) rfl <| ar (ro_assign (up_m rfl up_h)) rfl <| ae2 (up_m rfl up_h) up_h ?_; clear s10_8 s11_8 s21_8 s3_8 s6_8; intro e_11 s8_11 s9_11
 refine then_n <| aw_ret <| ret2 (.inr rfl) (by kernel_rfl) (resV_tmp s8_11) (resV_tmp s9_11) (.ro _ rfl) (.ro _ rfl) ?_
 clear s8_11 s9_11 mo3_6 mo2_6 mo1_6 mo0_6 ml_6
 (rw [if_pos hq, if_pos hq])
end
end Go.Proofs.YtjhcfpdgldpicaaGreatDoor
