/- The law of chapter 5 on the fastest squares. No conditions on a program. -/
import Derived.Test.YtelgkjekpcfffaaK14
namespace Go.Proofs.Ytelgkjekpcfffaa
open Go Go.RowKit Go.Proofs
set_option linter.unusedSimpArgs false
set_option linter.unusedVariables false
theorem k17_ar27 : ArIs Try.prog 27 2 1 := ⟨by kernel_rfl, by kernel_rfl⟩
theorem k17_fl24_1 : FldIs Try.prog 24 1 1 false 1 := by unfold FldIs; kernel_rfl
theorem k17_fl26_0 : FldIs Try.prog 26 0 0 false 1 := by unfold FldIs; kernel_rfl
theorem k17_fl26_2 : FldIs Try.prog 26 2 2 false 1 := by unfold FldIs; kernel_rfl
theorem k17_hcf15 : ∀ args w, (callFunc 15 args).run Try.prog w = .ok (.enter 15 args) w := fun _ _ => by kernel_rfl
theorem k17_hcf16 : ∀ args w, (callFunc 16 args).run Try.prog w = .ok (.enter 16 args) w := fun _ _ => by kernel_rfl
theorem k17_hcf17 : ∀ args w, (callFunc 17 args).run Try.prog w = .ok (.enter 17 args) w := fun _ _ => by kernel_rfl
theorem k17_hcf18 : ∀ args w, (callFunc 18 args).run Try.prog w = .ok (.enter 18 args) w := fun _ _ => by kernel_rfl
theorem k17_hcf19 : ∀ args w, (callFunc 19 args).run Try.prog w = .ok (.enter 19 args) w := fun _ _ => by kernel_rfl
theorem k17_hcf20 : ∀ args w, (callFunc 20 args).run Try.prog w = .ok (.enter 20 args) w := fun _ _ => by kernel_rfl
theorem k17_hcf21 : ∀ args w, (callFunc 21 args).run Try.prog w = .ok (.enter 21 args) w := fun _ _ => by kernel_rfl
theorem k17_hcf22 : ∀ args w, (callFunc 22 args).run Try.prog w = .ok (.enter 22 args) w := fun _ _ => by kernel_rfl
theorem k17_hcf39 : ∀ args w, (callFunc 39 args).run Try.prog w = .ok (.enter 39 args) w := fun _ _ => by kernel_rfl
theorem k17_hcf70 : ∀ args w, (callFunc 70 args).run Try.prog w = .ok (.enter 70 args) w := fun _ _ => by kernel_rfl
theorem k17_sl22 : SlIs Try.prog 22 66 4 32 (.agg #[.int .i64 0, .int .i64 0, .int .i64 0, .bool false]) := ⟨by kernel_rfl, by kernel_rfl, by kernel_rfl⟩
theorem k17_sl30 : SlIs Try.prog 30 3 1 8 (.int .i64 0) := ⟨by kernel_rfl, by kernel_rfl, by kernel_rfl⟩
theorem k17_sz3 : (Try.prog.info? 3).map (·.size) = some 1 := by kernel_rfl
theorem k17_ty22 : TyIs Try.prog 22 false 1 := ⟨by kernel_rfl, by kernel_rfl⟩
theorem k17_ty24 : TyIs Try.prog 24 true 2 := ⟨by kernel_rfl, by kernel_rfl⟩
theorem k17_ty26 : TyIs Try.prog 26 true 3 := ⟨by kernel_rfl, by kernel_rfl⟩
theorem k17_ty27 : TyIs Try.prog 27 true 2 := ⟨by kernel_rfl, by kernel_rfl⟩
theorem k17_ty3 : TyIs Try.prog 3 false 1 := ⟨by kernel_rfl, by kernel_rfl⟩

theorem bwD_none {ps : List Piece} {b sq : Int} {post k : Nat} (h : bwD ps b sq post k = -1) : ∀ m, bwD ps b sq post (k + m) = -1
  | 0 => h
  | m + 1 => by
    have := bwD_none h m
    show bwD ps b sq post (k + m + 1) = -1
    simp only [bwD]
    rw [if_pos this]
abbrev sqF (ps : List Piece) (e1 : Int) : Int := min e1 ((liW ps (ps.length + 1)).getD ps.length default)
theorem fasM_none {ps : List Piece} {b e1 : Int} {i : Nat} (hi : i ≤ ps.length) (h : bwD ps b (sqF ps e1) ps.length (ps.length - i) = -1) : (fasM ps b e1).getD 0 default = -1 := by
  unfold fasM
  rw [bwL_at ps b _ (Nat.zero_le _), Nat.sub_zero]
  have := bwD_none h i
  rwa [show ps.length - i + i = ps.length by omega] at this
set_option maxRecDepth 100000 in
set_option maxHeartbeats 4000000 in
theorem rFastest_ok (nm : ByteArray) (ps : List Piece) (hok : trackR ps) (b d v : Int) (hb : sysR b d v) (e0 e1 : Int) (he0 : 0 ≤ e0 ∧ e0 ≤ 20000000000) (he1 : 0 ≤ e1 ∧ e1 ≤ 20000000000) :
    FnOk Try.prog 21 [trA nm ps, syA b d v, .agg [iA e0, iA e1]] (fun q => q = .tuple [.row 1 ((fasW ps b v e0 e1).1.map iE), bA (decide ((fasW ps b v e0 e1).2 = 0))]) := by
  obtain ⟨q1, q2, q3⟩ := id hok
  obtain ⟨r1, r2, r3, r4⟩ := id hb
  have hlw := liW_len ps (ps.length + 1)
  have hll : (liW ps (ps.length + 1)).getD ps.length default = limW ps ps.length := liW_at ps (by omega)
  have hlb0 := limW_bound q1 ps.length
  refine fnOk_of (fn := Try.f21) 101 (by kernel_rfl) rfl (by kernel_rfl) (Nat.le_of_ble_eq_true rfl) ?_
  intro e_0 m_0 hA hm_0
  have s0_0 : evA e_0 (.tmp 0) = _ := hA 0 _ rfl
  have s1_0 : evA e_0 (.tmp 1) = _ := hA 1 _ rfl
  have s2_0 : evA e_0 (.tmp 2) = _ := hA 2 _ rfl
  have ml_0 : m_0.length = 0 := by rw [hm_0]; rfl
  clear hA hm_0
  refine aw_seq ?_
  refine aw_text ?_
  refine al_stm (st_box s0_0 rfl ml_0) trivial rfl (fun m_1 hm_1 => ?_)
  have mo0_1 := m_push hm_1 ml_0
  (try simp only [packA_t, packA_f, iE, bE, setAt, cellsA, Value.cells, map_vc, map_vn, Nat.reduceAdd, qS, rep_iE, set_iE, one_iE, app_m] at mo0_1)
  have ml_1 := m_push_l hm_1 ml_0
  have ml_1 : _ = 1 := ml_1
  clear hm_1
  refine al_stm (st_box (up_m rfl s1_0) rfl ml_1) trivial rfl (fun m_2 hm_2 => ?_)
  have mo1_2 := m_push hm_2 ml_1
  (try simp only [packA_t, packA_f, iE, bE, setAt, cellsA, Value.cells, map_vc, map_vn, Nat.reduceAdd, qS, rep_iE, set_iE, one_iE, app_m] at mo1_2)
  have mo0_2 := m_push_o hm_2 mo0_1
  have ml_2 := m_push_l hm_2 ml_1
  have ml_2 : _ = 2 := ml_2
  clear hm_2 mo0_1
  refine al_stm (st_box (up_m rfl (up_m rfl s2_0)) rfl ml_2) trivial rfl (fun m_3 hm_3 => ?_)
  have mo2_3 := m_push hm_3 ml_2
  (try simp only [packA_t, packA_f, iE, bE, setAt, cellsA, Value.cells, map_vc, map_vn, Nat.reduceAdd, qS, rep_iE, set_iE, one_iE, app_m] at mo2_3)
  have mo1_3 := m_push_o hm_3 mo1_2
  have mo0_3 := m_push_o hm_3 mo0_2
  have ml_3 := m_push_l hm_3 ml_2
  have ml_3 : _ = 3 := ml_3
  clear hm_3 mo1_2 mo0_2
  refine al_ro' (ro_assign ev_c) trivial rfl ?_
  refine al_ro' (ro_assign ev_c) trivial rfl ?_
  refine al_end (fun e_4 he_4 => ?_)
  have s3_4 : evA e_4 (.tmp 3) = _ := (congrArg (fun q => evA q (.tmp 3)) he_4).trans (up_m rfl (up_m rfl (up_m rfl (up_m rfl up_h))))
  have s4_4 : evA e_4 (.tmp 4) = _ := (congrArg (fun q => evA q (.tmp 4)) he_4).trans (up_m rfl (up_m rfl (up_m rfl up_h)))
  have s5_4 : evA e_4 (.tmp 5) = _ := (congrArg (fun q => evA q (.tmp 5)) he_4).trans (up_m rfl (up_m rfl up_h))
  clear he_4 s0_0 s1_0 s2_0
  refine then_n ?_
  refine aw_seq ?_
  refine aw_text ?_
  refine al_ro' (ro_eq (ro_ld_ptr k17_ty24 rfl mo0_3 s3_4 (by first | exact Nat.le_of_ble_eq_true rfl | omega | (simp only [lnS] <;> omega) | (simp <;> omega))) (by first | (simp only [packA_t, packA_f, iE, bE, setAt, cellsA, Value.cells, map_vc, map_vn, Nat.reduceAdd, qS, rep_iE, set_iE, one_iE, app_m] <;> rfl) | rfl)) trivial rfl ?_
  refine al_ro' (ro_call (evL_cons up_h evL_nil) rfl (rLimitsAt_ok nm ps q1 (by omega) (by omega)) k17_hcf39) trivial rfl ?_
  refine al_ro' (ro_assign up_h) trivial rfl ?_
  refine al_end (fun e_5 he_5 => ?_)
  have s3_5 : evA e_5 (.tmp 3) = _ := (congrArg (fun q => evA q (.tmp 3)) he_5).trans (up_m rfl (up_m rfl (up_m rfl s3_4)))
  have s4_5 : evA e_5 (.tmp 4) = _ := (congrArg (fun q => evA q (.tmp 4)) he_5).trans (up_m rfl (up_m rfl (up_m rfl s4_4)))
  have s5_5 : evA e_5 (.tmp 5) = _ := (congrArg (fun q => evA q (.tmp 5)) he_5).trans (up_m rfl (up_m rfl (up_m rfl s5_4)))
  have s8_5 : evA e_5 (.tmp 8) = _ := (congrArg (fun q => evA q (.tmp 8)) he_5).trans up_h
  clear he_5 s3_4 s4_4 s5_4
  refine then_n ?_
  refine aw_seq ?_
  refine aw_text ?_
  refine al_ro' (ro_fld_ptr k17_fl24_1 rfl s3_5) trivial rfl ?_
  refine al_ro' (ro_eq (ro_ld_ptr k17_ty22 rfl mo0_3 up_h (by first | exact Nat.le_of_ble_eq_true rfl | omega | (simp only [lnS] <;> omega) | (simp <;> omega))) (by first | (simp only [packA_t, packA_f, iE, bE, setAt, cellsA, Value.cells, map_vc, map_vn, Nat.reduceAdd, qS, rep_iE, set_iE, one_iE, app_m] <;> rfl) | rfl)) trivial rfl ?_
  refine al_ro' (ro_eq (ro_len_row up_h rfl k17_sl22.1) (by first | (simp only [lnS] <;> rfl) | rfl)) trivial rfl ?_
  refine al_ro' (ro_assign up_h) trivial rfl ?_
  refine al_end (fun e_6 he_6 => ?_)
  have s3_6 : evA e_6 (.tmp 3) = _ := (congrArg (fun q => evA q (.tmp 3)) he_6).trans (up_m rfl (up_m rfl (up_m rfl (up_m rfl s3_5))))
  have s4_6 : evA e_6 (.tmp 4) = _ := (congrArg (fun q => evA q (.tmp 4)) he_6).trans (up_m rfl (up_m rfl (up_m rfl (up_m rfl s4_5))))
  have s5_6 : evA e_6 (.tmp 5) = _ := (congrArg (fun q => evA q (.tmp 5)) he_6).trans (up_m rfl (up_m rfl (up_m rfl (up_m rfl s5_5))))
  have s8_6 : evA e_6 (.tmp 8) = _ := (congrArg (fun q => evA q (.tmp 8)) he_6).trans (up_m rfl (up_m rfl (up_m rfl (up_m rfl s8_5))))
  have s9_6 : evA e_6 (.tmp 9) = _ := (congrArg (fun q => evA q (.tmp 9)) he_6).trans up_h
  clear he_6 s3_5 s4_5 s5_5 s8_5
  refine then_n ?_
  refine aw_seq ?_
  refine aw_text ?_
  refine al_ro' (ro_move s9_6) trivial rfl ?_
  first | (refine al_ro' (ro_add' up_h ev_c ?_) trivial rfl ?_; · (unfold In64; omega)) | refine al_ro' (ro_add up_h ev_c) trivial rfl ?_
  refine al_stm (st_mk k17_sl30 rfl rfl ml_3 up_h up_h (by first | decide | omega | (simp <;> omega)) (by first | omega | (simp only [lnS] <;> omega) | (simp <;> omega))) trivial rfl (fun m_7 hm_7 => ?_)
  have mo3_7 := m_push hm_7 ml_3
  (try simp only [packA_t, packA_f, iE, bE, setAt, cellsA, Value.cells, map_vc, map_vn, Nat.reduceAdd, qS, rep_iE, set_iE, one_iE, app_m] at mo3_7)
  have mo2_7 := m_push_o hm_7 mo2_3
  have mo1_7 := m_push_o hm_7 mo1_3
  have mo0_7 := m_push_o hm_7 mo0_3
  have ml_7 := m_push_l hm_7 ml_3
  have ml_7 : _ = 4 := ml_7
  clear hm_7 mo2_3 mo1_3 mo0_3
  refine al_ro' (ro_assign up_h) trivial rfl ?_
  refine al_end (fun e_8 he_8 => ?_)
  have s3_8 : evA e_8 (.tmp 3) = _ := (congrArg (fun q => evA q (.tmp 3)) he_8).trans (up_m rfl (up_m rfl (up_m rfl (up_m rfl s3_6))))
  have s4_8 : evA e_8 (.tmp 4) = _ := (congrArg (fun q => evA q (.tmp 4)) he_8).trans (up_m rfl (up_m rfl (up_m rfl (up_m rfl s4_6))))
  have s5_8 : evA e_8 (.tmp 5) = _ := (congrArg (fun q => evA q (.tmp 5)) he_8).trans (up_m rfl (up_m rfl (up_m rfl (up_m rfl s5_6))))
  have s8_8 : evA e_8 (.tmp 8) = _ := (congrArg (fun q => evA q (.tmp 8)) he_8).trans (up_m rfl (up_m rfl (up_m rfl (up_m rfl s8_6))))
  have s9_8 : evA e_8 (.tmp 9) = _ := (congrArg (fun q => evA q (.tmp 9)) he_8).trans (up_m rfl (up_m rfl (up_m rfl (up_m rfl s9_6))))
  have s10_8 : evA e_8 (.tmp 10) = _ := (congrArg (fun q => evA q (.tmp 10)) he_8).trans up_h
  clear he_8 s3_6 s4_6 s5_6 s8_6 s9_6
  refine then_n ?_
  refine aw_seq ?_
  refine aw_draw 10 (by kernel_rfl) (by kernel_rfl) (by kernel_rfl) ?_
  refine ds_ro' (ro_move s10_8) trivial rfl ?_
  refine ds_ro' (ro_move (up_m rfl s9_8)) trivial rfl ?_
  refine ds_ro' (ro_move (up_m rfl (up_m rfl s8_8))) trivial rfl ?_
  refine ds_ro' (ro_move (up_m rfl (up_m rfl (up_m rfl s9_8)))) trivial rfl ?_
  refine ds_ro' (ro_eq (ro_ix k17_sl30 (up_m rfl up_h) up_h (by first | decide | omega | (simp <;> omega)) (by first | (refine idx_map ?_; first | omega | (simp only [lnS]; omega)) | (refine idx_mapI ?_; first | omega | (simp only [lnS]; omega)) | (refine idx_mapN ?_; first | omega | (simp only [lnS]; omega)) | rfl)) (by first | (simp only [packA_t, packA_f, iE, bE, setAt, cellsA, Value.cells, map_vc, map_vn, Nat.reduceAdd, qS, rep_iE, set_iE, one_iE, app_m] <;> rfl) | rfl)) trivial rfl ?_
  refine ds_ro' (ro_eq (ro_ld_ref k17_ty3 rfl up_h (by first | exact Nat.le_of_ble_eq_true rfl | omega | (simp only [lnS] <;> omega) | (simp <;> omega))) (by first | (simp only [packA_t, packA_f, iE, bE, setAt, cellsA, Value.cells, map_vc, map_vn, Nat.reduceAdd, qS, rep_iE, set_iE, one_iE, app_m] <;> rfl) | rfl)) trivial rfl ?_
  refine ds_ro' (ro_ixa k17_ar27 (up_m rfl (up_m rfl (up_m rfl (up_m rfl (up_m rfl (up_m rfl s5_8)))))) ev_c rfl) trivial rfl ?_
  refine ds_ro' (ro_eq (ro_ld_ptr k17_ty3 rfl mo2_7 up_h (by first | exact Nat.le_of_ble_eq_true rfl | omega | (simp only [lnS] <;> omega) | (simp <;> omega))) (by first | (simp only [packA_t, packA_f, iE, bE, setAt, cellsA, Value.cells, map_vc, map_vn, Nat.reduceAdd, qS, rep_iE, set_iE, one_iE, app_m] <;> rfl) | rfl)) trivial rfl ?_
  refine ds_ro' (ro_min (up_m rfl (up_m rfl up_h)) up_h) trivial rfl ?_
  refine ds_ro' (ro_ix_own k17_sl30 mo3_7 (up_m rfl (up_m rfl (up_m rfl (up_m rfl (up_m rfl (up_m rfl (up_m rfl (up_m rfl up_h)))))))) (up_m rfl (up_m rfl (up_m rfl (up_m rfl (up_m rfl (up_m rfl (up_m rfl up_h))))))) (by first | decide | omega | (simp <;> omega)) (by first | omega | (simp only [lnS] <;> omega) | (simp <;> omega))) trivial rfl ?_
  refine ds_nil ?_
  refine al_stm (st_store_el up_h (up_m rfl up_h) rfl rfl rfl mo3_7 (Nat.add_zero _).symm (by first | (refine idx_map ?_; first | omega | (simp only [lnS]; omega)) | (refine idx_mapI ?_; first | omega | (simp only [lnS]; omega)) | (refine idx_mapN ?_; first | omega | (simp only [lnS]; omega)) | rfl) k17_sz3 rfl (by first | exact Nat.le_of_ble_eq_true rfl | omega | (simp only [lnS] <;> omega) | (simp <;> omega))) trivial rfl (fun m_9 hm_9 => ?_)
  have mo3_9 := m_set hm_9 mo3_7
  (try simp only [packA_t, packA_f, iE, bE, setAt, cellsA, Value.cells, map_vc, map_vn, Nat.reduceAdd, qS, rep_iE, set_iE, one_iE, app_m] at mo3_9)
  have mo2_9 := m_set_o hm_9 mo2_7 (by decide)
  have mo1_9 := m_set_o hm_9 mo1_7 (by decide)
  have mo0_9 := m_set_o hm_9 mo0_7 (by decide)
  have ml_9 := m_set_l hm_9 ml_7
  clear hm_9 mo3_7 mo2_7 mo1_7 mo0_7
  refine al_end (fun e_10 he_10 => ?_)
  have s3_10 : evA e_10 (.tmp 3) = _ := (congrArg (fun q => evA q (.tmp 3)) he_10).trans (up_n (up_m rfl (up_m rfl (up_m rfl (up_m rfl (up_m rfl (up_m rfl (up_m rfl (up_m rfl (up_m rfl (up_m rfl s3_8)))))))))))
  have s4_10 : evA e_10 (.tmp 4) = _ := (congrArg (fun q => evA q (.tmp 4)) he_10).trans (up_n (up_m rfl (up_m rfl (up_m rfl (up_m rfl (up_m rfl (up_m rfl (up_m rfl (up_m rfl (up_m rfl (up_m rfl s4_8)))))))))))
  have s5_10 : evA e_10 (.tmp 5) = _ := (congrArg (fun q => evA q (.tmp 5)) he_10).trans (up_n (up_m rfl (up_m rfl (up_m rfl (up_m rfl (up_m rfl (up_m rfl (up_m rfl (up_m rfl (up_m rfl (up_m rfl s5_8)))))))))))
  have s8_10 : evA e_10 (.tmp 8) = _ := (congrArg (fun q => evA q (.tmp 8)) he_10).trans (up_n (up_m rfl (up_m rfl (up_m rfl (up_m rfl (up_m rfl (up_m rfl (up_m rfl (up_m rfl (up_m rfl (up_m rfl s8_8)))))))))))
  have s9_10 : evA e_10 (.tmp 9) = _ := (congrArg (fun q => evA q (.tmp 9)) he_10).trans (up_n (up_m rfl (up_m rfl (up_m rfl (up_m rfl (up_m rfl (up_m rfl (up_m rfl (up_m rfl (up_m rfl (up_m rfl s9_8)))))))))))
  have s10_10 : evA e_10 (.tmp 10) = _ := (congrArg (fun q => evA q (.tmp 10)) he_10).trans (up_n (up_m rfl (up_m rfl (up_m rfl (up_m rfl (up_m rfl (up_m rfl (up_m rfl (up_m rfl (up_m rfl (up_m rfl s10_8)))))))))))
  clear he_10 s10_8 s3_8 s4_8 s5_8 s8_8 s9_8
  refine then_n ?_
  refine aw_seq ?_
  refine aw_seq ?_
  refine aw_text ?_
  refine al_ro' (ro_move s9_10) trivial rfl ?_
  first | (refine al_ro' (ro_sub' up_h ev_c ?_) trivial rfl ?_; · (unfold In64; omega)) | refine al_ro' (ro_sub up_h ev_c) trivial rfl ?_
  refine al_ro' (ro_assign up_h) trivial rfl ?_
  refine al_end (fun e_11 he_11 => ?_)
  have s3_11 : evA e_11 (.tmp 3) = _ := (congrArg (fun q => evA q (.tmp 3)) he_11).trans (up_m rfl (up_m rfl (up_m rfl s3_10)))
  have s4_11 : evA e_11 (.tmp 4) = _ := (congrArg (fun q => evA q (.tmp 4)) he_11).trans (up_m rfl (up_m rfl (up_m rfl s4_10)))
  have s5_11 : evA e_11 (.tmp 5) = _ := (congrArg (fun q => evA q (.tmp 5)) he_11).trans (up_m rfl (up_m rfl (up_m rfl s5_10)))
  have s8_11 : evA e_11 (.tmp 8) = _ := (congrArg (fun q => evA q (.tmp 8)) he_11).trans (up_m rfl (up_m rfl (up_m rfl s8_10)))
  have s9_11 : evA e_11 (.tmp 9) = _ := (congrArg (fun q => evA q (.tmp 9)) he_11).trans (up_m rfl (up_m rfl (up_m rfl s9_10)))
  have s10_11 : evA e_11 (.tmp 10) = _ := (congrArg (fun q => evA q (.tmp 10)) he_11).trans (up_m rfl (up_m rfl (up_m rfl s10_10)))
  have s11_11 : evA e_11 (.tmp 11) = _ := (congrArg (fun q => evA q (.tmp 11)) he_11).trans up_h
  clear he_11 s10_10 s3_10 s4_10 s5_10 s8_10 s9_10
  refine then_n ?_
  refine aw_block ?_
  refine aw_loop (S := (Int × List Int)) (fun s e mem => match s with | ⟨i, xs⟩ => (evA e (.tmp 11) = .v (.int .i64 i)) ∧ (evA e (.tmp 3) = evA e_11 (.tmp 3)) ∧ (evA e (.tmp 4) = evA e_11 (.tmp 4)) ∧ (evA e (.tmp 5) = evA e_11 (.tmp 5)) ∧ (evA e (.tmp 8) = evA e_11 (.tmp 8)) ∧ (evA e (.tmp 9) = evA e_11 (.tmp 9)) ∧ (evA e (.tmp 10) = evA e_11 (.tmp 10)) ∧ (mem[3]? = some (.row 3 1 (xs.map iE))) ∧ (mem[2]? = m_9[2]?) ∧ (mem[1]? = m_9[1]?) ∧ (mem[0]? = m_9[0]?) ∧ (mem.length = 4) ∧ ((-1 ≤ i ∧ i < ps.length ∧ xs.length = ps.length + 1 ∧ ∀ j : Nat, i < j → j ≤ ps.length → xs.getD j default = bwD ps b (sqF ps e1) ps.length (ps.length - j) ∧ 0 ≤ xs.getD j default))) (fun s => match s with | ⟨i, xs⟩ => (i + 1).toNat) ⟨_, _⟩ ⟨s11_11, rfl, rfl, rfl, rfl, rfl, rfl, mo3_9, rfl, rfl, rfl, ml_9, ?_⟩ ?_
  · (refine ⟨by omega, by omega, by simp, fun j hj hj2 => ?_⟩; have hjp : j = (ps.length : Int).toNat := (by omega); rw [hjp, getD_se (by simp), show ps.length - (ps.length : Int).toNat = 0 by omega]; simp only [bwD, sqF, Int.toNat_natCast]; omega)
  · rintro ⟨i, xs⟩ e_12 m_12 ⟨s11_12, k3_12, k4_12, k5_12, k8_12, k9_12, k10_12, mo3_12, mk2_12, mk1_12, mk0_12, ml_12, hinv⟩
    have s3_12 := k3_12.trans s3_11
    have s4_12 := k4_12.trans s4_11
    have s5_12 := k5_12.trans s5_11
    have s8_12 := k8_12.trans s8_11
    have s9_12 := k9_12.trans s9_11
    have s10_12 := k10_12.trans s10_11
    have mo2_12 := mk2_12.trans mo2_9
    have mo1_12 := mk1_12.trans mo1_9
    have mo0_12 := mk0_12.trans mo0_9
    refine aw_seq ?_
    refine aw_seq ?_
    refine aw_text ?_
    refine al_ro' (ro_move s11_12) trivial rfl ?_
    refine al_ro' (ro_geq up_h ev_c) trivial rfl ?_
    refine al_end (fun e_13 he_13 => ?_)
    have s3_13 : evA e_13 (.tmp 3) = _ := (congrArg (fun q => evA q (.tmp 3)) he_13).trans (up_m rfl (up_m rfl s3_12))
    have s4_13 : evA e_13 (.tmp 4) = _ := (congrArg (fun q => evA q (.tmp 4)) he_13).trans (up_m rfl (up_m rfl s4_12))
    have s5_13 : evA e_13 (.tmp 5) = _ := (congrArg (fun q => evA q (.tmp 5)) he_13).trans (up_m rfl (up_m rfl s5_12))
    have s8_13 : evA e_13 (.tmp 8) = _ := (congrArg (fun q => evA q (.tmp 8)) he_13).trans (up_m rfl (up_m rfl s8_12))
    have s9_13 : evA e_13 (.tmp 9) = _ := (congrArg (fun q => evA q (.tmp 9)) he_13).trans (up_m rfl (up_m rfl s9_12))
    have s10_13 : evA e_13 (.tmp 10) = _ := (congrArg (fun q => evA q (.tmp 10)) he_13).trans (up_m rfl (up_m rfl s10_12))
    have s11_13 : evA e_13 (.tmp 11) = _ := (congrArg (fun q => evA q (.tmp 11)) he_13).trans (up_m rfl (up_m rfl s11_12))
    have s36_13 : evA e_13 (.tmp 36) = _ := (congrArg (fun q => evA q (.tmp 36)) he_13).trans up_h
    clear he_13 s10_12 s11_12 s3_12 s4_12 s5_12 s8_12 s9_12
    refine then_n ?_
    refine aw_case s36_13 (fun hq_14 => ?_) (fun hq_14 => ?_)
    · first
      | (cases hq_14; done) | ((first | replace hq_14 := bnt hq_14 | replace hq_14 := bnf hq_14 | replace hq_14 := bt hq_14 | replace hq_14 := bf hq_14 | replace hq_14 := bt' hq_14 | replace hq_14 := bf' hq_14 | skip); exfalso; omega)
      | ((first | replace hq_14 := bnt hq_14 | replace hq_14 := bnf hq_14 | replace hq_14 := bt hq_14 | replace hq_14 := bf hq_14 | replace hq_14 := bt' hq_14 | replace hq_14 := bf' hq_14 | skip)
         (obtain ⟨p1, p2, p3, p4⟩ := hinv; have hq4 := p4 (i + 1).toNat (by omega) (by omega); have hbd := bwD_bound q1 (b := b) (post := ps.length) (sq := sqF ps e1) (by unfold sqF; omega) (ps.length - (i + 1).toNat); have hlb := limW_bound q1 i.toNat; have hpa := q1.at i.toNat; have hlos := los_bound (dec := b) (p := ps.getD i.toNat default) (by omega) hpa.1 hpa.2.1; have hli : (liW ps (ps.length + 1)).getD i.toNat default = limW ps i.toNat := liW_at ps (by omega); have hstep : bwD ps b (sqF ps e1) ps.length (ps.length - i.toNat) = if bwD ps b (sqF ps e1) ps.length (ps.length - (i + 1).toNat) = -1 then -1 else max (-1) (min (limW ps i.toNat) (bwD ps b (sqF ps e1) ps.length (ps.length - (i + 1).toNat) + losW b (ps.getD i.toNat default))) := (by rw [show ps.length - i.toNat = (ps.length - (i + 1).toNat) + 1 by omega]; simp only [bwD]; rw [show ps.length - (ps.length - (i + 1).toNat) - 1 = i.toNat by omega]); have hse := fun x => getD_se (xs := xs) (i := i.toNat) (v := x) (by omega))
         refine aw_skip ?_
         refine then_n ?_
         refine aw_seq ?_
         refine aw_block ?_
         refine aw_seq ?_
         refine aw_draw 19 (by kernel_rfl) (by kernel_rfl) (by kernel_rfl) ?_
         refine ds_ro' (ro_move s10_13) trivial rfl ?_
         refine ds_ro' (ro_move (up_m rfl s11_13)) trivial rfl ?_
         refine ds_ro' (ro_move (up_m rfl (up_m rfl s8_13))) trivial rfl ?_
         refine ds_ro' (ro_move (up_m rfl (up_m rfl (up_m rfl s11_13)))) trivial rfl ?_
         refine ds_ro' (ro_eq (ro_ix k17_sl30 (up_m rfl up_h) up_h (by first | decide | omega | (simp <;> omega)) (by first | (refine idx_map ?_; first | omega | (simp only [lnS]; omega)) | (refine idx_mapI ?_; first | omega | (simp only [lnS]; omega)) | (refine idx_mapN ?_; first | omega | (simp only [lnS]; omega)) | rfl)) (by first | (simp only [packA_t, packA_f, iE, bE, setAt, cellsA, Value.cells, map_vc, map_vn, Nat.reduceAdd, qS, rep_iE, set_iE, one_iE, app_m] <;> rfl) | rfl)) trivial rfl ?_
         refine ds_ro' (ro_eq (ro_ld_ref k17_ty3 rfl up_h (by first | exact Nat.le_of_ble_eq_true rfl | omega | (simp only [lnS] <;> omega) | (simp <;> omega))) (by first | (simp only [packA_t, packA_f, iE, bE, setAt, cellsA, Value.cells, map_vc, map_vn, Nat.reduceAdd, qS, rep_iE, set_iE, one_iE, app_m] <;> rfl) | rfl)) trivial rfl ?_
         refine ds_ro' (ro_move (up_m rfl (up_m rfl (up_m rfl (up_m rfl (up_m rfl (up_m rfl s10_13))))))) trivial rfl ?_
         refine ds_ro' (ro_move (up_m rfl (up_m rfl (up_m rfl (up_m rfl (up_m rfl (up_m rfl (up_m rfl s11_13)))))))) trivial rfl ?_
         first | (refine ds_ro' (ro_add' up_h ev_c ?_) trivial rfl ?_; · (unfold In64; omega)) | refine ds_ro' (ro_add up_h ev_c) trivial rfl ?_
         refine ds_ro' (ro_ix_own k17_sl30 mo3_12 (up_m rfl (up_m rfl up_h)) up_h (by first | decide | omega | (simp <;> omega)) (by first | omega | (simp only [lnS] <;> omega) | (simp <;> omega))) trivial rfl ?_
         refine ds_ro' (ro_eq (ro_ld_el k17_ty3 rfl mo3_12 up_h (by first | exact Nat.le_of_ble_eq_true rfl | omega | (simp only [lnS] <;> omega) | (simp <;> omega)) (by first | (refine idx_map ?_; first | omega | (simp only [lnS]; omega)) | (refine idx_mapI ?_; first | omega | (simp only [lnS]; omega)) | (refine idx_mapN ?_; first | omega | (simp only [lnS]; omega)) | rfl)) (by first | (simp only [packA_t, packA_f, iE, bE, setAt, cellsA, Value.cells, map_vc, map_vn, Nat.reduceAdd, qS, rep_iE, set_iE, one_iE, app_m] <;> rfl) | rfl)) trivial rfl ?_
         refine ds_ro' (ro_eq (ro_ld_ptr k17_ty24 rfl mo0_12 (up_m rfl (up_m rfl (up_m rfl (up_m rfl (up_m rfl (up_m rfl (up_m rfl (up_m rfl (up_m rfl (up_m rfl (up_m rfl s3_13))))))))))) (by first | exact Nat.le_of_ble_eq_true rfl | omega | (simp only [lnS] <;> omega) | (simp <;> omega))) (by first | (simp only [packA_t, packA_f, iE, bE, setAt, cellsA, Value.cells, map_vc, map_vn, Nat.reduceAdd, qS, rep_iE, set_iE, one_iE, app_m] <;> rfl) | rfl)) trivial rfl ?_
         refine ds_ro' (ro_move (up_m rfl (up_m rfl (up_m rfl (up_m rfl (up_m rfl (up_m rfl (up_m rfl (up_m rfl (up_m rfl (up_m rfl (up_m rfl (up_m rfl s11_13))))))))))))) trivial rfl ?_
         refine ds_ro' (ro_fld_ptr k17_fl26_0 rfl (up_m rfl (up_m rfl (up_m rfl (up_m rfl (up_m rfl (up_m rfl (up_m rfl (up_m rfl (up_m rfl (up_m rfl (up_m rfl (up_m rfl (up_m rfl s4_13)))))))))))))) trivial rfl ?_
         refine ds_ro' (ro_eq (ro_ld_ptr k17_ty3 rfl mo1_12 up_h (by first | exact Nat.le_of_ble_eq_true rfl | omega | (simp only [lnS] <;> omega) | (simp <;> omega))) (by first | (simp only [packA_t, packA_f, iE, bE, setAt, cellsA, Value.cells, map_vc, map_vn, Nat.reduceAdd, qS, rep_iE, set_iE, one_iE, app_m] <;> rfl) | rfl)) trivial rfl ?_
         refine ds_ro' (ro_call (evL_cons (up_m rfl (up_m rfl (up_m rfl up_h))) (evL_cons (up_m rfl (up_m rfl up_h)) (evL_cons up_h evL_nil))) rfl (rloses_ok nm ps q1 i (by omega) (by omega) b (by omega)) k17_hcf70) trivial rfl ?_
         first | (refine ds_ro' (ro_add' (up_m rfl (up_m rfl (up_m rfl (up_m rfl (up_m rfl up_h))))) up_h ?_) trivial rfl ?_; · (unfold In64; omega)) | refine ds_ro' (ro_add (up_m rfl (up_m rfl (up_m rfl (up_m rfl (up_m rfl up_h))))) up_h) trivial rfl ?_
         refine ds_ro' (ro_min (up_m rfl (up_m rfl (up_m rfl (up_m rfl (up_m rfl (up_m rfl (up_m rfl (up_m rfl (up_m rfl (up_m rfl (up_m rfl up_h))))))))))) up_h) trivial rfl ?_
         refine ds_ro' (ro_ix_own k17_sl30 mo3_12 (up_m rfl (up_m rfl (up_m rfl (up_m rfl (up_m rfl (up_m rfl (up_m rfl (up_m rfl (up_m rfl (up_m rfl (up_m rfl (up_m rfl (up_m rfl (up_m rfl (up_m rfl (up_m rfl (up_m rfl up_h))))))))))))))))) (up_m rfl (up_m rfl (up_m rfl (up_m rfl (up_m rfl (up_m rfl (up_m rfl (up_m rfl (up_m rfl (up_m rfl (up_m rfl (up_m rfl (up_m rfl (up_m rfl (up_m rfl (up_m rfl up_h)))))))))))))))) (by first | decide | omega | (simp <;> omega)) (by first | omega | (simp only [lnS] <;> omega) | (simp <;> omega))) trivial rfl ?_
         refine ds_nil ?_
         refine al_stm (st_store_el up_h (up_m rfl up_h) rfl rfl rfl mo3_12 (Nat.add_zero _).symm (by first | (refine idx_map ?_; first | omega | (simp only [lnS]; omega)) | (refine idx_mapI ?_; first | omega | (simp only [lnS]; omega)) | (refine idx_mapN ?_; first | omega | (simp only [lnS]; omega)) | rfl) k17_sz3 rfl (by first | exact Nat.le_of_ble_eq_true rfl | omega | (simp only [lnS] <;> omega) | (simp <;> omega))) trivial rfl (fun m_15 hm_15 => ?_)
         have mo3_15 := m_set hm_15 mo3_12
         (try simp only [packA_t, packA_f, iE, bE, setAt, cellsA, Value.cells, map_vc, map_vn, Nat.reduceAdd, qS, rep_iE, set_iE, one_iE, app_m] at mo3_15)
         have mo2_15 := m_set_o hm_15 mo2_12 (by decide)
         have mo1_15 := m_set_o hm_15 mo1_12 (by decide)
         have mo0_15 := m_set_o hm_15 mo0_12 (by decide)
         have ml_15 := m_set_l hm_15 ml_12
         clear hm_15 mo3_12 mo2_12 mo1_12 mo0_12
         refine al_end (fun e_16 he_16 => ?_)
         have s3_16 : evA e_16 (.tmp 3) = _ := (congrArg (fun q => evA q (.tmp 3)) he_16).trans (up_n (up_m rfl (up_m rfl (up_m rfl (up_m rfl (up_m rfl (up_m rfl (up_m rfl (up_m rfl (up_m rfl (up_m rfl (up_m rfl (up_m rfl (up_m rfl (up_m rfl (up_m rfl (up_m rfl (up_m rfl (up_m rfl (up_m rfl s3_13))))))))))))))))))))
         have s4_16 : evA e_16 (.tmp 4) = _ := (congrArg (fun q => evA q (.tmp 4)) he_16).trans (up_n (up_m rfl (up_m rfl (up_m rfl (up_m rfl (up_m rfl (up_m rfl (up_m rfl (up_m rfl (up_m rfl (up_m rfl (up_m rfl (up_m rfl (up_m rfl (up_m rfl (up_m rfl (up_m rfl (up_m rfl (up_m rfl (up_m rfl s4_13))))))))))))))))))))
         have s5_16 : evA e_16 (.tmp 5) = _ := (congrArg (fun q => evA q (.tmp 5)) he_16).trans (up_n (up_m rfl (up_m rfl (up_m rfl (up_m rfl (up_m rfl (up_m rfl (up_m rfl (up_m rfl (up_m rfl (up_m rfl (up_m rfl (up_m rfl (up_m rfl (up_m rfl (up_m rfl (up_m rfl (up_m rfl (up_m rfl (up_m rfl s5_13))))))))))))))))))))
         have s8_16 : evA e_16 (.tmp 8) = _ := (congrArg (fun q => evA q (.tmp 8)) he_16).trans (up_n (up_m rfl (up_m rfl (up_m rfl (up_m rfl (up_m rfl (up_m rfl (up_m rfl (up_m rfl (up_m rfl (up_m rfl (up_m rfl (up_m rfl (up_m rfl (up_m rfl (up_m rfl (up_m rfl (up_m rfl (up_m rfl (up_m rfl s8_13))))))))))))))))))))
         have s9_16 : evA e_16 (.tmp 9) = _ := (congrArg (fun q => evA q (.tmp 9)) he_16).trans (up_n (up_m rfl (up_m rfl (up_m rfl (up_m rfl (up_m rfl (up_m rfl (up_m rfl (up_m rfl (up_m rfl (up_m rfl (up_m rfl (up_m rfl (up_m rfl (up_m rfl (up_m rfl (up_m rfl (up_m rfl (up_m rfl (up_m rfl s9_13))))))))))))))))))))
         have s10_16 : evA e_16 (.tmp 10) = _ := (congrArg (fun q => evA q (.tmp 10)) he_16).trans (up_n (up_m rfl (up_m rfl (up_m rfl (up_m rfl (up_m rfl (up_m rfl (up_m rfl (up_m rfl (up_m rfl (up_m rfl (up_m rfl (up_m rfl (up_m rfl (up_m rfl (up_m rfl (up_m rfl (up_m rfl (up_m rfl (up_m rfl s10_13))))))))))))))))))))
         have s11_16 : evA e_16 (.tmp 11) = _ := (congrArg (fun q => evA q (.tmp 11)) he_16).trans (up_n (up_m rfl (up_m rfl (up_m rfl (up_m rfl (up_m rfl (up_m rfl (up_m rfl (up_m rfl (up_m rfl (up_m rfl (up_m rfl (up_m rfl (up_m rfl (up_m rfl (up_m rfl (up_m rfl (up_m rfl (up_m rfl (up_m rfl s11_13))))))))))))))))))))
         clear he_16 s10_13 s11_13 s36_13 s3_13 s4_13 s5_13 s8_13 s9_13
         refine then_n ?_
         refine aw_seq ?_
         refine aw_text ?_
         refine al_ro' (ro_move s10_16) trivial rfl ?_
         refine al_ro' (ro_move (up_m rfl s11_16)) trivial rfl ?_
         refine al_ro' (ro_ix_own k17_sl30 mo3_15 (up_m rfl up_h) up_h (by first | decide | omega | (simp <;> omega)) (by first | omega | (simp only [lnS] <;> omega) | (simp <;> omega))) trivial rfl ?_
         refine al_ro' (ro_eq (ro_ld_el k17_ty3 rfl mo3_15 up_h (by first | exact Nat.le_of_ble_eq_true rfl | omega | (simp only [lnS] <;> omega) | (simp <;> omega)) (by first | (refine idx_map ?_; first | omega | (simp only [lnS]; omega)) | (refine idx_mapI ?_; first | omega | (simp only [lnS]; omega)) | (refine idx_mapN ?_; first | omega | (simp only [lnS]; omega)) | rfl)) (by first | (simp only [packA_t, packA_f, iE, bE, setAt, cellsA, Value.cells, map_vc, map_vn, Nat.reduceAdd, qS, rep_iE, set_iE, one_iE, app_m] <;> rfl) | rfl)) trivial rfl ?_
         refine al_ro' (ro_lss up_h ev_c) trivial rfl ?_
         refine al_end (fun e_17 he_17 => ?_)
         have s3_17 : evA e_17 (.tmp 3) = _ := (congrArg (fun q => evA q (.tmp 3)) he_17).trans (up_m rfl (up_m rfl (up_m rfl (up_m rfl (up_m rfl s3_16)))))
         have s4_17 : evA e_17 (.tmp 4) = _ := (congrArg (fun q => evA q (.tmp 4)) he_17).trans (up_m rfl (up_m rfl (up_m rfl (up_m rfl (up_m rfl s4_16)))))
         have s5_17 : evA e_17 (.tmp 5) = _ := (congrArg (fun q => evA q (.tmp 5)) he_17).trans (up_m rfl (up_m rfl (up_m rfl (up_m rfl (up_m rfl s5_16)))))
         have s8_17 : evA e_17 (.tmp 8) = _ := (congrArg (fun q => evA q (.tmp 8)) he_17).trans (up_m rfl (up_m rfl (up_m rfl (up_m rfl (up_m rfl s8_16)))))
         have s9_17 : evA e_17 (.tmp 9) = _ := (congrArg (fun q => evA q (.tmp 9)) he_17).trans (up_m rfl (up_m rfl (up_m rfl (up_m rfl (up_m rfl s9_16)))))
         have s10_17 : evA e_17 (.tmp 10) = _ := (congrArg (fun q => evA q (.tmp 10)) he_17).trans (up_m rfl (up_m rfl (up_m rfl (up_m rfl (up_m rfl s10_16)))))
         have s11_17 : evA e_17 (.tmp 11) = _ := (congrArg (fun q => evA q (.tmp 11)) he_17).trans (up_m rfl (up_m rfl (up_m rfl (up_m rfl (up_m rfl s11_16)))))
         have s62_17 : evA e_17 (.tmp 62) = _ := (congrArg (fun q => evA q (.tmp 62)) he_17).trans up_h
         clear he_17 s10_16 s11_16 s3_16 s4_16 s5_16 s8_16 s9_16
         refine then_n ?_
         refine aw_case s62_17 (fun hq_18 => ?_) (fun hq_18 => ?_)
         · first
           | (cases hq_18; done) | ((first | replace hq_18 := bnt hq_18 | replace hq_18 := bnf hq_18 | replace hq_18 := bt hq_18 | replace hq_18 := bf hq_18 | replace hq_18 := bt' hq_18 | replace hq_18 := bf' hq_18 | skip); exfalso; omega)
           | ((first | replace hq_18 := bnt hq_18 | replace hq_18 := bnf hq_18 | replace hq_18 := bt hq_18 | replace hq_18 := bf hq_18 | replace hq_18 := bt' hq_18 | replace hq_18 := bf' hq_18 | skip)
              (have hneg : min (limW ps i.toNat) (bwD ps b (sqF ps e1) ps.length (ps.length - (i + 1).toNat) + losW b (ps.getD i.toNat default)) < 0 := (by have h := ‹(_ : Int) < 0›; rw [hse] at h; omega); have hno : (fasM ps b e1).getD 0 default = -1 := fasM_none (i := i.toNat) (by omega) (by rw [hstep, if_neg (by omega)]; omega))
              refine aw_seq ?_
              refine aw_text ?_
              refine al_ro' (ro_assign ev_c) trivial rfl ?_
              refine al_ro' (ro_assign ev_c) trivial rfl ?_
              refine al_end (fun e_19 he_19 => ?_)
              have s6_19 : evA e_19 (.tmp 6) = _ := (congrArg (fun q => evA q (.tmp 6)) he_19).trans (up_m rfl up_h)
              have s7_19 : evA e_19 (.tmp 7) = _ := (congrArg (fun q => evA q (.tmp 7)) he_19).trans up_h
              clear he_19 s10_17 s11_17 s3_17 s4_17 s5_17 s62_17 s8_17 s9_17
              refine then_n ?_
              refine aw_ret ?_
              refine block_r ?_
              refine then_r ?_
              refine then_r ?_
              refine block_r ?_
              refine then_r ?_
              refine ret2 (.inr rfl) (by kernel_rfl) (resV_tmp s6_19) (resV_tmp s7_19) (.nil 1) (.ro _ rfl) ?_
              clear s6_19 s7_19 mo3_15 mo2_15 mo1_15 mo0_15 ml_15
              (rw [fasW, if_pos (by omega)]; rfl))
         · first
           | (cases hq_18; done) | ((first | replace hq_18 := bnt hq_18 | replace hq_18 := bnf hq_18 | replace hq_18 := bt hq_18 | replace hq_18 := bf hq_18 | replace hq_18 := bt' hq_18 | replace hq_18 := bf' hq_18 | skip); exfalso; omega)
           | ((first | replace hq_18 := bnt hq_18 | replace hq_18 := bnf hq_18 | replace hq_18 := bt hq_18 | replace hq_18 := bf hq_18 | replace hq_18 := bt' hq_18 | replace hq_18 := bf' hq_18 | skip)
              (have hneg : ¬ min (limW ps i.toNat) (bwD ps b (sqF ps e1) ps.length (ps.length - (i + 1).toNat) + losW b (ps.getD i.toNat default)) < 0 := (by have h := ‹¬ (_ : Int) < 0›; rw [hse] at h; omega); rw [if_neg (by omega)] at hstep)
              refine aw_skip ?_
              refine block_n ?_
              refine then_n ?_
              refine aw_text ?_
              refine al_ro' (ro_move s11_17) trivial rfl ?_
              first | (refine al_ro' (ro_sub' up_h ev_c ?_) trivial rfl ?_; · (unfold In64; omega)) | refine al_ro' (ro_sub up_h ev_c) trivial rfl ?_
              refine al_ro' (ro_assign up_h) trivial rfl ?_
              refine al_end (fun e_20 he_20 => ?_)
              have s3_20 : evA e_20 (.tmp 3) = _ := (congrArg (fun q => evA q (.tmp 3)) he_20).trans (up_m rfl (up_m rfl (up_m rfl s3_17)))
              have s4_20 : evA e_20 (.tmp 4) = _ := (congrArg (fun q => evA q (.tmp 4)) he_20).trans (up_m rfl (up_m rfl (up_m rfl s4_17)))
              have s5_20 : evA e_20 (.tmp 5) = _ := (congrArg (fun q => evA q (.tmp 5)) he_20).trans (up_m rfl (up_m rfl (up_m rfl s5_17)))
              have s8_20 : evA e_20 (.tmp 8) = _ := (congrArg (fun q => evA q (.tmp 8)) he_20).trans (up_m rfl (up_m rfl (up_m rfl s8_17)))
              have s9_20 : evA e_20 (.tmp 9) = _ := (congrArg (fun q => evA q (.tmp 9)) he_20).trans (up_m rfl (up_m rfl (up_m rfl s9_17)))
              have s10_20 : evA e_20 (.tmp 10) = _ := (congrArg (fun q => evA q (.tmp 10)) he_20).trans (up_m rfl (up_m rfl (up_m rfl s10_17)))
              have s11_20 : evA e_20 (.tmp 11) = _ := (congrArg (fun q => evA q (.tmp 11)) he_20).trans up_h
              clear he_20 s10_17 s11_17 s3_17 s4_17 s5_17 s62_17 s8_17 s9_17
              refine then_n ?_
              refine ⟨⟨_, _⟩, ⟨s11_20, (s3_20.trans s3_11.symm), (s4_20.trans s4_11.symm), (s5_20.trans s5_11.symm), (s8_20.trans s8_11.symm), (s9_20.trans s9_11.symm), (s10_20.trans s10_11.symm), mo3_15, (mo2_15.trans mo2_9.symm), (mo1_15.trans mo1_9.symm), (mo0_15.trans mo0_9.symm), ml_15, ?_⟩, ?_⟩
              · (refine ⟨by omega, by omega, by simp; omega, fun j hj hj2 => ?_⟩; by_cases hji : j = i.toNat; (rw [hji, hstep, getD_se (by omega)]; omega); (rw [getD_sn (by omega)]; exact p4 j (by omega) hj2))
              · ((try dsimp only); omega)))
    · first
      | (cases hq_14; done) | ((first | replace hq_14 := bnt hq_14 | replace hq_14 := bnf hq_14 | replace hq_14 := bt hq_14 | replace hq_14 := bf hq_14 | replace hq_14 := bt' hq_14 | replace hq_14 := bf' hq_14 | skip); exfalso; omega)
      | ((first | replace hq_14 := bnt hq_14 | replace hq_14 := bnf hq_14 | replace hq_14 := bt hq_14 | replace hq_14 := bf hq_14 | replace hq_14 := bt' hq_14 | replace hq_14 := bf' hq_14 | skip)
         (obtain ⟨p1, p2, p3, p4⟩ := hinv; have hxs : xs = fasM ps b e1 := list_eq p3 (fun j hj => (p4 j (by omega) (by omega)).1); have hml : (fasM ps b e1).length = ps.length + 1 := bwL_len _ _ _ _)
         refine aw_exit ?_
         refine then_x ?_
         refine then_x ?_
         refine block_hit ?_
         refine then_n ?_
         refine aw_seq ?_
         refine aw_seq ?_
         refine aw_draw 6 (by kernel_rfl) (by kernel_rfl) (by kernel_rfl) ?_
         refine ds_ro' (ro_ixa k17_ar27 s5_13 ev_c rfl) trivial rfl ?_
         refine ds_ro' (ro_eq (ro_ld_ptr k17_ty3 rfl mo2_12 up_h (by first | exact Nat.le_of_ble_eq_true rfl | omega | (simp only [lnS] <;> omega) | (simp <;> omega))) (by first | (simp only [packA_t, packA_f, iE, bE, setAt, cellsA, Value.cells, map_vc, map_vn, Nat.reduceAdd, qS, rep_iE, set_iE, one_iE, app_m] <;> rfl) | rfl)) trivial rfl ?_
         refine ds_ro' (ro_move (up_m rfl (up_m rfl s10_13))) trivial rfl ?_
         refine ds_ro' (ro_ix_own k17_sl30 mo3_12 up_h ev_c (by first | decide | omega | (simp <;> omega)) (by first | omega | (simp only [lnS] <;> omega) | (simp <;> omega))) trivial rfl ?_
         refine ds_ro' (ro_eq (ro_ld_el k17_ty3 rfl mo3_12 up_h (by first | exact Nat.le_of_ble_eq_true rfl | omega | (simp only [lnS] <;> omega) | (simp <;> omega)) (by first | (refine idx_map ?_; first | omega | (simp only [lnS]; omega)) | (refine idx_mapI ?_; first | omega | (simp only [lnS]; omega)) | (refine idx_mapN ?_; first | omega | (simp only [lnS]; omega)) | rfl)) (by first | (simp only [packA_t, packA_f, iE, bE, setAt, cellsA, Value.cells, map_vc, map_vn, Nat.reduceAdd, qS, rep_iE, set_iE, one_iE, app_m] <;> rfl) | rfl)) trivial rfl ?_
         refine ds_ro' (ro_gtr (up_m rfl (up_m rfl (up_m rfl up_h))) up_h) trivial rfl ?_
         refine ds_nil ?_
         refine al_end (fun e_21 he_21 => ?_)
         have s3_21 : evA e_21 (.tmp 3) = _ := (congrArg (fun q => evA q (.tmp 3)) he_21).trans (up_m rfl (up_m rfl (up_m rfl (up_m rfl (up_m rfl (up_m rfl s3_13))))))
         have s4_21 : evA e_21 (.tmp 4) = _ := (congrArg (fun q => evA q (.tmp 4)) he_21).trans (up_m rfl (up_m rfl (up_m rfl (up_m rfl (up_m rfl (up_m rfl s4_13))))))
         have s5_21 : evA e_21 (.tmp 5) = _ := (congrArg (fun q => evA q (.tmp 5)) he_21).trans (up_m rfl (up_m rfl (up_m rfl (up_m rfl (up_m rfl (up_m rfl s5_13))))))
         have s9_21 : evA e_21 (.tmp 9) = _ := (congrArg (fun q => evA q (.tmp 9)) he_21).trans (up_m rfl (up_m rfl (up_m rfl (up_m rfl (up_m rfl (up_m rfl s9_13))))))
         have s10_21 : evA e_21 (.tmp 10) = _ := (congrArg (fun q => evA q (.tmp 10)) he_21).trans (up_m rfl (up_m rfl (up_m rfl (up_m rfl (up_m rfl (up_m rfl s10_13))))))
         have s68_21 : evA e_21 (.tmp 68) = _ := (congrArg (fun q => evA q (.tmp 68)) he_21).trans up_h
         clear he_21 s10_13 s11_13 s36_13 s3_13 s4_13 s5_13 s8_13 s9_13
         refine then_n ?_
         refine aw_case s68_21 (fun hq_22 => ?_) (fun hq_22 => ?_)
         · first
           | (cases hq_22; done) | ((first | replace hq_22 := bnt hq_22 | replace hq_22 := bnf hq_22 | replace hq_22 := bt hq_22 | replace hq_22 := bf hq_22 | replace hq_22 := bt' hq_22 | replace hq_22 := bf' hq_22 | skip); exfalso; omega)
           | ((first | replace hq_22 := bnt hq_22 | replace hq_22 := bnf hq_22 | replace hq_22 := bt hq_22 | replace hq_22 := bf hq_22 | replace hq_22 := bt' hq_22 | replace hq_22 := bf' hq_22 | skip)
              (have hc : (fasM ps b e1).getD 0 default < e0 := (by rw [← hxs]; first | assumption | omega))
              refine aw_seq ?_
              refine aw_text ?_
              refine al_ro' (ro_assign ev_c) trivial rfl ?_
              refine al_ro' (ro_assign ev_c) trivial rfl ?_
              refine al_end (fun e_23 he_23 => ?_)
              have s6_23 : evA e_23 (.tmp 6) = _ := (congrArg (fun q => evA q (.tmp 6)) he_23).trans (up_m rfl up_h)
              have s7_23 : evA e_23 (.tmp 7) = _ := (congrArg (fun q => evA q (.tmp 7)) he_23).trans up_h
              clear he_23 s10_21 s3_21 s4_21 s5_21 s68_21 s9_21
              refine then_n ?_
              refine aw_ret ?_
              refine then_r ?_
              refine ret2 (.inr rfl) (by kernel_rfl) (resV_tmp s6_23) (resV_tmp s7_23) (.nil 1) (.ro _ rfl) ?_
              clear s6_23 s7_23 mo3_12 mo2_12 mo1_12 mo0_12 ml_12
              (rw [fasW, if_pos hc]; rfl))
         · first
           | (cases hq_22; done) | ((first | replace hq_22 := bnt hq_22 | replace hq_22 := bnf hq_22 | replace hq_22 := bt hq_22 | replace hq_22 := bf hq_22 | replace hq_22 := bt' hq_22 | replace hq_22 := bf' hq_22 | skip); exfalso; omega)
           | ((first | replace hq_22 := bnt hq_22 | replace hq_22 := bnf hq_22 | replace hq_22 := bt hq_22 | replace hq_22 := bf hq_22 | replace hq_22 := bt' hq_22 | replace hq_22 := bf' hq_22 | skip)
              (have hc : ¬ (fasM ps b e1).getD 0 default < e0 := (by rw [← hxs]; first | assumption | omega))
              refine aw_skip ?_
              refine then_n ?_
              refine aw_seq ?_
              refine aw_text ?_
              refine al_ro' (ro_ixa k17_ar27 s5_21 ev_c rfl) trivial rfl ?_
              refine al_ro' (ro_eq (ro_ld_ptr k17_ty3 rfl mo2_12 up_h (by first | exact Nat.le_of_ble_eq_true rfl | omega | (simp only [lnS] <;> omega) | (simp <;> omega))) (by first | (simp only [packA_t, packA_f, iE, bE, setAt, cellsA, Value.cells, map_vc, map_vn, Nat.reduceAdd, qS, rep_iE, set_iE, one_iE, app_m] <;> rfl) | rfl)) trivial rfl ?_
              refine al_stm (st_lit k17_sl30 ml_12 (evP_cons up_h evP_nil) rfl rfl rfl rfl) trivial rfl (fun m_24 hm_24 => ?_)
              have mo4_24 := m_push hm_24 ml_12
              (try simp only [packA_t, packA_f, iE, bE, setAt, cellsA, Value.cells, map_vc, map_vn, Nat.reduceAdd, qS, rep_iE, set_iE, one_iE, app_m] at mo4_24)
              have mo3_24 := m_push_o hm_24 mo3_12
              have mo2_24 := m_push_o hm_24 mo2_12
              have mo1_24 := m_push_o hm_24 mo1_12
              have mo0_24 := m_push_o hm_24 mo0_12
              have ml_24 := m_push_l hm_24 ml_12
              have ml_24 : _ = 5 := ml_24
              clear hm_24 mo3_12 mo2_12 mo1_12 mo0_12
              refine al_ro' (ro_assign up_h) trivial rfl ?_
              refine al_end (fun e_25 he_25 => ?_)
              have s3_25 : evA e_25 (.tmp 3) = _ := (congrArg (fun q => evA q (.tmp 3)) he_25).trans (up_m rfl (up_m rfl (up_m rfl (up_m rfl s3_21))))
              have s4_25 : evA e_25 (.tmp 4) = _ := (congrArg (fun q => evA q (.tmp 4)) he_25).trans (up_m rfl (up_m rfl (up_m rfl (up_m rfl s4_21))))
              have s9_25 : evA e_25 (.tmp 9) = _ := (congrArg (fun q => evA q (.tmp 9)) he_25).trans (up_m rfl (up_m rfl (up_m rfl (up_m rfl s9_21))))
              have s10_25 : evA e_25 (.tmp 10) = _ := (congrArg (fun q => evA q (.tmp 10)) he_25).trans (up_m rfl (up_m rfl (up_m rfl (up_m rfl s10_21))))
              have s12_25 : evA e_25 (.tmp 12) = _ := (congrArg (fun q => evA q (.tmp 12)) he_25).trans up_h
              clear he_25 s10_21 s3_21 s4_21 s5_21 s68_21 s9_21
              refine then_n ?_
              refine aw_seq ?_
              refine aw_seq ?_
              refine aw_text ?_
              refine al_ro' (ro_assign ev_c) trivial rfl ?_
              refine al_end (fun e_26 he_26 => ?_)
              have s3_26 : evA e_26 (.tmp 3) = _ := (congrArg (fun q => evA q (.tmp 3)) he_26).trans (up_m rfl s3_25)
              have s4_26 : evA e_26 (.tmp 4) = _ := (congrArg (fun q => evA q (.tmp 4)) he_26).trans (up_m rfl s4_25)
              have s9_26 : evA e_26 (.tmp 9) = _ := (congrArg (fun q => evA q (.tmp 9)) he_26).trans (up_m rfl s9_25)
              have s10_26 : evA e_26 (.tmp 10) = _ := (congrArg (fun q => evA q (.tmp 10)) he_26).trans (up_m rfl s10_25)
              have s12_26 : evA e_26 (.tmp 12) = _ := (congrArg (fun q => evA q (.tmp 12)) he_26).trans (up_m rfl s12_25)
              have s13_26 : evA e_26 (.tmp 13) = _ := (congrArg (fun q => evA q (.tmp 13)) he_26).trans up_h
              clear he_26 s10_25 s12_25 s3_25 s4_25 s9_25
              refine then_n ?_
              refine aw_block ?_
              refine aw_loop (S := (Int × List Int)) (fun s e mem => match s with | ⟨i, ys⟩ => (evA e (.tmp 13) = .v (.int .i64 i)) ∧ (evA e (.tmp 3) = evA e_26 (.tmp 3)) ∧ (evA e (.tmp 4) = evA e_26 (.tmp 4)) ∧ (evA e (.tmp 9) = evA e_26 (.tmp 9)) ∧ (evA e (.tmp 10) = evA e_26 (.tmp 10)) ∧ (mem[3]? = m_24[3]?) ∧ (mem[2]? = m_24[2]?) ∧ (mem[1]? = m_24[1]?) ∧ (mem[0]? = m_24[0]?) ∧ (∃ j, evA e (.tmp 12) = .own j ∧ mem[j]? = some (.row 3 1 (ys.map iE)) ∧ j ≠ 3 ∧ j ≠ 2 ∧ j ≠ 1 ∧ j ≠ 0) ∧ (∃ n, mem.length = n ∧ 5 ≤ n) ∧ ((0 ≤ i ∧ i ≤ ps.length ∧ goL (fasF ps b v e1) e0 i.toNat = some ys ∧ 0 ≤ ys.getD i.toNat default ∧ ys.getD i.toNat default ≤ 20000000000))) (fun s => match s with | ⟨i, ys⟩ => (ps.length - i).toNat) ⟨_, [e0]⟩ ⟨s13_26, rfl, rfl, rfl, rfl, rfl, rfl, rfl, rfl, ⟨_, s12_26, mo4_24, (by decide), (by decide), (by decide), (by decide)⟩, ⟨_, ml_24, Nat.le_refl _⟩, ?_⟩ ?_
              · (refine ⟨by omega, by omega, rfl, he0⟩)
              · rintro ⟨i, ys⟩ e_27 m_27 ⟨s13_27, k3_27, k4_27, k9_27, k10_27, mk3_27, mk2_27, mk1_27, mk0_27, ⟨j12_27, s12_27, mo_j12_27, nj12_3_27, nj12_2_27, nj12_1_27, nj12_0_27⟩, ⟨n_27, ml_27, hn_27⟩, hinv⟩
                have s3_27 := k3_27.trans s3_26
                have s4_27 := k4_27.trans s4_26
                have s9_27 := k9_27.trans s9_26
                have s10_27 := k10_27.trans s10_26
                have mo3_27 := mk3_27.trans mo3_24
                have mo2_27 := mk2_27.trans mo2_24
                have mo1_27 := mk1_27.trans mo1_24
                have mo0_27 := mk0_27.trans mo0_24
                have jl12_27 := m_lt mo_j12_27 ml_27
                (obtain ⟨g1, g2, g3, g4, g5⟩ := hinv; have hl := goL_len g3; have hpa := q1.at i.toNat; have hlos := los_bound (dec := -v) (p := ps.getD i.toNat default) (by omega) hpa.1 hpa.2.1; have hcb := bwL_bound q1 (b := b) (sq := sqF ps e1) (by unfold sqF; omega) ps.length (i + 1).toNat; have hcb2 : -1 ≤ xs.getD (i + 1).toNat default ∧ xs.getD (i + 1).toNat default ≤ 20000000000 := (by rw [hxs]; exact hcb); have hf : ∀ x, fasF ps b v e1 i.toNat x = min (xs.getD (i + 1).toNat default) (x - losW (-v) (ps.getD i.toNat default)) := (fun x => by unfold fasF; rw [hxs, show i.toNat + 1 = (i + 1).toNat by omega]; omega))
                refine aw_seq ?_
                refine aw_seq ?_
                refine aw_text ?_
                refine al_ro' (ro_move s13_27) trivial rfl ?_
                refine al_ro' (ro_move (up_m rfl s9_27)) trivial rfl ?_
                refine al_ro' (ro_lss (up_m rfl up_h) up_h) trivial rfl ?_
                refine al_end (fun e_28 he_28 => ?_)
                have s3_28 : evA e_28 (.tmp 3) = _ := (congrArg (fun q => evA q (.tmp 3)) he_28).trans (up_m rfl (up_m rfl (up_m rfl s3_27)))
                have s4_28 : evA e_28 (.tmp 4) = _ := (congrArg (fun q => evA q (.tmp 4)) he_28).trans (up_m rfl (up_m rfl (up_m rfl s4_27)))
                have s9_28 : evA e_28 (.tmp 9) = _ := (congrArg (fun q => evA q (.tmp 9)) he_28).trans (up_m rfl (up_m rfl (up_m rfl s9_27)))
                have s10_28 : evA e_28 (.tmp 10) = _ := (congrArg (fun q => evA q (.tmp 10)) he_28).trans (up_m rfl (up_m rfl (up_m rfl s10_27)))
                have s12_28 : evA e_28 (.tmp 12) = _ := (congrArg (fun q => evA q (.tmp 12)) he_28).trans (up_m rfl (up_m rfl (up_m rfl s12_27)))
                have s13_28 : evA e_28 (.tmp 13) = _ := (congrArg (fun q => evA q (.tmp 13)) he_28).trans (up_m rfl (up_m rfl (up_m rfl s13_27)))
                have s74_28 : evA e_28 (.tmp 74) = _ := (congrArg (fun q => evA q (.tmp 74)) he_28).trans up_h
                clear he_28 s10_27 s12_27 s13_27 s3_27 s4_27 s9_27
                refine then_n ?_
                refine aw_case s74_28 (fun hq_29 => ?_) (fun hq_29 => ?_)
                · first
                  | (cases hq_29; done) | ((first | replace hq_29 := bnt hq_29 | replace hq_29 := bnf hq_29 | replace hq_29 := bt hq_29 | replace hq_29 := bf hq_29 | replace hq_29 := bt' hq_29 | replace hq_29 := bf' hq_29 | skip); exfalso; omega)
                  | ((first | replace hq_29 := bnt hq_29 | replace hq_29 := bnf hq_29 | replace hq_29 := bt hq_29 | replace hq_29 := bf hq_29 | replace hq_29 := bt' hq_29 | replace hq_29 := bf' hq_29 | skip)
                     refine aw_skip ?_
                     refine then_n ?_
                     refine aw_seq ?_
                     refine aw_block ?_
                     refine aw_seq ?_
                     refine aw_draw 18 (by kernel_rfl) (by kernel_rfl) (by kernel_rfl) ?_
                     refine ds_ro' (ro_move s10_28) trivial rfl ?_
                     refine ds_ro' (ro_move (up_m rfl s13_28)) trivial rfl ?_
                     first | (refine ds_ro' (ro_add' up_h ev_c ?_) trivial rfl ?_; · (unfold In64; omega)) | refine ds_ro' (ro_add up_h ev_c) trivial rfl ?_
                     refine ds_ro' (ro_ix_own k17_sl30 mo3_27 (up_m rfl (up_m rfl up_h)) up_h (by first | decide | omega | (simp <;> omega)) (by first | omega | (simp only [lnS] <;> omega) | (simp <;> omega))) trivial rfl ?_
                     refine ds_ro' (ro_eq (ro_ld_el k17_ty3 rfl mo3_27 up_h (by first | exact Nat.le_of_ble_eq_true rfl | omega | (simp only [lnS] <;> omega) | (simp <;> omega)) (by first | (refine idx_map ?_; first | omega | (simp only [lnS]; omega)) | (refine idx_mapI ?_; first | omega | (simp only [lnS]; omega)) | (refine idx_mapN ?_; first | omega | (simp only [lnS]; omega)) | rfl)) (by first | (simp only [packA_t, packA_f, iE, bE, setAt, cellsA, Value.cells, map_vc, map_vn, Nat.reduceAdd, qS, rep_iE, set_iE, one_iE, app_m] <;> rfl) | rfl)) trivial rfl ?_
                     refine ds_ro' (ro_move (up_m rfl (up_m rfl (up_m rfl (up_m rfl (up_m rfl s12_28)))))) trivial rfl ?_
                     refine ds_ro' (ro_move (up_m rfl (up_m rfl (up_m rfl (up_m rfl (up_m rfl (up_m rfl s13_28))))))) trivial rfl ?_
                     refine ds_ro' (ro_ix_own k17_sl30 mo_j12_27 (up_m rfl up_h) up_h (by first | decide | omega | (simp <;> omega)) (by first | omega | (simp only [lnS] <;> omega) | (simp <;> omega))) trivial rfl ?_
                     refine ds_ro' (ro_eq (ro_ld_el k17_ty3 rfl mo_j12_27 up_h (by first | exact Nat.le_of_ble_eq_true rfl | omega | (simp only [lnS] <;> omega) | (simp <;> omega)) (by first | (refine idx_map ?_; first | omega | (simp only [lnS]; omega)) | (refine idx_mapI ?_; first | omega | (simp only [lnS]; omega)) | (refine idx_mapN ?_; first | omega | (simp only [lnS]; omega)) | rfl)) (by first | (simp only [packA_t, packA_f, iE, bE, setAt, cellsA, Value.cells, map_vc, map_vn, Nat.reduceAdd, qS, rep_iE, set_iE, one_iE, app_m] <;> rfl) | rfl)) trivial rfl ?_
                     refine ds_ro' (ro_eq (ro_ld_ptr k17_ty24 rfl mo0_27 (up_m rfl (up_m rfl (up_m rfl (up_m rfl (up_m rfl (up_m rfl (up_m rfl (up_m rfl (up_m rfl s3_28))))))))) (by first | exact Nat.le_of_ble_eq_true rfl | omega | (simp only [lnS] <;> omega) | (simp <;> omega))) (by first | (simp only [packA_t, packA_f, iE, bE, setAt, cellsA, Value.cells, map_vc, map_vn, Nat.reduceAdd, qS, rep_iE, set_iE, one_iE, app_m] <;> rfl) | rfl)) trivial rfl ?_
                     refine ds_ro' (ro_move (up_m rfl (up_m rfl (up_m rfl (up_m rfl (up_m rfl (up_m rfl (up_m rfl (up_m rfl (up_m rfl (up_m rfl s13_28))))))))))) trivial rfl ?_
                     refine ds_ro' (ro_fld_ptr k17_fl26_2 rfl (up_m rfl (up_m rfl (up_m rfl (up_m rfl (up_m rfl (up_m rfl (up_m rfl (up_m rfl (up_m rfl (up_m rfl (up_m rfl s4_28)))))))))))) trivial rfl ?_
                     refine ds_ro' (ro_eq (ro_ld_ptr k17_ty3 rfl mo1_27 up_h (by first | exact Nat.le_of_ble_eq_true rfl | omega | (simp only [lnS] <;> omega) | (simp <;> omega))) (by first | (simp only [packA_t, packA_f, iE, bE, setAt, cellsA, Value.cells, map_vc, map_vn, Nat.reduceAdd, qS, rep_iE, set_iE, one_iE, app_m] <;> rfl) | rfl)) trivial rfl ?_
                     first | (refine ds_ro' (ro_neg' up_h ?_) trivial rfl ?_; · (unfold In64; omega)) | refine ds_ro' (ro_neg up_h) trivial rfl ?_
                     refine ds_ro' (ro_call (evL_cons (up_m rfl (up_m rfl (up_m rfl (up_m rfl up_h)))) (evL_cons (up_m rfl (up_m rfl (up_m rfl up_h))) (evL_cons up_h evL_nil))) rfl (rloses_ok nm ps q1 i (by omega) (by omega) (-v) (by omega)) k17_hcf70) trivial rfl ?_
                     first | (refine ds_ro' (ro_sub' (up_m rfl (up_m rfl (up_m rfl (up_m rfl (up_m rfl (up_m rfl up_h)))))) up_h ?_) trivial rfl ?_; · (unfold In64; omega)) | refine ds_ro' (ro_sub (up_m rfl (up_m rfl (up_m rfl (up_m rfl (up_m rfl (up_m rfl up_h)))))) up_h) trivial rfl ?_
                     refine ds_ro' (ro_min (up_m rfl (up_m rfl (up_m rfl (up_m rfl (up_m rfl (up_m rfl (up_m rfl (up_m rfl (up_m rfl (up_m rfl (up_m rfl up_h))))))))))) up_h) trivial rfl ?_
                     refine ds_ro' (ro_assign up_h) trivial rfl ?_
                     refine ds_nil ?_
                     refine al_end (fun e_30 he_30 => ?_)
                     have s3_30 : evA e_30 (.tmp 3) = _ := (congrArg (fun q => evA q (.tmp 3)) he_30).trans (up_m rfl (up_m rfl (up_m rfl (up_m rfl (up_m rfl (up_m rfl (up_m rfl (up_m rfl (up_m rfl (up_m rfl (up_m rfl (up_m rfl (up_m rfl (up_m rfl (up_m rfl (up_m rfl (up_m rfl (up_m rfl s3_28))))))))))))))))))
                     have s4_30 : evA e_30 (.tmp 4) = _ := (congrArg (fun q => evA q (.tmp 4)) he_30).trans (up_m rfl (up_m rfl (up_m rfl (up_m rfl (up_m rfl (up_m rfl (up_m rfl (up_m rfl (up_m rfl (up_m rfl (up_m rfl (up_m rfl (up_m rfl (up_m rfl (up_m rfl (up_m rfl (up_m rfl (up_m rfl s4_28))))))))))))))))))
                     have s9_30 : evA e_30 (.tmp 9) = _ := (congrArg (fun q => evA q (.tmp 9)) he_30).trans (up_m rfl (up_m rfl (up_m rfl (up_m rfl (up_m rfl (up_m rfl (up_m rfl (up_m rfl (up_m rfl (up_m rfl (up_m rfl (up_m rfl (up_m rfl (up_m rfl (up_m rfl (up_m rfl (up_m rfl (up_m rfl s9_28))))))))))))))))))
                     have s10_30 : evA e_30 (.tmp 10) = _ := (congrArg (fun q => evA q (.tmp 10)) he_30).trans (up_m rfl (up_m rfl (up_m rfl (up_m rfl (up_m rfl (up_m rfl (up_m rfl (up_m rfl (up_m rfl (up_m rfl (up_m rfl (up_m rfl (up_m rfl (up_m rfl (up_m rfl (up_m rfl (up_m rfl (up_m rfl s10_28))))))))))))))))))
                     have s12_30 : evA e_30 (.tmp 12) = _ := (congrArg (fun q => evA q (.tmp 12)) he_30).trans (up_m rfl (up_m rfl (up_m rfl (up_m rfl (up_m rfl (up_m rfl (up_m rfl (up_m rfl (up_m rfl (up_m rfl (up_m rfl (up_m rfl (up_m rfl (up_m rfl (up_m rfl (up_m rfl (up_m rfl (up_m rfl s12_28))))))))))))))))))
                     have s13_30 : evA e_30 (.tmp 13) = _ := (congrArg (fun q => evA q (.tmp 13)) he_30).trans (up_m rfl (up_m rfl (up_m rfl (up_m rfl (up_m rfl (up_m rfl (up_m rfl (up_m rfl (up_m rfl (up_m rfl (up_m rfl (up_m rfl (up_m rfl (up_m rfl (up_m rfl (up_m rfl (up_m rfl (up_m rfl s13_28))))))))))))))))))
                     have s14_30 : evA e_30 (.tmp 14) = _ := (congrArg (fun q => evA q (.tmp 14)) he_30).trans up_h
                     clear he_30 s10_28 s12_28 s13_28 s3_28 s4_28 s74_28 s9_28
                     refine then_n ?_
                     refine aw_seq ?_
                     refine aw_seq ?_
                     refine aw_text ?_
                     refine al_ro' (ro_move s14_30) trivial rfl ?_
                     refine al_ro' (ro_lss up_h ev_c) trivial rfl ?_
                     refine al_end (fun e_31 he_31 => ?_)
                     have s3_31 : evA e_31 (.tmp 3) = _ := (congrArg (fun q => evA q (.tmp 3)) he_31).trans (up_m rfl (up_m rfl s3_30))
                     have s4_31 : evA e_31 (.tmp 4) = _ := (congrArg (fun q => evA q (.tmp 4)) he_31).trans (up_m rfl (up_m rfl s4_30))
                     have s9_31 : evA e_31 (.tmp 9) = _ := (congrArg (fun q => evA q (.tmp 9)) he_31).trans (up_m rfl (up_m rfl s9_30))
                     have s10_31 : evA e_31 (.tmp 10) = _ := (congrArg (fun q => evA q (.tmp 10)) he_31).trans (up_m rfl (up_m rfl s10_30))
                     have s12_31 : evA e_31 (.tmp 12) = _ := (congrArg (fun q => evA q (.tmp 12)) he_31).trans (up_m rfl (up_m rfl s12_30))
                     have s13_31 : evA e_31 (.tmp 13) = _ := (congrArg (fun q => evA q (.tmp 13)) he_31).trans (up_m rfl (up_m rfl s13_30))
                     have s14_31 : evA e_31 (.tmp 14) = _ := (congrArg (fun q => evA q (.tmp 14)) he_31).trans (up_m rfl (up_m rfl s14_30))
                     have s95_31 : evA e_31 (.tmp 95) = _ := (congrArg (fun q => evA q (.tmp 95)) he_31).trans up_h
                     clear he_31 s10_30 s12_30 s13_30 s14_30 s3_30 s4_30 s9_30
                     refine then_n ?_
                     refine aw_case s95_31 (fun hq_32 => ?_) (fun hq_32 => ?_)
                     · first
                       | (cases hq_32; done) | ((first | replace hq_32 := bnt hq_32 | replace hq_32 := bnf hq_32 | replace hq_32 := bt hq_32 | replace hq_32 := bf hq_32 | replace hq_32 := bt' hq_32 | replace hq_32 := bf' hq_32 | skip); exfalso; omega)
                       | ((first | replace hq_32 := bnt hq_32 | replace hq_32 := bnf hq_32 | replace hq_32 := bt hq_32 | replace hq_32 := bf hq_32 | replace hq_32 := bt' hq_32 | replace hq_32 := bf' hq_32 | skip)
                          refine aw_seq ?_
                          refine aw_text ?_
                          refine al_ro' (ro_assign ev_c) trivial rfl ?_
                          refine al_ro' (ro_assign ev_c) trivial rfl ?_
                          refine al_end (fun e_33 he_33 => ?_)
                          have s6_33 : evA e_33 (.tmp 6) = _ := (congrArg (fun q => evA q (.tmp 6)) he_33).trans (up_m rfl up_h)
                          have s7_33 : evA e_33 (.tmp 7) = _ := (congrArg (fun q => evA q (.tmp 7)) he_33).trans up_h
                          clear he_33 s10_31 s12_31 s13_31 s14_31 s3_31 s4_31 s95_31 s9_31
                          refine then_n ?_
                          refine aw_ret ?_
                          refine then_r ?_
                          refine block_r ?_
                          refine then_r ?_
                          refine then_r ?_
                          refine block_r ?_
                          refine then_r ?_
                          refine ret2 (.inr rfl) (by kernel_rfl) (resV_tmp s6_33) (resV_tmp s7_33) (.nil 1) (.ro _ rfl) ?_
                          clear s6_33 s7_33 mo3_27 mo2_27 mo1_27 mo0_27 mo_j12_27 ml_27
                          (have hn := ‹min _ _ < (0 : Int)›; rw [fasW, if_neg hc, goL_stop (n := ps.length) g3 (by omega) (by rw [hf]; exact hn)]; rfl))
                     · first
                       | (cases hq_32; done) | ((first | replace hq_32 := bnt hq_32 | replace hq_32 := bnf hq_32 | replace hq_32 := bt hq_32 | replace hq_32 := bf hq_32 | replace hq_32 := bt' hq_32 | replace hq_32 := bf' hq_32 | skip); exfalso; omega)
                       | ((first | replace hq_32 := bnt hq_32 | replace hq_32 := bnf hq_32 | replace hq_32 := bt hq_32 | replace hq_32 := bf hq_32 | replace hq_32 := bt' hq_32 | replace hq_32 := bf' hq_32 | skip)
                          (have hn := ‹¬ (min _ _ < (0 : Int))›)
                          refine aw_skip ?_
                          refine then_n ?_
                          refine aw_text ?_
                          refine al_ro' (ro_move s12_31) trivial rfl ?_
                          refine al_ro' (ro_move (up_m rfl s14_31)) trivial rfl ?_
                          refine al_ro' (ro_lit k17_sl30 (evP_cons up_h evP_nil) rfl rfl rfl rfl) trivial rfl ?_
                          refine al_stm (st_app k17_sl30 rfl ml_27 mo_j12_27 (up_m rfl (up_m rfl up_h)) up_h (by first | rfl | (simp [oneA]; done)) (by first | omega | (simp only [lnS] <;> omega) | (simp <;> omega))) trivial rfl (fun m_34 hm_34 => ?_)
                          have mon_27_34 := m_swap hm_34 ml_27
                          (try simp only [packA_t, packA_f, iE, bE, setAt, cellsA, Value.cells, map_vc, map_vn, Nat.reduceAdd, qS, rep_iE, set_iE, one_iE, app_m] at mon_27_34)
                          have mo3_34 := m_swap_o hm_34 mo3_27 (by omega)
                          have mo2_34 := m_swap_o hm_34 mo2_27 (by omega)
                          have mo1_34 := m_swap_o hm_34 mo1_27 (by omega)
                          have mo0_34 := m_swap_o hm_34 mo0_27 (by omega)
                          have ml_34 := m_swap_l hm_34 ml_27
                          clear hm_34 mo3_27 mo2_27 mo1_27 mo0_27 mo_j12_27
                          refine al_ro' (ro_assign up_h) trivial rfl ?_
                          refine al_end (fun e_35 he_35 => ?_)
                          have s3_35 : evA e_35 (.tmp 3) = _ := (congrArg (fun q => evA q (.tmp 3)) he_35).trans (up_m rfl (up_m rfl (up_m rfl (up_m rfl (up_m rfl s3_31)))))
                          have s4_35 : evA e_35 (.tmp 4) = _ := (congrArg (fun q => evA q (.tmp 4)) he_35).trans (up_m rfl (up_m rfl (up_m rfl (up_m rfl (up_m rfl s4_31)))))
                          have s9_35 : evA e_35 (.tmp 9) = _ := (congrArg (fun q => evA q (.tmp 9)) he_35).trans (up_m rfl (up_m rfl (up_m rfl (up_m rfl (up_m rfl s9_31)))))
                          have s10_35 : evA e_35 (.tmp 10) = _ := (congrArg (fun q => evA q (.tmp 10)) he_35).trans (up_m rfl (up_m rfl (up_m rfl (up_m rfl (up_m rfl s10_31)))))
                          have s12_35 : evA e_35 (.tmp 12) = _ := (congrArg (fun q => evA q (.tmp 12)) he_35).trans up_h
                          have s13_35 : evA e_35 (.tmp 13) = _ := (congrArg (fun q => evA q (.tmp 13)) he_35).trans (up_m rfl (up_m rfl (up_m rfl (up_m rfl (up_m rfl s13_31)))))
                          clear he_35 s10_31 s12_31 s13_31 s14_31 s3_31 s4_31 s95_31 s9_31
                          refine block_n ?_
                          refine then_n ?_
                          refine aw_text ?_
                          refine al_ro' (ro_move s13_35) trivial rfl ?_
                          first | (refine al_ro' (ro_add' up_h ev_c ?_) trivial rfl ?_; · (unfold In64; omega)) | refine al_ro' (ro_add up_h ev_c) trivial rfl ?_
                          refine al_ro' (ro_assign up_h) trivial rfl ?_
                          refine al_end (fun e_36 he_36 => ?_)
                          have s3_36 : evA e_36 (.tmp 3) = _ := (congrArg (fun q => evA q (.tmp 3)) he_36).trans (up_m rfl (up_m rfl (up_m rfl s3_35)))
                          have s4_36 : evA e_36 (.tmp 4) = _ := (congrArg (fun q => evA q (.tmp 4)) he_36).trans (up_m rfl (up_m rfl (up_m rfl s4_35)))
                          have s9_36 : evA e_36 (.tmp 9) = _ := (congrArg (fun q => evA q (.tmp 9)) he_36).trans (up_m rfl (up_m rfl (up_m rfl s9_35)))
                          have s10_36 : evA e_36 (.tmp 10) = _ := (congrArg (fun q => evA q (.tmp 10)) he_36).trans (up_m rfl (up_m rfl (up_m rfl s10_35)))
                          have s12_36 : evA e_36 (.tmp 12) = _ := (congrArg (fun q => evA q (.tmp 12)) he_36).trans (up_m rfl (up_m rfl (up_m rfl s12_35)))
                          have s13_36 : evA e_36 (.tmp 13) = _ := (congrArg (fun q => evA q (.tmp 13)) he_36).trans up_h
                          clear he_36 s10_35 s12_35 s13_35 s3_35 s4_35 s9_35
                          refine then_n ?_
                          refine ⟨⟨_, _⟩, ⟨s13_36, (s3_36.trans s3_26.symm), (s4_36.trans s4_26.symm), (s9_36.trans s9_26.symm), (s10_36.trans s10_26.symm), (mo3_34.trans mo3_24.symm), (mo2_34.trans mo2_24.symm), (mo1_34.trans mo1_24.symm), (mo0_34.trans mo0_24.symm), ⟨_, s12_36, mon_27_34, (by omega), (by omega), (by omega), (by omega)⟩, ⟨_, ml_34, by omega⟩, ?_⟩, ?_⟩
                          · (have hst := goL_step g3 (by rw [hf]; exact hn); rw [hf] at hst; refine ⟨by omega, by omega, ?_, ?_⟩; (rw [show (i + 1).toNat = i.toNat + 1 by omega] at hst ⊢; exact hst); (rw [show (i + 1).toNat = i.toNat + 1 by omega] at hn hcb2 ⊢; rw [getD_snoc (by omega)]; constructor; exact Int.not_lt.1 hn; omega))
                          · ((try dsimp only); omega)))
                · first
                  | (cases hq_29; done) | ((first | replace hq_29 := bnt hq_29 | replace hq_29 := bnf hq_29 | replace hq_29 := bt hq_29 | replace hq_29 := bf hq_29 | replace hq_29 := bt' hq_29 | replace hq_29 := bf' hq_29 | skip); exfalso; omega)
                  | ((first | replace hq_29 := bnt hq_29 | replace hq_29 := bnf hq_29 | replace hq_29 := bt hq_29 | replace hq_29 := bf hq_29 | replace hq_29 := bt' hq_29 | replace hq_29 := bf' hq_29 | skip)
                     refine aw_exit ?_
                     refine then_x ?_
                     refine then_x ?_
                     refine block_hit ?_
                     refine then_n ?_
                     refine aw_seq ?_
                     refine aw_text ?_
                     refine al_ro' (ro_move s12_28) trivial rfl ?_
                     refine al_ro' (ro_assign up_h) trivial rfl ?_
                     refine al_ro' (ro_assign ev_c) trivial rfl ?_
                     refine al_end (fun e_37 he_37 => ?_)
                     have s6_37 : evA e_37 (.tmp 6) = _ := (congrArg (fun q => evA q (.tmp 6)) he_37).trans (up_m rfl up_h)
                     have s7_37 : evA e_37 (.tmp 7) = _ := (congrArg (fun q => evA q (.tmp 7)) he_37).trans up_h
                     clear he_37 s10_28 s12_28 s13_28 s3_28 s4_28 s74_28 s9_28
                     refine then_n ?_
                     refine aw_ret ?_
                     refine ret2 (.inr rfl) (by kernel_rfl) (resV_tmp s6_37) (resV_tmp s7_37) (.own _ _ _ _ mo_j12_27) (.ro _ rfl) ?_
                     clear s6_37 s7_37 mo3_27 mo2_27 mo1_27 mo0_27 mo_j12_27 ml_27
                     (have hi : i.toNat = ps.length := (by omega); rw [hi] at g3; rw [fasW, if_neg hc, g3]; rfl))))
theorem fasW_two (ps : List Piece) (b v e0 e1 : Int) : (fasW ps b v e0 e1).2 = 0 ∧ (fasW ps b v e0 e1).1.length ≤ ps.length + 1 ∨ (fasW ps b v e0 e1).2 = 12 ∧ (fasW ps b v e0 e1).1 = [] := by
  unfold fasW
  split
  · exact .inr ⟨rfl, rfl⟩
  · split
    · exact .inr ⟨rfl, rfl⟩
    · rename_i l hl; have := goL_len hl; exact .inl ⟨rfl, by simp only; omega⟩
theorem fasE_d (nm : ByteArray) (ps : List Piece) (b d v e0 e1 : Int) : fasE nm ps b d v e0 e1 = if firstE [(chk nm ps).2, sysE b d v] = 0 ∧ ¬ (withinB e0 0 20000000000 = true ∧ withinB e1 0 20000000000 = true) then 2 else firstE [(chk nm ps).2, sysE b d v] := by
  have h : fasE nm ps b d v e0 e1 = firstE [firstE [(chk nm ps).2, sysE b d v], unlessE (withinB e0 0 20000000000 && withinB e1 0 20000000000) 2] := rfl
  rw [h, firstE_two]
  by_cases h1 : firstE [(chk nm ps).2, sysE b d v] = 0
  · rw [if_pos h1]
    cases h2 : withinB e0 0 20000000000 <;> cases h3 : withinB e1 0 20000000000 <;> simp [h1, unlessE]
  · rw [if_neg h1, if_neg (fun q => h1 q.1)]
set_option maxRecDepth 100000 in
set_option maxHeartbeats 4000000 in
theorem brakeFastest_ok (nm : ByteArray) (ps : List Piece) (b d v : Int) (e0 e1 : Int) : FnOk Try.prog 3 [trA nm ps, syA b d v, .agg [iA e0, iA e1]] (fun q => q = bA true) := by
  refine fnOk_of (fn := Try.f3) 75 (by kernel_rfl) rfl (by kernel_rfl) (Nat.le_of_ble_eq_true rfl) ?_
  intro e_0 m_0 hA hm_0
  have s0_0 : evA e_0 (.tmp 0) = _ := hA 0 _ rfl
  have s1_0 : evA e_0 (.tmp 1) = _ := hA 1 _ rfl
  have s2_0 : evA e_0 (.tmp 2) = _ := hA 2 _ rfl
  have ml_0 : m_0.length = 0 := by rw [hm_0]; rfl
  clear hA hm_0
  refine aw_seq ?_
  refine aw_text ?_
  refine al_stm (st_box s0_0 rfl ml_0) trivial rfl (fun m_1 hm_1 => ?_)
  have mo0_1 := m_push hm_1 ml_0
  (try simp only [packA_t, packA_f, iE, bE, setAt, cellsA, Value.cells, map_vc, map_vn, Nat.reduceAdd, qS] at mo0_1)
  have ml_1 := m_push_l hm_1 ml_0
  have ml_1 : _ = 1 := ml_1
  clear hm_1
  refine al_stm (st_box (up_m rfl s1_0) rfl ml_1) trivial rfl (fun m_2 hm_2 => ?_)
  have mo1_2 := m_push hm_2 ml_1
  (try simp only [packA_t, packA_f, iE, bE, setAt, cellsA, Value.cells, map_vc, map_vn, Nat.reduceAdd, qS] at mo1_2)
  have mo0_2 := m_push_o hm_2 mo0_1
  have ml_2 := m_push_l hm_2 ml_1
  have ml_2 : _ = 2 := ml_2
  clear hm_2 mo0_1
  refine al_stm (st_box (up_m rfl (up_m rfl s2_0)) rfl ml_2) trivial rfl (fun m_3 hm_3 => ?_)
  have mo2_3 := m_push hm_3 ml_2
  (try simp only [packA_t, packA_f, iE, bE, setAt, cellsA, Value.cells, map_vc, map_vn, Nat.reduceAdd, qS] at mo2_3)
  have mo1_3 := m_push_o hm_3 mo1_2
  have mo0_3 := m_push_o hm_3 mo0_2
  have ml_3 := m_push_l hm_3 ml_2
  have ml_3 : _ = 3 := ml_3
  clear hm_3 mo1_2 mo0_2
  refine al_ro' (ro_assign ev_c) trivial rfl ?_
  refine al_end (fun e_4 he_4 => ?_)
  have s3_4 : evA e_4 (.tmp 3) = _ := (congrArg (fun q => evA q (.tmp 3)) he_4).trans (up_m rfl (up_m rfl (up_m rfl up_h)))
  have s4_4 : evA e_4 (.tmp 4) = _ := (congrArg (fun q => evA q (.tmp 4)) he_4).trans (up_m rfl (up_m rfl up_h))
  have s5_4 : evA e_4 (.tmp 5) = _ := (congrArg (fun q => evA q (.tmp 5)) he_4).trans (up_m rfl up_h)
  clear he_4 s0_0 s1_0 s2_0
  refine then_n ?_
  refine aw_seq ?_
  refine aw_seq ?_
  refine aw_text ?_
  refine al_ro' (ro_call evL_nil rfl (awake_ok) k17_hcf15) trivial rfl ?_
  refine al_ro' (ro_not up_h) trivial rfl ?_
  refine al_end (fun e_5 he_5 => ?_)
  have s3_5 : evA e_5 (.tmp 3) = _ := (congrArg (fun q => evA q (.tmp 3)) he_5).trans (up_m rfl (up_m rfl s3_4))
  have s4_5 : evA e_5 (.tmp 4) = _ := (congrArg (fun q => evA q (.tmp 4)) he_5).trans (up_m rfl (up_m rfl s4_4))
  have s5_5 : evA e_5 (.tmp 5) = _ := (congrArg (fun q => evA q (.tmp 5)) he_5).trans (up_m rfl (up_m rfl s5_4))
  have s13_5 : evA e_5 (.tmp 13) = _ := (congrArg (fun q => evA q (.tmp 13)) he_5).trans up_h
  clear he_5 s3_4 s4_4 s5_4
  refine then_n ?_
  refine aw_case s13_5 (fun hq_6 => ?_) (fun hq_6 => ?_)
  · first
    | (cases hq_6; done) | ((first | replace hq_6 := bnt hq_6 | replace hq_6 := bnf hq_6 | replace hq_6 := bt hq_6 | replace hq_6 := bf hq_6 | replace hq_6 := bt' hq_6 | replace hq_6 := bf' hq_6 | skip); exfalso; omega)
    | ((first | replace hq_6 := bnt hq_6 | replace hq_6 := bnf hq_6 | replace hq_6 := bt hq_6 | replace hq_6 := bf hq_6 | replace hq_6 := bt' hq_6 | replace hq_6 := bf' hq_6 | skip)
       refine aw_seq ?_
       refine aw_text ?_
       refine al_ro' (ro_assign ev_c) trivial rfl ?_
       refine al_end (fun e_7 he_7 => ?_)
       have s6_7 : evA e_7 (.tmp 6) = _ := (congrArg (fun q => evA q (.tmp 6)) he_7).trans up_h
       clear he_7 s13_5 s3_5 s4_5 s5_5
       refine then_n ?_
       refine aw_ret ?_
       refine then_r ?_
       refine ret1 (.inr rfl) (by kernel_rfl) (resV_tmp s6_7) (.ro _ rfl) ?_
       clear s6_7 mo2_3 mo1_3 mo0_3 ml_3
       (first | rfl | (simp [hq]; done) | (simp [hz1]; done) | (refine avb ?_; simp only [decide_eq_true_eq, Bool.false_eq_true, true_iff, false_iff]; omega)))
  · first
    | (cases hq_6; done) | ((first | replace hq_6 := bnt hq_6 | replace hq_6 := bnf hq_6 | replace hq_6 := bt hq_6 | replace hq_6 := bf hq_6 | replace hq_6 := bt' hq_6 | replace hq_6 := bf' hq_6 | skip); exfalso; omega)
    | ((first | replace hq_6 := bnt hq_6 | replace hq_6 := bnf hq_6 | replace hq_6 := bt hq_6 | replace hq_6 := bf hq_6 | replace hq_6 := bt' hq_6 | replace hq_6 := bf' hq_6 | skip)
       refine aw_skip ?_
       refine then_n ?_
       refine aw_seq ?_
       refine aw_seq ?_
       refine aw_text ?_
       refine al_ro' (ro_eq (ro_ld_ptr k17_ty24 rfl mo0_3 s3_5 (by first | exact Nat.le_of_ble_eq_true rfl | omega | (simp only [lnS] <;> omega) | (simp <;> omega))) (by first | (simp only [packA_t, packA_f, iE, bE, setAt, cellsA, Value.cells, map_vc, map_vn, Nat.reduceAdd, qS] <;> rfl) | rfl)) trivial rfl ?_
       refine al_ro' (ro_call (evL_cons up_h evL_nil) rfl (short_ok nm ps) k17_hcf16) trivial rfl ?_
       refine al_ro' (ro_not up_h) trivial rfl ?_
       refine al_end (fun e_8 he_8 => ?_)
       have s3_8 : evA e_8 (.tmp 3) = _ := (congrArg (fun q => evA q (.tmp 3)) he_8).trans (up_m rfl (up_m rfl (up_m rfl s3_5)))
       have s4_8 : evA e_8 (.tmp 4) = _ := (congrArg (fun q => evA q (.tmp 4)) he_8).trans (up_m rfl (up_m rfl (up_m rfl s4_5)))
       have s5_8 : evA e_8 (.tmp 5) = _ := (congrArg (fun q => evA q (.tmp 5)) he_8).trans (up_m rfl (up_m rfl (up_m rfl s5_5)))
       have s16_8 : evA e_8 (.tmp 16) = _ := (congrArg (fun q => evA q (.tmp 16)) he_8).trans up_h
       clear he_8 s13_5 s3_5 s4_5 s5_5
       refine then_n ?_
       refine aw_case s16_8 (fun hq_9 => ?_) (fun hq_9 => ?_)
       · first
         | (cases hq_9; done) | ((first | replace hq_9 := bnt hq_9 | replace hq_9 := bnf hq_9 | replace hq_9 := bt hq_9 | replace hq_9 := bf hq_9 | replace hq_9 := bt' hq_9 | replace hq_9 := bf' hq_9 | skip); exfalso; omega)
         | ((first | replace hq_9 := bnt hq_9 | replace hq_9 := bnf hq_9 | replace hq_9 := bt hq_9 | replace hq_9 := bf hq_9 | replace hq_9 := bt' hq_9 | replace hq_9 := bf' hq_9 | skip)
            refine aw_seq ?_
            refine aw_text ?_
            refine al_ro' (ro_assign ev_c) trivial rfl ?_
            refine al_end (fun e_10 he_10 => ?_)
            have s6_10 : evA e_10 (.tmp 6) = _ := (congrArg (fun q => evA q (.tmp 6)) he_10).trans up_h
            clear he_10 s16_8 s3_8 s4_8 s5_8
            refine then_n ?_
            refine aw_ret ?_
            refine then_r ?_
            refine ret1 (.inr rfl) (by kernel_rfl) (resV_tmp s6_10) (.ro _ rfl) ?_
            clear s6_10 mo2_3 mo1_3 mo0_3 ml_3
            (first | rfl | (simp [hq]; done) | (simp [hz1]; done) | (refine avb ?_; simp only [decide_eq_true_eq, Bool.false_eq_true, true_iff, false_iff]; omega)))
       · first
         | (cases hq_9; done) | ((first | replace hq_9 := bnt hq_9 | replace hq_9 := bnf hq_9 | replace hq_9 := bt hq_9 | replace hq_9 := bf hq_9 | replace hq_9 := bt' hq_9 | replace hq_9 := bf' hq_9 | skip); exfalso; omega)
         | ((first | replace hq_9 := bnt hq_9 | replace hq_9 := bnf hq_9 | replace hq_9 := bt hq_9 | replace hq_9 := bf hq_9 | replace hq_9 := bt' hq_9 | replace hq_9 := bf' hq_9 | skip)
            (have hsh : nm.size ≤ 30 ∧ ps.length ≤ 14 := (by assumption); have hs : nm.size ≤ 1000000000 := (by omega); have hp : ps.length ≤ 1000000000 := (by omega))
            refine aw_skip ?_
            refine then_n ?_
            refine aw_seq ?_
            refine aw_draw 10 (by kernel_rfl) (by kernel_rfl) (by kernel_rfl) ?_
            refine ds_ro' (ro_eq (ro_ld_ptr k17_ty24 rfl mo0_3 s3_8 (by first | exact Nat.le_of_ble_eq_true rfl | omega | (simp only [lnS] <;> omega) | (simp <;> omega))) (by first | (simp only [packA_t, packA_f, iE, bE, setAt, cellsA, Value.cells, map_vc, map_vn, Nat.reduceAdd, qS] <;> rfl) | rfl)) trivial rfl ?_
            refine ds_ro' (ro_call (evL_cons up_h evL_nil) rfl (rCopy_ok nm ps hp) k17_hcf18) trivial rfl ?_
            refine ds_ro' (ro_eq (ro_ld_ptr k17_ty26 rfl mo1_3 (up_m rfl (up_m rfl s4_8)) (by first | exact Nat.le_of_ble_eq_true rfl | omega | (simp only [lnS] <;> omega) | (simp <;> omega))) (by first | (simp only [packA_t, packA_f, iE, bE, setAt, cellsA, Value.cells, map_vc, map_vn, Nat.reduceAdd, qS] <;> rfl) | rfl)) trivial rfl ?_
            refine ds_ro' (ro_eq (ro_ld_ptr k17_ty27 rfl mo2_3 (up_m rfl (up_m rfl (up_m rfl s5_8))) (by first | exact Nat.le_of_ble_eq_true rfl | omega | (simp only [lnS] <;> omega) | (simp <;> omega))) (by first | (simp only [packA_t, packA_f, iE, bE, setAt, cellsA, Value.cells, map_vc, map_vn, Nat.reduceAdd, qS] <;> rfl) | rfl)) trivial rfl ?_
            refine ds_ro' (ro_call (evL_cons (up_m rfl (up_m rfl up_h)) (evL_cons (up_m rfl up_h) (evL_cons up_h evL_nil))) rfl (fastest_ok nm ps hs hp b d v e0 e1) k17_hcf17) trivial rfl ?_
            refine ds_ro' (ro_move up_h) trivial rfl ?_
            refine ds_ro' (ro_extract up_h rfl) trivial rfl ?_
            refine ds_ro' (ro_extract (up_m rfl up_h) rfl) trivial rfl ?_
            refine ds_ro' (ro_assign (up_m rfl up_h)) trivial rfl ?_
            refine ds_ro' (ro_assign (up_m rfl up_h)) trivial rfl ?_
            refine ds_nil ?_
            refine al_end (fun e_11 he_11 => ?_)
            have s3_11 : evA e_11 (.tmp 3) = _ := (congrArg (fun q => evA q (.tmp 3)) he_11).trans (up_m rfl (up_m rfl (up_m rfl (up_m rfl (up_m rfl (up_m rfl (up_m rfl (up_m rfl (up_m rfl (up_m rfl s3_8))))))))))
            have s4_11 : evA e_11 (.tmp 4) = _ := (congrArg (fun q => evA q (.tmp 4)) he_11).trans (up_m rfl (up_m rfl (up_m rfl (up_m rfl (up_m rfl (up_m rfl (up_m rfl (up_m rfl (up_m rfl (up_m rfl s4_8))))))))))
            have s5_11 : evA e_11 (.tmp 5) = _ := (congrArg (fun q => evA q (.tmp 5)) he_11).trans (up_m rfl (up_m rfl (up_m rfl (up_m rfl (up_m rfl (up_m rfl (up_m rfl (up_m rfl (up_m rfl (up_m rfl s5_8))))))))))
            have s7_11 : evA e_11 (.tmp 7) = _ := (congrArg (fun q => evA q (.tmp 7)) he_11).trans (up_m rfl up_h)
            have s8_11 : evA e_11 (.tmp 8) = _ := (congrArg (fun q => evA q (.tmp 8)) he_11).trans up_h
            clear he_11 s16_8 s3_8 s4_8 s5_8
            refine then_n ?_
            refine aw_seq ?_
            refine aw_text ?_
            refine al_ro' (ro_eq (ro_ld_ptr k17_ty24 rfl mo0_3 s3_11 (by first | exact Nat.le_of_ble_eq_true rfl | omega | (simp only [lnS] <;> omega) | (simp <;> omega))) (by first | (simp only [packA_t, packA_f, iE, bE, setAt, cellsA, Value.cells, map_vc, map_vn, Nat.reduceAdd, qS] <;> rfl) | rfl)) trivial rfl ?_
            refine al_ro' (ro_eq (ro_ld_ptr k17_ty26 rfl mo1_3 (up_m rfl s4_11) (by first | exact Nat.le_of_ble_eq_true rfl | omega | (simp only [lnS] <;> omega) | (simp <;> omega))) (by first | (simp only [packA_t, packA_f, iE, bE, setAt, cellsA, Value.cells, map_vc, map_vn, Nat.reduceAdd, qS] <;> rfl) | rfl)) trivial rfl ?_
            refine al_ro' (ro_call (evL_cons (up_m rfl up_h) (evL_cons up_h evL_nil)) rfl (rBothErr_ok nm ps hs hp b d v) k17_hcf19) trivial rfl ?_
            refine al_ro' (ro_assign up_h) trivial rfl ?_
            refine al_end (fun e_12 he_12 => ?_)
            have s3_12 : evA e_12 (.tmp 3) = _ := (congrArg (fun q => evA q (.tmp 3)) he_12).trans (up_m rfl (up_m rfl (up_m rfl (up_m rfl s3_11))))
            have s4_12 : evA e_12 (.tmp 4) = _ := (congrArg (fun q => evA q (.tmp 4)) he_12).trans (up_m rfl (up_m rfl (up_m rfl (up_m rfl s4_11))))
            have s5_12 : evA e_12 (.tmp 5) = _ := (congrArg (fun q => evA q (.tmp 5)) he_12).trans (up_m rfl (up_m rfl (up_m rfl (up_m rfl s5_11))))
            have s7_12 : evA e_12 (.tmp 7) = _ := (congrArg (fun q => evA q (.tmp 7)) he_12).trans (up_m rfl (up_m rfl (up_m rfl (up_m rfl s7_11))))
            have s8_12 : evA e_12 (.tmp 8) = _ := (congrArg (fun q => evA q (.tmp 8)) he_12).trans (up_m rfl (up_m rfl (up_m rfl (up_m rfl s8_11))))
            have s9_12 : evA e_12 (.tmp 9) = _ := (congrArg (fun q => evA q (.tmp 9)) he_12).trans up_h
            clear he_12 s3_11 s4_11 s5_11 s7_11 s8_11
            refine then_n ?_
            refine aw_seq ?_
            refine aw_cut (fun e mem => (evA e (.tmp 9) = .v (.int .i64 (fasE nm ps b d v e0 e1))) ∧ (evA e (.tmp 3) = evA e_12 (.tmp 3)) ∧ (evA e (.tmp 4) = evA e_12 (.tmp 4)) ∧ (evA e (.tmp 5) = evA e_12 (.tmp 5)) ∧ (evA e (.tmp 7) = evA e_12 (.tmp 7)) ∧ (evA e (.tmp 8) = evA e_12 (.tmp 8)) ∧ m_3 = mem) ?_ ?_
            ·
              refine aw_seq ?_
              refine aw_cut (fun e mem => (evA e (.tmp 41) = .v (.bool (decide (firstE [(chk nm ps).2, sysE b d v] = 0 ∧ ¬ (withinB e0 0 20000000000 = true ∧ withinB e1 0 20000000000 = true))))) ∧ (evA e (.tmp 3) = evA e_12 (.tmp 3)) ∧ (evA e (.tmp 4) = evA e_12 (.tmp 4)) ∧ (evA e (.tmp 5) = evA e_12 (.tmp 5)) ∧ (evA e (.tmp 7) = evA e_12 (.tmp 7)) ∧ (evA e (.tmp 8) = evA e_12 (.tmp 8)) ∧ (evA e (.tmp 9) = evA e_12 (.tmp 9)) ∧ m_3 = mem) ?_ ?_
              ·
                refine aw_text ?_
                refine al_ro' (ro_move s9_12) trivial rfl ?_
                refine al_ro' (ro_eql up_h ev_c) trivial rfl ?_
                refine al_ro' (ro_move up_h) trivial rfl ?_
                refine al_case up_h (fun hb_15 hq_15 => ?_) (fun hb_15 hq_15 => ?_)
                · first
                  | (cases hq_15; done) | ((first | replace hq_15 := bnt hq_15 | replace hq_15 := bnf hq_15 | replace hq_15 := bt hq_15 | replace hq_15 := bf hq_15 | replace hq_15 := bt' hq_15 | replace hq_15 := bf' hq_15 | skip); exfalso; omega)
                  | ((first | replace hq_15 := bnt hq_15 | replace hq_15 := bnf hq_15 | replace hq_15 := bt hq_15 | replace hq_15 := bf hq_15 | replace hq_15 := bt' hq_15 | replace hq_15 := bf' hq_15 | skip)
                     refine al_ro' (ro_ixa k17_ar27 (up_m rfl (up_m rfl (up_m rfl s5_12))) ev_c rfl) ⟨_, rfl, hb_15⟩ rfl ?_
                     refine al_ro' (ro_eq (ro_ld_ptr k17_ty3 rfl mo2_3 up_h (by first | exact Nat.le_of_ble_eq_true rfl | omega | (simp only [lnS] <;> omega) | (simp <;> omega))) (by first | (simp only [packA_t, packA_f, iE, bE, setAt, cellsA, Value.cells, map_vc, map_vn, Nat.reduceAdd, qS] <;> rfl) | rfl)) ⟨_, rfl, (up_m rfl hb_15)⟩ rfl ?_
                     refine al_ro' (ro_call (evL_cons up_h (evL_cons ev_c (evL_cons ev_c evL_nil))) rfl (bWithin_ok _ _ _) k17_hcf20) ⟨_, rfl, (up_m rfl (up_m rfl hb_15))⟩ rfl ?_
                     refine al_ro' (ro_not up_h) ⟨_, rfl, (up_m rfl (up_m rfl (up_m rfl hb_15)))⟩ rfl ?_
                     refine al_ro' (ro_move up_h) ⟨_, rfl, (up_m rfl (up_m rfl (up_m rfl (up_m rfl hb_15))))⟩ rfl ?_
                     refine al_case up_h (fun hb_16 hq_16 => ?_) (fun hb_16 hq_16 => ?_)
                     · first
                       | (cases hq_16; done) | ((first | replace hq_16 := bnt hq_16 | replace hq_16 := bnf hq_16 | replace hq_16 := bt hq_16 | replace hq_16 := bf hq_16 | replace hq_16 := bt' hq_16 | replace hq_16 := bf' hq_16 | skip); exfalso; omega)
                       | ((first | replace hq_16 := bnt hq_16 | replace hq_16 := bnf hq_16 | replace hq_16 := bt hq_16 | replace hq_16 := bf hq_16 | replace hq_16 := bt' hq_16 | replace hq_16 := bf' hq_16 | skip)
                          refine al_skip' ⟨_, rfl, .inl hb_16⟩ rfl ?_
                          refine al_skip' ⟨_, rfl, .inl (up_m rfl hb_16)⟩ rfl ?_
                          refine al_skip' ⟨_, rfl, .inl (up_m rfl (up_m rfl hb_16))⟩ rfl ?_
                          refine al_skip' ⟨_, rfl, .inl (up_m rfl (up_m rfl (up_m rfl hb_16)))⟩ rfl ?_
                          refine al_ro' (ro_pickT (up_m rfl (up_m rfl (up_m rfl (up_m rfl hb_16)))) ev_c) ⟨_, rfl, (up_m rfl (up_m rfl (up_m rfl (up_m rfl (up_m rfl (up_m rfl (up_m rfl (up_m rfl (up_m rfl hb_15)))))))))⟩ rfl ?_
                          refine al_ro' (ro_pickT (up_m rfl (up_m rfl (up_m rfl (up_m rfl (up_m rfl (up_m rfl (up_m rfl (up_m rfl (up_m rfl (up_m rfl hb_15)))))))))) up_h) trivial rfl ?_
                          refine al_end (fun e_17 he_17 => ?_)
                          have s3_17 : evA e_17 (.tmp 3) = _ := (congrArg (fun q => evA q (.tmp 3)) he_17).trans (up_m rfl (up_m rfl (up_m rfl (up_m rfl (up_m rfl (up_m rfl (up_m rfl (up_m rfl (up_m rfl (up_m rfl (up_m rfl (up_m rfl (up_m rfl (up_m rfl s3_12))))))))))))))
                          have s4_17 : evA e_17 (.tmp 4) = _ := (congrArg (fun q => evA q (.tmp 4)) he_17).trans (up_m rfl (up_m rfl (up_m rfl (up_m rfl (up_m rfl (up_m rfl (up_m rfl (up_m rfl (up_m rfl (up_m rfl (up_m rfl (up_m rfl (up_m rfl (up_m rfl s4_12))))))))))))))
                          have s5_17 : evA e_17 (.tmp 5) = _ := (congrArg (fun q => evA q (.tmp 5)) he_17).trans (up_m rfl (up_m rfl (up_m rfl (up_m rfl (up_m rfl (up_m rfl (up_m rfl (up_m rfl (up_m rfl (up_m rfl (up_m rfl (up_m rfl (up_m rfl (up_m rfl s5_12))))))))))))))
                          have s7_17 : evA e_17 (.tmp 7) = _ := (congrArg (fun q => evA q (.tmp 7)) he_17).trans (up_m rfl (up_m rfl (up_m rfl (up_m rfl (up_m rfl (up_m rfl (up_m rfl (up_m rfl (up_m rfl (up_m rfl (up_m rfl (up_m rfl (up_m rfl (up_m rfl s7_12))))))))))))))
                          have s8_17 : evA e_17 (.tmp 8) = _ := (congrArg (fun q => evA q (.tmp 8)) he_17).trans (up_m rfl (up_m rfl (up_m rfl (up_m rfl (up_m rfl (up_m rfl (up_m rfl (up_m rfl (up_m rfl (up_m rfl (up_m rfl (up_m rfl (up_m rfl (up_m rfl s8_12))))))))))))))
                          have s9_17 : evA e_17 (.tmp 9) = _ := (congrArg (fun q => evA q (.tmp 9)) he_17).trans (up_m rfl (up_m rfl (up_m rfl (up_m rfl (up_m rfl (up_m rfl (up_m rfl (up_m rfl (up_m rfl (up_m rfl (up_m rfl (up_m rfl (up_m rfl (up_m rfl s9_12))))))))))))))
                          have s41_17 : evA e_17 (.tmp 41) = _ := (congrArg (fun q => evA q (.tmp 41)) he_17).trans up_h
                          clear he_17
                          refine then_n ⟨(s41_17).trans (by (refine avb ?_; simp_all)), (s3_17).trans (s3_12).symm, (s4_17).trans (s4_12).symm, (s5_17).trans (s5_12).symm, (s7_17).trans (s7_12).symm, (s8_17).trans (s8_12).symm, (s9_17).trans (s9_12).symm, rfl⟩)
                     · first
                       | (cases hq_16; done) | ((first | replace hq_16 := bnt hq_16 | replace hq_16 := bnf hq_16 | replace hq_16 := bt hq_16 | replace hq_16 := bf hq_16 | replace hq_16 := bt' hq_16 | replace hq_16 := bf' hq_16 | skip); exfalso; omega)
                       | ((first | replace hq_16 := bnt hq_16 | replace hq_16 := bnf hq_16 | replace hq_16 := bt hq_16 | replace hq_16 := bf hq_16 | replace hq_16 := bt' hq_16 | replace hq_16 := bf' hq_16 | skip)
                          refine al_ro' (ro_ixa k17_ar27 (up_m rfl (up_m rfl (up_m rfl (up_m rfl (up_m rfl (up_m rfl (up_m rfl (up_m rfl s5_12)))))))) ev_c rfl) ⟨_, rfl, hb_16⟩ rfl ?_
                          refine al_ro' (ro_eq (ro_ld_ptr k17_ty3 rfl mo2_3 up_h (by first | exact Nat.le_of_ble_eq_true rfl | omega | (simp only [lnS] <;> omega) | (simp <;> omega))) (by first | (simp only [packA_t, packA_f, iE, bE, setAt, cellsA, Value.cells, map_vc, map_vn, Nat.reduceAdd, qS] <;> rfl) | rfl)) ⟨_, rfl, (up_m rfl hb_16)⟩ rfl ?_
                          refine al_ro' (ro_call (evL_cons up_h (evL_cons ev_c (evL_cons ev_c evL_nil))) rfl (bWithin_ok _ _ _) k17_hcf20) ⟨_, rfl, (up_m rfl (up_m rfl hb_16))⟩ rfl ?_
                          refine al_ro' (ro_not up_h) ⟨_, rfl, (up_m rfl (up_m rfl (up_m rfl hb_16)))⟩ rfl ?_
                          refine al_ro' (ro_pickF (up_m rfl (up_m rfl (up_m rfl (up_m rfl hb_16)))) up_h) ⟨_, rfl, (up_m rfl (up_m rfl (up_m rfl (up_m rfl (up_m rfl (up_m rfl (up_m rfl (up_m rfl (up_m rfl hb_15)))))))))⟩ rfl ?_
                          refine al_ro' (ro_pickT (up_m rfl (up_m rfl (up_m rfl (up_m rfl (up_m rfl (up_m rfl (up_m rfl (up_m rfl (up_m rfl (up_m rfl hb_15)))))))))) up_h) trivial rfl ?_
                          refine al_end (fun e_18 he_18 => ?_)
                          have s3_18 : evA e_18 (.tmp 3) = _ := (congrArg (fun q => evA q (.tmp 3)) he_18).trans (up_m rfl (up_m rfl (up_m rfl (up_m rfl (up_m rfl (up_m rfl (up_m rfl (up_m rfl (up_m rfl (up_m rfl (up_m rfl (up_m rfl (up_m rfl (up_m rfl s3_12))))))))))))))
                          have s4_18 : evA e_18 (.tmp 4) = _ := (congrArg (fun q => evA q (.tmp 4)) he_18).trans (up_m rfl (up_m rfl (up_m rfl (up_m rfl (up_m rfl (up_m rfl (up_m rfl (up_m rfl (up_m rfl (up_m rfl (up_m rfl (up_m rfl (up_m rfl (up_m rfl s4_12))))))))))))))
                          have s5_18 : evA e_18 (.tmp 5) = _ := (congrArg (fun q => evA q (.tmp 5)) he_18).trans (up_m rfl (up_m rfl (up_m rfl (up_m rfl (up_m rfl (up_m rfl (up_m rfl (up_m rfl (up_m rfl (up_m rfl (up_m rfl (up_m rfl (up_m rfl (up_m rfl s5_12))))))))))))))
                          have s7_18 : evA e_18 (.tmp 7) = _ := (congrArg (fun q => evA q (.tmp 7)) he_18).trans (up_m rfl (up_m rfl (up_m rfl (up_m rfl (up_m rfl (up_m rfl (up_m rfl (up_m rfl (up_m rfl (up_m rfl (up_m rfl (up_m rfl (up_m rfl (up_m rfl s7_12))))))))))))))
                          have s8_18 : evA e_18 (.tmp 8) = _ := (congrArg (fun q => evA q (.tmp 8)) he_18).trans (up_m rfl (up_m rfl (up_m rfl (up_m rfl (up_m rfl (up_m rfl (up_m rfl (up_m rfl (up_m rfl (up_m rfl (up_m rfl (up_m rfl (up_m rfl (up_m rfl s8_12))))))))))))))
                          have s9_18 : evA e_18 (.tmp 9) = _ := (congrArg (fun q => evA q (.tmp 9)) he_18).trans (up_m rfl (up_m rfl (up_m rfl (up_m rfl (up_m rfl (up_m rfl (up_m rfl (up_m rfl (up_m rfl (up_m rfl (up_m rfl (up_m rfl (up_m rfl (up_m rfl s9_12))))))))))))))
                          have s41_18 : evA e_18 (.tmp 41) = _ := (congrArg (fun q => evA q (.tmp 41)) he_18).trans up_h
                          clear he_18
                          refine then_n ⟨(s41_18).trans (by (refine avb ?_; simp_all)), (s3_18).trans (s3_12).symm, (s4_18).trans (s4_12).symm, (s5_18).trans (s5_12).symm, (s7_18).trans (s7_12).symm, (s8_18).trans (s8_12).symm, (s9_18).trans (s9_12).symm, rfl⟩))
                · first
                  | (cases hq_15; done) | ((first | replace hq_15 := bnt hq_15 | replace hq_15 := bnf hq_15 | replace hq_15 := bt hq_15 | replace hq_15 := bf hq_15 | replace hq_15 := bt' hq_15 | replace hq_15 := bf' hq_15 | skip); exfalso; omega)
                  | ((first | replace hq_15 := bnt hq_15 | replace hq_15 := bnf hq_15 | replace hq_15 := bt hq_15 | replace hq_15 := bf hq_15 | replace hq_15 := bt' hq_15 | replace hq_15 := bf' hq_15 | skip)
                     refine al_skip' ⟨_, rfl, .inl hb_15⟩ rfl ?_
                     refine al_skip' ⟨_, rfl, .inl (up_m rfl hb_15)⟩ rfl ?_
                     refine al_skip' ⟨_, rfl, .inl (up_m rfl (up_m rfl hb_15))⟩ rfl ?_
                     refine al_skip' ⟨_, rfl, .inl (up_m rfl (up_m rfl (up_m rfl hb_15)))⟩ rfl ?_
                     refine al_skip' ⟨_, rfl, .inl (up_m rfl (up_m rfl (up_m rfl (up_m rfl hb_15))))⟩ rfl ?_
                     refine al_skip' ⟨_, rfl, .inr up_h⟩ rfl ?_
                     refine al_skip' ⟨_, rfl, .inr (up_m rfl up_h)⟩ rfl ?_
                     refine al_skip' ⟨_, rfl, .inr (up_m rfl (up_m rfl up_h))⟩ rfl ?_
                     refine al_skip' ⟨_, rfl, .inr (up_m rfl (up_m rfl (up_m rfl up_h)))⟩ rfl ?_
                     refine al_skip' ⟨_, rfl, .inl (up_m rfl (up_m rfl (up_m rfl (up_m rfl (up_m rfl (up_m rfl (up_m rfl (up_m rfl (up_m rfl hb_15)))))))))⟩ rfl ?_
                     refine al_ro' (ro_pickF (up_m rfl (up_m rfl (up_m rfl (up_m rfl (up_m rfl (up_m rfl (up_m rfl (up_m rfl (up_m rfl (up_m rfl hb_15)))))))))) ev_c) trivial rfl ?_
                     refine al_end (fun e_19 he_19 => ?_)
                     have s3_19 : evA e_19 (.tmp 3) = _ := (congrArg (fun q => evA q (.tmp 3)) he_19).trans (up_m rfl (up_m rfl (up_m rfl (up_m rfl (up_m rfl (up_m rfl (up_m rfl (up_m rfl (up_m rfl (up_m rfl (up_m rfl (up_m rfl (up_m rfl (up_m rfl s3_12))))))))))))))
                     have s4_19 : evA e_19 (.tmp 4) = _ := (congrArg (fun q => evA q (.tmp 4)) he_19).trans (up_m rfl (up_m rfl (up_m rfl (up_m rfl (up_m rfl (up_m rfl (up_m rfl (up_m rfl (up_m rfl (up_m rfl (up_m rfl (up_m rfl (up_m rfl (up_m rfl s4_12))))))))))))))
                     have s5_19 : evA e_19 (.tmp 5) = _ := (congrArg (fun q => evA q (.tmp 5)) he_19).trans (up_m rfl (up_m rfl (up_m rfl (up_m rfl (up_m rfl (up_m rfl (up_m rfl (up_m rfl (up_m rfl (up_m rfl (up_m rfl (up_m rfl (up_m rfl (up_m rfl s5_12))))))))))))))
                     have s7_19 : evA e_19 (.tmp 7) = _ := (congrArg (fun q => evA q (.tmp 7)) he_19).trans (up_m rfl (up_m rfl (up_m rfl (up_m rfl (up_m rfl (up_m rfl (up_m rfl (up_m rfl (up_m rfl (up_m rfl (up_m rfl (up_m rfl (up_m rfl (up_m rfl s7_12))))))))))))))
                     have s8_19 : evA e_19 (.tmp 8) = _ := (congrArg (fun q => evA q (.tmp 8)) he_19).trans (up_m rfl (up_m rfl (up_m rfl (up_m rfl (up_m rfl (up_m rfl (up_m rfl (up_m rfl (up_m rfl (up_m rfl (up_m rfl (up_m rfl (up_m rfl (up_m rfl s8_12))))))))))))))
                     have s9_19 : evA e_19 (.tmp 9) = _ := (congrArg (fun q => evA q (.tmp 9)) he_19).trans (up_m rfl (up_m rfl (up_m rfl (up_m rfl (up_m rfl (up_m rfl (up_m rfl (up_m rfl (up_m rfl (up_m rfl (up_m rfl (up_m rfl (up_m rfl (up_m rfl s9_12))))))))))))))
                     have s41_19 : evA e_19 (.tmp 41) = _ := (congrArg (fun q => evA q (.tmp 41)) he_19).trans up_h
                     clear he_19
                     refine then_n ⟨(s41_19).trans (by (refine avb ?_; simp_all)), (s3_19).trans (s3_12).symm, (s4_19).trans (s4_12).symm, (s5_19).trans (s5_12).symm, (s7_19).trans (s7_12).symm, (s8_19).trans (s8_12).symm, (s9_19).trans (s9_12).symm, rfl⟩)
              · rintro e_14 _ ⟨s41_14, k3_14, k4_14, k5_14, k7_14, k8_14, k9_14, rfl⟩
                have s3_14 := k3_14.trans s3_12
                have s4_14 := k4_14.trans s4_12
                have s5_14 := k5_14.trans s5_12
                have s7_14 := k7_14.trans s7_12
                have s8_14 := k8_14.trans s8_12
                have s9_14 := k9_14.trans s9_12
                refine aw_case s41_14 (fun hq_20 => ?_) (fun hq_20 => ?_)
                · first
                  | (cases hq_20; done) | ((first | replace hq_20 := bnt hq_20 | replace hq_20 := bnf hq_20 | replace hq_20 := bt hq_20 | replace hq_20 := bf hq_20 | replace hq_20 := bt' hq_20 | replace hq_20 := bf' hq_20 | skip); exfalso; omega)
                  | ((first | replace hq_20 := bnt hq_20 | replace hq_20 := bnf hq_20 | replace hq_20 := bt hq_20 | replace hq_20 := bf hq_20 | replace hq_20 := bt' hq_20 | replace hq_20 := bf' hq_20 | skip)
                     refine aw_text ?_
                     refine al_ro' (ro_assign ev_c) trivial rfl ?_
                     refine al_end (fun e_21 he_21 => ?_)
                     have s3_21 : evA e_21 (.tmp 3) = _ := (congrArg (fun q => evA q (.tmp 3)) he_21).trans (up_m rfl s3_14)
                     have s4_21 : evA e_21 (.tmp 4) = _ := (congrArg (fun q => evA q (.tmp 4)) he_21).trans (up_m rfl s4_14)
                     have s5_21 : evA e_21 (.tmp 5) = _ := (congrArg (fun q => evA q (.tmp 5)) he_21).trans (up_m rfl s5_14)
                     have s7_21 : evA e_21 (.tmp 7) = _ := (congrArg (fun q => evA q (.tmp 7)) he_21).trans (up_m rfl s7_14)
                     have s8_21 : evA e_21 (.tmp 8) = _ := (congrArg (fun q => evA q (.tmp 8)) he_21).trans (up_m rfl s8_14)
                     have s9_21 : evA e_21 (.tmp 9) = _ := (congrArg (fun q => evA q (.tmp 9)) he_21).trans up_h
                     clear he_21
                     refine then_n ⟨(s9_21).trans (by (refine avi ?_; rw [fasE_d]; first | rw [if_pos (by assumption)] | rw [if_neg (by assumption)])), (s3_21).trans (s3_12).symm, (s4_21).trans (s4_12).symm, (s5_21).trans (s5_12).symm, (s7_21).trans (s7_12).symm, (s8_21).trans (s8_12).symm, rfl⟩)
                · first
                  | (cases hq_20; done) | ((first | replace hq_20 := bnt hq_20 | replace hq_20 := bnf hq_20 | replace hq_20 := bt hq_20 | replace hq_20 := bf hq_20 | replace hq_20 := bt' hq_20 | replace hq_20 := bf' hq_20 | skip); exfalso; omega)
                  | ((first | replace hq_20 := bnt hq_20 | replace hq_20 := bnf hq_20 | replace hq_20 := bt hq_20 | replace hq_20 := bf hq_20 | replace hq_20 := bt' hq_20 | replace hq_20 := bf' hq_20 | skip)
                     refine aw_skip ?_
                     refine then_n ⟨(s9_14).trans (by (refine avi ?_; rw [fasE_d]; first | rw [if_pos (by assumption)] | rw [if_neg (by assumption)])), (s3_14).trans (s3_12).symm, (s4_14).trans (s4_12).symm, (s5_14).trans (s5_12).symm, (s7_14).trans (s7_12).symm, (s8_14).trans (s8_12).symm, rfl⟩)
            · rintro e_13 _ ⟨s9_13, k3_13, k4_13, k5_13, k7_13, k8_13, rfl⟩
              have s3_13 := k3_13.trans s3_12
              have s4_13 := k4_13.trans s4_12
              have s5_13 := k5_13.trans s5_12
              have s7_13 := k7_13.trans s7_12
              have s8_13 := k8_13.trans s8_12
              refine aw_seq ?_
              refine aw_seq ?_
              refine aw_text ?_
              refine al_ro' (ro_move s9_13) trivial rfl ?_
              refine al_ro' (ro_neq up_h ev_c) trivial rfl ?_
              refine al_end (fun e_22 he_22 => ?_)
              have s3_22 : evA e_22 (.tmp 3) = _ := (congrArg (fun q => evA q (.tmp 3)) he_22).trans (up_m rfl (up_m rfl s3_13))
              have s4_22 : evA e_22 (.tmp 4) = _ := (congrArg (fun q => evA q (.tmp 4)) he_22).trans (up_m rfl (up_m rfl s4_13))
              have s5_22 : evA e_22 (.tmp 5) = _ := (congrArg (fun q => evA q (.tmp 5)) he_22).trans (up_m rfl (up_m rfl s5_13))
              have s7_22 : evA e_22 (.tmp 7) = _ := (congrArg (fun q => evA q (.tmp 7)) he_22).trans (up_m rfl (up_m rfl s7_13))
              have s8_22 : evA e_22 (.tmp 8) = _ := (congrArg (fun q => evA q (.tmp 8)) he_22).trans (up_m rfl (up_m rfl s8_13))
              have s9_22 : evA e_22 (.tmp 9) = _ := (congrArg (fun q => evA q (.tmp 9)) he_22).trans (up_m rfl (up_m rfl s9_13))
              have s43_22 : evA e_22 (.tmp 43) = _ := (congrArg (fun q => evA q (.tmp 43)) he_22).trans up_h
              clear he_22 s3_13 s4_13 s5_13 s7_13 s8_13 s9_13
              refine then_n ?_
              refine aw_case s43_22 (fun hq_23 => ?_) (fun hq_23 => ?_)
              · first
                | (cases hq_23; done) | ((first | replace hq_23 := bnt hq_23 | replace hq_23 := bnf hq_23 | replace hq_23 := bt hq_23 | replace hq_23 := bf hq_23 | replace hq_23 := bt' hq_23 | replace hq_23 := bf' hq_23 | skip); exfalso; omega)
                | ((first | replace hq_23 := bnt hq_23 | replace hq_23 := bnf hq_23 | replace hq_23 := bt hq_23 | replace hq_23 := bf hq_23 | replace hq_23 := bt' hq_23 | replace hq_23 := bf' hq_23 | skip)
                   (have hq : ¬ fasE nm ps b d v e0 e1 = 0 := (by assumption); have hz1 : (if fasE nm ps b d v e0 e1 = 0 then (fasW ps b v e0 e1).1 else []).length = 0 := (by rw [if_neg hq]; rfl); have hz3 : (if fasE nm ps b d v e0 e1 = 0 then (fasW ps b v e0 e1).2 else fasE nm ps b d v e0 e1) = fasE nm ps b d v e0 e1 := (by rw [if_neg hq]))
                   refine aw_seq ?_
                   refine aw_text ?_
                   refine al_ro' (ro_move s8_22) trivial rfl ?_
                   refine al_ro' (ro_move (up_m rfl s9_22)) trivial rfl ?_
                   refine al_ro' (ro_eql (up_m rfl up_h) up_h) trivial rfl ?_
                   refine al_ro' (ro_move up_h) trivial rfl ?_
                   refine al_case up_h (fun hb_24 hq_24 => ?_) (fun hb_24 hq_24 => ?_)
                   · first
                     | (cases hq_24; done) | ((first | replace hq_24 := bnt hq_24 | replace hq_24 := bnf hq_24 | replace hq_24 := bt hq_24 | replace hq_24 := bf hq_24 | replace hq_24 := bt' hq_24 | replace hq_24 := bf' hq_24 | skip); exfalso; omega)
                     | ((first | replace hq_24 := bnt hq_24 | replace hq_24 := bnf hq_24 | replace hq_24 := bt hq_24 | replace hq_24 := bf hq_24 | replace hq_24 := bt' hq_24 | replace hq_24 := bf' hq_24 | skip)
                        refine al_ro' (ro_move (up_m rfl (up_m rfl (up_m rfl (up_m rfl s7_22))))) ⟨_, rfl, hb_24⟩ rfl ?_
                        refine al_ro' (ro_eq (ro_len_row up_h rfl k17_sl30.1) (by first | (simp only [lnS] <;> rfl) | rfl)) ⟨_, rfl, (up_m rfl hb_24)⟩ rfl ?_
                        refine al_ro' (ro_eql up_h ev_c) ⟨_, rfl, (up_m rfl (up_m rfl hb_24))⟩ rfl ?_
                        refine al_ro' (ro_pickT (up_m rfl (up_m rfl (up_m rfl hb_24))) up_h) trivial rfl ?_
                        refine al_ro' (ro_assign up_h) trivial rfl ?_
                        refine al_end (fun e_25 he_25 => ?_)
                        have s6_25 : evA e_25 (.tmp 6) = _ := (congrArg (fun q => evA q (.tmp 6)) he_25).trans up_h
                        clear he_25 hb_24 s3_22 s43_22 s4_22 s5_22 s7_22 s8_22 s9_22
                        refine then_n ?_
                        refine aw_ret ?_
                        refine then_r ?_
                        refine ret1 (.inr rfl) (by kernel_rfl) (resV_tmp s6_25) (.ro _ rfl) ?_
                        clear s6_25 mo2_3 mo1_3 mo0_3 ml_3
                        (first | rfl | (simp [hq]; done) | (simp [hz1]; done) | (refine avb ?_; simp only [decide_eq_true_eq, Bool.false_eq_true, true_iff, false_iff]; omega)))
                   · first
                     | (cases hq_24; done) | ((first | replace hq_24 := bnt hq_24 | replace hq_24 := bnf hq_24 | replace hq_24 := bt hq_24 | replace hq_24 := bf hq_24 | replace hq_24 := bt' hq_24 | replace hq_24 := bf' hq_24 | skip); exfalso; omega)
                     | ((first | replace hq_24 := bnt hq_24 | replace hq_24 := bnf hq_24 | replace hq_24 := bt hq_24 | replace hq_24 := bf hq_24 | replace hq_24 := bt' hq_24 | replace hq_24 := bf' hq_24 | skip)
                        refine al_skip' ⟨_, rfl, .inl hb_24⟩ rfl ?_
                        refine al_skip' ⟨_, rfl, .inl (up_m rfl hb_24)⟩ rfl ?_
                        refine al_skip' ⟨_, rfl, .inl (up_m rfl (up_m rfl hb_24))⟩ rfl ?_
                        refine al_ro' (ro_pickF (up_m rfl (up_m rfl (up_m rfl hb_24))) ev_c) trivial rfl ?_
                        refine al_ro' (ro_assign up_h) trivial rfl ?_
                        refine al_end (fun e_26 he_26 => ?_)
                        have s6_26 : evA e_26 (.tmp 6) = _ := (congrArg (fun q => evA q (.tmp 6)) he_26).trans up_h
                        clear he_26 hb_24 s3_22 s43_22 s4_22 s5_22 s7_22 s8_22 s9_22
                        refine then_n ?_
                        refine aw_ret ?_
                        refine then_r ?_
                        refine ret1 (.inr rfl) (by kernel_rfl) (resV_tmp s6_26) (.ro _ rfl) ?_
                        clear s6_26 mo2_3 mo1_3 mo0_3 ml_3
                        (first | rfl | (simp [hq]; done) | (simp [hz1]; done) | (refine avb ?_; simp only [decide_eq_true_eq, Bool.false_eq_true, true_iff, false_iff]; omega))))
              · first
                | (cases hq_23; done) | ((first | replace hq_23 := bnt hq_23 | replace hq_23 := bnf hq_23 | replace hq_23 := bt hq_23 | replace hq_23 := bf hq_23 | replace hq_23 := bt' hq_23 | replace hq_23 := bf' hq_23 | skip); exfalso; omega)
                | ((first | replace hq_23 := bnt hq_23 | replace hq_23 := bnf hq_23 | replace hq_23 := bt hq_23 | replace hq_23 := bf hq_23 | replace hq_23 := bt' hq_23 | replace hq_23 := bf' hq_23 | skip)
                   (have hq : fasE nm ps b d v e0 e1 = 0 := (by assumption); have hz2 : (if fasE nm ps b d v e0 e1 = 0 then (fasW ps b v e0 e1).2 else fasE nm ps b d v e0 e1) = (fasW ps b v e0 e1).2 := (by rw [if_pos hq]); have hR := fasE_right hq; have htw := fasW_two ps b v e0 e1)
                   refine aw_skip ?_
                   refine then_n ?_
                   refine aw_seq ?_
                   refine aw_text ?_
                   refine al_ro' (ro_eq (ro_ld_ptr k17_ty24 rfl mo0_3 s3_22 (by first | exact Nat.le_of_ble_eq_true rfl | omega | (simp only [lnS] <;> omega) | (simp <;> omega))) (by first | (simp only [packA_t, packA_f, iE, bE, setAt, cellsA, Value.cells, map_vc, map_vn, Nat.reduceAdd, qS] <;> rfl) | rfl)) trivial rfl ?_
                   refine al_ro' (ro_eq (ro_ld_ptr k17_ty26 rfl mo1_3 (up_m rfl s4_22) (by first | exact Nat.le_of_ble_eq_true rfl | omega | (simp only [lnS] <;> omega) | (simp <;> omega))) (by first | (simp only [packA_t, packA_f, iE, bE, setAt, cellsA, Value.cells, map_vc, map_vn, Nat.reduceAdd, qS] <;> rfl) | rfl)) trivial rfl ?_
                   refine al_ro' (ro_eq (ro_ld_ptr k17_ty27 rfl mo2_3 (up_m rfl (up_m rfl s5_22)) (by first | exact Nat.le_of_ble_eq_true rfl | omega | (simp only [lnS] <;> omega) | (simp <;> omega))) (by first | (simp only [packA_t, packA_f, iE, bE, setAt, cellsA, Value.cells, map_vc, map_vn, Nat.reduceAdd, qS] <;> rfl) | rfl)) trivial rfl ?_
                   refine al_ro' (ro_call (evL_cons (up_m rfl (up_m rfl up_h)) (evL_cons (up_m rfl up_h) (evL_cons up_h evL_nil))) rfl (rFastest_ok nm ps hR.1 b d v hR.2.1 e0 e1 hR.2.2.1 hR.2.2.2) k17_hcf21) trivial rfl ?_
                   refine al_ro' (ro_move up_h) trivial rfl ?_
                   refine al_ro' (ro_extract up_h rfl) trivial rfl ?_
                   refine al_ro' (ro_extract (up_m rfl up_h) rfl) trivial rfl ?_
                   refine al_ro' (ro_assign (up_m rfl up_h)) trivial rfl ?_
                   refine al_ro' (ro_assign (up_m rfl up_h)) trivial rfl ?_
                   refine al_end (fun e_27 he_27 => ?_)
                   have s7_27 : evA e_27 (.tmp 7) = _ := (congrArg (fun q => evA q (.tmp 7)) he_27).trans (up_m rfl (up_m rfl (up_m rfl (up_m rfl (up_m rfl (up_m rfl (up_m rfl (up_m rfl (up_m rfl s7_22)))))))))
                   have s8_27 : evA e_27 (.tmp 8) = _ := (congrArg (fun q => evA q (.tmp 8)) he_27).trans (up_m rfl (up_m rfl (up_m rfl (up_m rfl (up_m rfl (up_m rfl (up_m rfl (up_m rfl (up_m rfl s8_22)))))))))
                   have s10_27 : evA e_27 (.tmp 10) = _ := (congrArg (fun q => evA q (.tmp 10)) he_27).trans (up_m rfl up_h)
                   have s11_27 : evA e_27 (.tmp 11) = _ := (congrArg (fun q => evA q (.tmp 11)) he_27).trans up_h
                   clear he_27 s3_22 s43_22 s4_22 s5_22 s7_22 s8_22 s9_22
                   refine then_n ?_
                   refine aw_seq ?_
                   refine aw_seq ?_
                   refine aw_text ?_
                   refine al_ro' (ro_move s11_27) trivial rfl ?_
                   refine al_ro' (ro_not up_h) trivial rfl ?_
                   refine al_end (fun e_28 he_28 => ?_)
                   have s7_28 : evA e_28 (.tmp 7) = _ := (congrArg (fun q => evA q (.tmp 7)) he_28).trans (up_m rfl (up_m rfl s7_27))
                   have s8_28 : evA e_28 (.tmp 8) = _ := (congrArg (fun q => evA q (.tmp 8)) he_28).trans (up_m rfl (up_m rfl s8_27))
                   have s10_28 : evA e_28 (.tmp 10) = _ := (congrArg (fun q => evA q (.tmp 10)) he_28).trans (up_m rfl (up_m rfl s10_27))
                   have s60_28 : evA e_28 (.tmp 60) = _ := (congrArg (fun q => evA q (.tmp 60)) he_28).trans up_h
                   clear he_28 s10_27 s11_27 s7_27 s8_27
                   refine then_n ?_
                   refine aw_case s60_28 (fun hq_29 => ?_) (fun hq_29 => ?_)
                   · first
                     | (cases hq_29; done) | ((first | replace hq_29 := bnt hq_29 | replace hq_29 := bnf hq_29 | replace hq_29 := bt hq_29 | replace hq_29 := bf hq_29 | replace hq_29 := bt' hq_29 | replace hq_29 := bf' hq_29 | skip); exfalso; omega)
                     | ((first | replace hq_29 := bnt hq_29 | replace hq_29 := bnf hq_29 | replace hq_29 := bt hq_29 | replace hq_29 := bf hq_29 | replace hq_29 := bt' hq_29 | replace hq_29 := bf' hq_29 | skip)
                        (have hz1 : (if fasE nm ps b d v e0 e1 = 0 then (fasW ps b v e0 e1).1 else []).length = 0 := (by rw [if_pos hq]; rcases htw with h | h; (exfalso; omega); (rw [h.2]; rfl)); have h12 : (fasW ps b v e0 e1).2 = 12 := (by omega))
                        refine aw_seq ?_
                        refine aw_text ?_
                        refine al_ro' (ro_move s8_28) trivial rfl ?_
                        refine al_ro' (ro_eql up_h ev_c) trivial rfl ?_
                        refine al_ro' (ro_move up_h) trivial rfl ?_
                        refine al_case up_h (fun hb_30 hq_30 => ?_) (fun hb_30 hq_30 => ?_)
                        · first
                          | (cases hq_30; done) | ((first | replace hq_30 := bnt hq_30 | replace hq_30 := bnf hq_30 | replace hq_30 := bt hq_30 | replace hq_30 := bf hq_30 | replace hq_30 := bt' hq_30 | replace hq_30 := bf' hq_30 | skip); exfalso; omega)
                          | ((first | replace hq_30 := bnt hq_30 | replace hq_30 := bnf hq_30 | replace hq_30 := bt hq_30 | replace hq_30 := bf hq_30 | replace hq_30 := bt' hq_30 | replace hq_30 := bf' hq_30 | skip)
                             refine al_ro' (ro_move (up_m rfl (up_m rfl (up_m rfl s7_28)))) ⟨_, rfl, hb_30⟩ rfl ?_
                             refine al_ro' (ro_eq (ro_len_row up_h rfl k17_sl30.1) (by first | (simp only [lnS] <;> rfl) | rfl)) ⟨_, rfl, (up_m rfl hb_30)⟩ rfl ?_
                             refine al_ro' (ro_eql up_h ev_c) ⟨_, rfl, (up_m rfl (up_m rfl hb_30))⟩ rfl ?_
                             refine al_ro' (ro_pickT (up_m rfl (up_m rfl (up_m rfl hb_30))) up_h) trivial rfl ?_
                             refine al_ro' (ro_assign up_h) trivial rfl ?_
                             refine al_end (fun e_31 he_31 => ?_)
                             have s6_31 : evA e_31 (.tmp 6) = _ := (congrArg (fun q => evA q (.tmp 6)) he_31).trans up_h
                             clear he_31 hb_30 s10_28 s60_28 s7_28 s8_28
                             refine then_n ?_
                             refine aw_ret ?_
                             refine then_r ?_
                             refine ret1 (.inr rfl) (by kernel_rfl) (resV_tmp s6_31) (.ro _ rfl) ?_
                             clear s6_31 mo2_3 mo1_3 mo0_3 ml_3
                             (first | rfl | (simp [hq]; done) | (simp [hz1]; done) | (refine avb ?_; simp only [decide_eq_true_eq, Bool.false_eq_true, true_iff, false_iff]; omega)))
                        · first
                          | (cases hq_30; done) | ((first | replace hq_30 := bnt hq_30 | replace hq_30 := bnf hq_30 | replace hq_30 := bt hq_30 | replace hq_30 := bf hq_30 | replace hq_30 := bt' hq_30 | replace hq_30 := bf' hq_30 | skip); exfalso; omega)
                          | ((first | replace hq_30 := bnt hq_30 | replace hq_30 := bnf hq_30 | replace hq_30 := bt hq_30 | replace hq_30 := bf hq_30 | replace hq_30 := bt' hq_30 | replace hq_30 := bf' hq_30 | skip)
                             refine al_skip' ⟨_, rfl, .inl hb_30⟩ rfl ?_
                             refine al_skip' ⟨_, rfl, .inl (up_m rfl hb_30)⟩ rfl ?_
                             refine al_skip' ⟨_, rfl, .inl (up_m rfl (up_m rfl hb_30))⟩ rfl ?_
                             refine al_ro' (ro_pickF (up_m rfl (up_m rfl (up_m rfl hb_30))) ev_c) trivial rfl ?_
                             refine al_ro' (ro_assign up_h) trivial rfl ?_
                             refine al_end (fun e_32 he_32 => ?_)
                             have s6_32 : evA e_32 (.tmp 6) = _ := (congrArg (fun q => evA q (.tmp 6)) he_32).trans up_h
                             clear he_32 hb_30 s10_28 s60_28 s7_28 s8_28
                             refine then_n ?_
                             refine aw_ret ?_
                             refine then_r ?_
                             refine ret1 (.inr rfl) (by kernel_rfl) (resV_tmp s6_32) (.ro _ rfl) ?_
                             clear s6_32 mo2_3 mo1_3 mo0_3 ml_3
                             (first | rfl | (simp [hq]; done) | (simp [hz1]; done) | (refine avb ?_; simp only [decide_eq_true_eq, Bool.false_eq_true, true_iff, false_iff]; omega))))
                   · first
                     | (cases hq_29; done) | ((first | replace hq_29 := bnt hq_29 | replace hq_29 := bnf hq_29 | replace hq_29 := bt hq_29 | replace hq_29 := bf hq_29 | replace hq_29 := bt' hq_29 | replace hq_29 := bf' hq_29 | skip); exfalso; omega)
                     | ((first | replace hq_29 := bnt hq_29 | replace hq_29 := bnf hq_29 | replace hq_29 := bt hq_29 | replace hq_29 := bf hq_29 | replace hq_29 := bt' hq_29 | replace hq_29 := bf' hq_29 | skip)
                        (have hlw2 : (fasW ps b v e0 e1).1.length ≤ 1000000000 := (by omega); have hlw1 : (if fasE nm ps b d v e0 e1 = 0 then (fasW ps b v e0 e1).1 else []).length ≤ 1000000000 := (by rw [if_pos hq]; exact hlw2))
                        refine aw_skip ?_
                        refine then_n ?_
                        refine aw_seq ?_
                        refine aw_text ?_
                        refine al_ro' (ro_move s8_28) trivial rfl ?_
                        refine al_ro' (ro_eql up_h ev_c) trivial rfl ?_
                        refine al_ro' (ro_move up_h) trivial rfl ?_
                        refine al_case up_h (fun hb_33 hq_33 => ?_) (fun hb_33 hq_33 => ?_)
                        · first
                          | (cases hq_33; done) | ((first | replace hq_33 := bnt hq_33 | replace hq_33 := bnf hq_33 | replace hq_33 := bt hq_33 | replace hq_33 := bf hq_33 | replace hq_33 := bt' hq_33 | replace hq_33 := bf' hq_33 | skip); exfalso; omega)
                          | ((first | replace hq_33 := bnt hq_33 | replace hq_33 := bnf hq_33 | replace hq_33 := bt hq_33 | replace hq_33 := bf hq_33 | replace hq_33 := bt' hq_33 | replace hq_33 := bf' hq_33 | skip)
                             refine al_ro' (ro_move (up_m rfl (up_m rfl (up_m rfl s7_28)))) ⟨_, rfl, hb_33⟩ rfl ?_
                             refine al_ro' (ro_move (up_m rfl (up_m rfl (up_m rfl (up_m rfl s10_28))))) ⟨_, rfl, (up_m rfl hb_33)⟩ rfl ?_
                             refine al_ro' (ro_call (evL_cons (up_m rfl up_h) (evL_cons up_h evL_nil)) rfl (ints_ok _ _ hlw1 hlw2) k17_hcf22) ⟨_, rfl, (up_m rfl (up_m rfl hb_33))⟩ rfl ?_
                             refine al_ro' (ro_pickT (up_m rfl (up_m rfl (up_m rfl hb_33))) up_h) trivial rfl ?_
                             refine al_ro' (ro_assign up_h) trivial rfl ?_
                             refine al_end (fun e_34 he_34 => ?_)
                             have s6_34 : evA e_34 (.tmp 6) = _ := (congrArg (fun q => evA q (.tmp 6)) he_34).trans up_h
                             clear he_34 hb_33 s10_28 s60_28 s7_28 s8_28
                             refine then_n ?_
                             refine aw_ret ?_
                             refine ret1 (.inr rfl) (by kernel_rfl) (resV_tmp s6_34) (.ro _ rfl) ?_
                             clear s6_34 mo2_3 mo1_3 mo0_3 ml_3
                             (first | rfl | (simp [hq]; done) | (simp [hz1]; done) | (refine avb ?_; simp only [decide_eq_true_eq, Bool.false_eq_true, true_iff, false_iff]; omega)))
                        · first
                          | (cases hq_33; done) | ((first | replace hq_33 := bnt hq_33 | replace hq_33 := bnf hq_33 | replace hq_33 := bt hq_33 | replace hq_33 := bf hq_33 | replace hq_33 := bt' hq_33 | replace hq_33 := bf' hq_33 | skip); exfalso; omega)
                          | ((first | replace hq_33 := bnt hq_33 | replace hq_33 := bnf hq_33 | replace hq_33 := bt hq_33 | replace hq_33 := bf hq_33 | replace hq_33 := bt' hq_33 | replace hq_33 := bf' hq_33 | skip)
                             refine al_skip' ⟨_, rfl, .inl hb_33⟩ rfl ?_
                             refine al_skip' ⟨_, rfl, .inl (up_m rfl hb_33)⟩ rfl ?_
                             refine al_skip' ⟨_, rfl, .inl (up_m rfl (up_m rfl hb_33))⟩ rfl ?_
                             refine al_ro' (ro_pickF (up_m rfl (up_m rfl (up_m rfl hb_33))) ev_c) trivial rfl ?_
                             refine al_ro' (ro_assign up_h) trivial rfl ?_
                             refine al_end (fun e_35 he_35 => ?_)
                             have s6_35 : evA e_35 (.tmp 6) = _ := (congrArg (fun q => evA q (.tmp 6)) he_35).trans up_h
                             clear he_35 hb_33 s10_28 s60_28 s7_28 s8_28
                             refine then_n ?_
                             refine aw_ret ?_
                             refine ret1 (.inr rfl) (by kernel_rfl) (resV_tmp s6_35) (.ro _ rfl) ?_
                             clear s6_35 mo2_3 mo1_3 mo0_3 ml_3
                             (first | rfl | (simp [hq]; done) | (simp [hz1]; done) | (refine avb ?_; simp only [decide_eq_true_eq, Bool.false_eq_true, true_iff, false_iff]; omega)))))))
end Go.Proofs.Ytelgkjekpcfffaa
