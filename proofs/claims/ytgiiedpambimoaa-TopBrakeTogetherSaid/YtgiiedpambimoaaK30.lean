/- Contracts of chapter 5: the document's errors of stops and states. No conditions on a program. -/
import Derived.Test.YtgiiedpambimoaaK12
namespace Go.Proofs.Ytgiiedpambimoaa
open Go Go.RowKit Go.Proofs
set_option linter.unusedSimpArgs false
set_option linter.unusedVariables false
theorem k30_fl118_3 : FldIs Try.prog 118 3 3 false 1 := by unfold FldIs; kernel_rfl
theorem k30_fl51_1 : FldIs Try.prog 51 1 1 false 1 := by unfold FldIs; kernel_rfl
theorem k30_fl68_0 : FldIs Try.prog 68 0 0 false 1 := by unfold FldIs; kernel_rfl
theorem k30_fl68_1 : FldIs Try.prog 68 1 1 false 1 := by unfold FldIs; kernel_rfl
theorem k30_hcf10 : ∀ args w, (callFunc 10 args).run Try.prog w = .ok (.enter 10 args) w := fun _ _ => by kernel_rfl
theorem k30_sl49 : SlIs Try.prog 49 118 4 32 (.agg #[.int .i64 0, .int .i64 0, .int .i64 0, .bool false]) := ⟨by kernel_rfl, by kernel_rfl, by kernel_rfl⟩
theorem k30_ty3 : TyIs Try.prog 3 false 1 := ⟨by kernel_rfl, by kernel_rfl⟩
theorem k30_ty4 : TyIs Try.prog 4 false 1 := ⟨by kernel_rfl, by kernel_rfl⟩
theorem k30_ty49 : TyIs Try.prog 49 false 1 := ⟨by kernel_rfl, by kernel_rfl⟩

set_option maxRecDepth 100000 in
set_option maxHeartbeats 1000000 in
theorem rStopErr_ok (nm : ByteArray) (ps : List Piece) (hp : ps.length ≤ 1000000000) (stop : Int) : FnOk Try.prog 30 [trA nm ps, iA stop] (fun q => q = iA (stopE ps stop)) := by
  refine fnOk_of (fn := Try.f30) 19 (by kernel_rfl) rfl (by kernel_rfl) (Nat.le_of_ble_eq_true rfl) ?_
  intro e_0 m_0 hA hm_0
  have s0_0 : evA e_0 (.tmp 0) = _ := hA 0 _ rfl
  have s1_0 : evA e_0 (.tmp 1) = _ := hA 1 _ rfl
  have ml_0 : m_0.length = 0 := by rw [hm_0]; rfl
  clear hA hm_0
  refine aw_seq ?_
  refine aw_text (by kernel_rfl) ?_
  refine al_stm (st_box s0_0 rfl ml_0) trivial rfl (fun m_1 hm_1 => ?_)
  have mo0_1 := m_push hm_1 ml_0
  (try simp only [packA_t, packA_f, iE, bE, setAt, cellsA, Value.cells, map_vc, map_vn, Nat.reduceAdd, qS, pE] at mo0_1)
  have ml_1 := m_push_l hm_1 ml_0
  have ml_1 : _ = 1 := ml_1
  clear hm_1
  refine al_ro' (ro_assign ev_c) trivial rfl ?_
  refine al_end (fun e_2 he_2 => ?_)
  have s1_2 := ef 1 he_2 (u2 rfl s1_0)
  have s2_2 := ef 2 he_2 (up_m rfl up_h)
  clear he_2 s0_0 s1_0
  refine then_n ?_
  refine aw_seq ?_
  refine aw_seq ?_
  refine aw_text (by kernel_rfl) ?_
  refine al_ro' (ro_move s1_2) trivial rfl ?_
  refine al_ro' (ro_fld_ptr k30_fl51_1 rfl (up_m rfl s2_2)) trivial rfl ?_
  refine al_ro' (ro_eq (ro_ld_ptr k30_ty49 rfl mo0_1 up_h (by first | exact Nat.le_of_ble_eq_true rfl | omega | (simp only [lnS] <;> omega) | (simp <;> omega))) (by first | (simp only [packA_t, packA_f, iE, bE, setAt, cellsA, Value.cells, map_vc, map_vn, Nat.reduceAdd, qS, pE] <;> rfl) | rfl)) trivial rfl ?_
  refine al_ro' (ro_eq (ro_len_row up_h rfl k30_sl49.1) (by first | (simp only [lnS] <;> rfl) | rfl)) trivial rfl ?_
  first | (refine al_ro' (ro_sub' up_h ev_c ?_) trivial rfl ?_; · (unfold In64; omega)) | refine al_ro' (ro_sub up_h ev_c) trivial rfl ?_
  refine al_ro' (ro_call (evL_cons (u4 rfl up_h) (evL_cons ev_c (evL_cons up_h evL_nil))) rfl (bWithin_ok _ _ _) k30_hcf10) trivial rfl ?_
  refine al_ro' (ro_not up_h) trivial rfl ?_
  refine al_end (fun e_3 he_3 => ?_)
  have s1_3 := ef 1 he_3 (up_m rfl (u2 rfl (u4 rfl s1_2)))
  have s2_3 := ef 2 he_3 (up_m rfl (u2 rfl (u4 rfl s2_2)))
  have s11_3 := ef 11 he_3 up_h
  clear he_3 s1_2 s2_2
  refine then_n ?_
  refine aw_case s11_3 (fun hq_4 => ?_) (fun hq_4 => ?_)
  · (first | replace hq_4 := bnt hq_4 | replace hq_4 := bnf hq_4 | replace hq_4 := bt hq_4 | replace hq_4 := bf hq_4 | replace hq_4 := bt' hq_4 | replace hq_4 := bf' hq_4 | skip)
    first
    | (cases hq_4; done) | (exfalso; omega)
    | (
       refine aw_seq ?_
       refine aw_text (by kernel_rfl) ?_
       refine al_ro' (ro_assign ev_c) trivial rfl ?_
       refine al_end (fun e_5 he_5 => ?_)
       have s4_5 := ef 4 he_5 up_h
       clear he_5 s11_3 s1_3 s2_3
       refine then_n ?_
       refine aw_ret ?_
       refine then_r ?_
       refine ret1 (.inr rfl) (by kernel_rfl) (resV_tmp s4_5) (.ro _ rfl) ?_
       clear s4_5 mo0_1 ml_1
       (have hw : withinB stop 0 (ps.length - 1) = false := (by assumption); rw [stopE, if_neg (by simp [hw])]))
  · (first | replace hq_4 := bnt hq_4 | replace hq_4 := bnf hq_4 | replace hq_4 := bt hq_4 | replace hq_4 := bf hq_4 | replace hq_4 := bt' hq_4 | replace hq_4 := bf' hq_4 | skip)
    first
    | (cases hq_4; done) | (exfalso; omega)
    | (
       (have hw : withinB stop 0 (ps.length - 1) = true := (by assumption); simp only [withinB, Bool.and_eq_true, decide_eq_true_eq] at hw)
       refine aw_skip ?_
       refine then_n ?_
       refine aw_seq ?_
       refine aw_seq ?_
       refine aw_text (by kernel_rfl) ?_
       refine al_ro' (ro_fld_ptr k30_fl51_1 rfl s2_3) trivial rfl ?_
       refine al_ro' (ro_eq (ro_ld_ptr k30_ty49 rfl mo0_1 up_h (by first | exact Nat.le_of_ble_eq_true rfl | omega | (simp only [lnS] <;> omega) | (simp <;> omega))) (by first | (simp only [packA_t, packA_f, iE, bE, setAt, cellsA, Value.cells, map_vc, map_vn, Nat.reduceAdd, qS, pE] <;> rfl) | rfl)) trivial rfl ?_
       refine al_ro' (ro_move (u2 rfl s1_3)) trivial rfl ?_
       refine al_ro' (ro_eq (ro_ix k30_sl49 (up_m rfl up_h) up_h (by first | decide | omega | (simp <;> omega)) (by first | (refine idx_map ?_; first | omega | (simp only [lnS]; omega)) | (refine idx_mapI ?_; first | omega | (simp only [lnS]; omega)) | (refine idx_mapN ?_; first | omega | (simp only [lnS]; omega)) | rfl)) (by first | (simp only [packA_t, packA_f, iE, bE, setAt, cellsA, Value.cells, map_vc, map_vn, Nat.reduceAdd, qS, pE] <;> rfl) | rfl)) trivial rfl ?_
       refine al_ro' (ro_eq (ro_fld_ref k30_fl118_3 rfl up_h) (by first | (simp only [packA_t, packA_f, iE, bE, setAt, cellsA, Value.cells, map_vc, map_vn, Nat.reduceAdd, qS, pE] <;> rfl) | rfl)) trivial rfl ?_
       refine al_ro' (ro_eq (ro_ld_ref k30_ty4 rfl up_h (by first | exact Nat.le_of_ble_eq_true rfl | omega | (simp only [lnS] <;> omega) | (simp <;> omega))) (by first | (simp only [packA_t, packA_f, iE, bE, setAt, cellsA, Value.cells, map_vc, map_vn, Nat.reduceAdd, qS, pE] <;> rfl) | rfl)) trivial rfl ?_
       refine al_ro' (ro_not up_h) trivial rfl ?_
       refine al_end (fun e_6 he_6 => ?_)
       have s18_6 := ef 18 he_6 up_h
       clear he_6 s11_3 s1_3 s2_3
       refine then_n ?_
       refine aw_case s18_6 (fun hq_7 => ?_) (fun hq_7 => ?_)
       · (first | replace hq_7 := bnt hq_7 | replace hq_7 := bnf hq_7 | replace hq_7 := bt hq_7 | replace hq_7 := bf hq_7 | replace hq_7 := bt' hq_7 | replace hq_7 := bf' hq_7 | skip)
         first
         | (cases hq_7; done) | (exfalso; omega)
         | (
            refine aw_seq ?_
            refine aw_text (by kernel_rfl) ?_
            refine al_ro' (ro_assign ev_c) trivial rfl ?_
            refine al_end (fun e_8 he_8 => ?_)
            have s4_8 := ef 4 he_8 up_h
            clear he_8 s18_6
            refine then_n ?_
            refine aw_ret ?_
            refine then_r ?_
            refine ret1 (.inr rfl) (by kernel_rfl) (resV_tmp s4_8) (.ro _ rfl) ?_
            clear s4_8 mo0_1 ml_1
            (rw [stopE, if_pos (by simp [withinB]; omega)]; have hl : (ps.getD stop.toNat default).leave = false := (by assumption); rw [hl]; rfl))
       · (first | replace hq_7 := bnt hq_7 | replace hq_7 := bnf hq_7 | replace hq_7 := bt hq_7 | replace hq_7 := bf hq_7 | replace hq_7 := bt' hq_7 | replace hq_7 := bf' hq_7 | skip)
         first
         | (cases hq_7; done) | (exfalso; omega)
         | (
            refine aw_skip ?_
            refine then_n ?_
            refine aw_seq ?_
            refine aw_text (by kernel_rfl) ?_
            refine al_ro' (ro_assign ev_c) trivial rfl ?_
            refine al_end (fun e_9 he_9 => ?_)
            have s4_9 := ef 4 he_9 up_h
            clear he_9 s18_6
            refine then_n ?_
            refine aw_ret ?_
            refine ret1 (.inr rfl) (by kernel_rfl) (resV_tmp s4_9) (.ro _ rfl) ?_
            clear s4_9 mo0_1 ml_1
            (rw [stopE, if_pos (by simp [withinB]; omega)]; have hl : (ps.getD stop.toNat default).leave = true := (by assumption); rw [hl]; rfl)))
theorem firstE_two (a b : Int) : firstE [a, b] = if a = 0 then b else a := by
  simp only [firstE]
  by_cases h : a = 0
  · rw [if_pos h, if_pos h]; split <;> simp_all
  · rw [if_neg h, if_neg h]
theorem stateE_ite (ps : List Piece) (post sq : Int) : stateE ps post sq = if withinB post 0 ps.length = true then (if withinB sq 0 20000000000 = true then 0 else 2) else 6 := by
  unfold stateE
  rw [firstE_two]
  cases withinB post 0 ps.length <;> cases withinB sq 0 20000000000 <;> rfl
set_option maxRecDepth 100000 in
set_option maxHeartbeats 1000000 in
theorem rStateErr_ok (nm : ByteArray) (ps : List Piece) (post sq : Int) : FnOk Try.prog 31 [trA nm ps, .agg [iA post, iA sq]] (fun q => q = iA (stateE ps post sq)) := by
  refine fnOk_of (fn := Try.f31) 16 (by kernel_rfl) rfl (by kernel_rfl) (Nat.le_of_ble_eq_true rfl) ?_
  intro e_0 m_0 hA hm_0
  have s0_0 : evA e_0 (.tmp 0) = _ := hA 0 _ rfl
  have s1_0 : evA e_0 (.tmp 1) = _ := hA 1 _ rfl
  have ml_0 : m_0.length = 0 := by rw [hm_0]; rfl
  clear hA hm_0
  refine aw_seq ?_
  refine aw_text (by kernel_rfl) ?_
  refine al_stm (st_box s0_0 rfl ml_0) trivial rfl (fun m_1 hm_1 => ?_)
  have mo0_1 := m_push hm_1 ml_0
  (try simp only [packA_t, packA_f, iE, bE, setAt, cellsA, Value.cells, map_vc, map_vn, Nat.reduceAdd, qS] at mo0_1)
  have ml_1 := m_push_l hm_1 ml_0
  have ml_1 : _ = 1 := ml_1
  clear hm_1
  refine al_stm (st_box (up_m rfl s1_0) rfl ml_1) trivial rfl (fun m_2 hm_2 => ?_)
  have mo1_2 := m_push hm_2 ml_1
  (try simp only [packA_t, packA_f, iE, bE, setAt, cellsA, Value.cells, map_vc, map_vn, Nat.reduceAdd, qS] at mo1_2)
  have mo0_2 := m_push_o hm_2 mo0_1
  have ml_2 := m_push_l hm_2 ml_1
  have ml_2 : _ = 2 := ml_2
  clear hm_2 mo0_1
  refine al_ro' (ro_assign ev_c) trivial rfl ?_
  refine al_end (fun e_3 he_3 => ?_)
  have s2_3 := ef 2 he_3 (u2 rfl up_h)
  have s3_3 := ef 3 he_3 (up_m rfl up_h)
  clear he_3 s0_0 s1_0
  refine then_n ?_
  refine aw_seq ?_
  refine aw_seq ?_
  refine aw_text (by kernel_rfl) ?_
  refine al_ro' (ro_fld_ptr k30_fl68_0 rfl s3_3) trivial rfl ?_
  refine al_ro' (ro_eq (ro_ld_ptr k30_ty3 rfl mo1_2 up_h (by first | exact Nat.le_of_ble_eq_true rfl | omega | (simp only [lnS] <;> omega) | (simp <;> omega))) (by first | (simp only [packA_t, packA_f, iE, bE, setAt, cellsA, Value.cells, map_vc, map_vn, Nat.reduceAdd, qS] <;> rfl) | rfl)) trivial rfl ?_
  refine al_ro' (ro_fld_ptr k30_fl51_1 rfl (u2 rfl s2_3)) trivial rfl ?_
  refine al_ro' (ro_eq (ro_ld_ptr k30_ty49 rfl mo0_2 up_h (by first | exact Nat.le_of_ble_eq_true rfl | omega | (simp only [lnS] <;> omega) | (simp <;> omega))) (by first | (simp only [packA_t, packA_f, iE, bE, setAt, cellsA, Value.cells, map_vc, map_vn, Nat.reduceAdd, qS] <;> rfl) | rfl)) trivial rfl ?_
  refine al_ro' (ro_eq (ro_len_row up_h rfl k30_sl49.1) (by first | (simp only [lnS] <;> rfl) | rfl)) trivial rfl ?_
  refine al_ro' (ro_call (evL_cons (up_m rfl (u2 rfl up_h)) (evL_cons ev_c (evL_cons up_h evL_nil))) rfl (bWithin_ok _ _ _) k30_hcf10) trivial rfl ?_
  refine al_ro' (ro_not up_h) trivial rfl ?_
  refine al_end (fun e_4 he_4 => ?_)
  have s3_4 := ef 3 he_4 (up_m rfl (u2 rfl (u4 rfl s3_3)))
  have s11_4 := ef 11 he_4 up_h
  clear he_4 s2_3 s3_3
  refine then_n ?_
  refine aw_case s11_4 (fun hq_5 => ?_) (fun hq_5 => ?_)
  · (first | replace hq_5 := bnt hq_5 | replace hq_5 := bnf hq_5 | replace hq_5 := bt hq_5 | replace hq_5 := bf hq_5 | replace hq_5 := bt' hq_5 | replace hq_5 := bf' hq_5 | skip)
    first
    | (cases hq_5; done) | (exfalso; omega)
    | (
       refine aw_seq ?_
       refine aw_text (by kernel_rfl) ?_
       refine al_ro' (ro_assign ev_c) trivial rfl ?_
       refine al_end (fun e_6 he_6 => ?_)
       have s4_6 := ef 4 he_6 up_h
       clear he_6 s11_4 s3_4
       refine then_n ?_
       refine aw_ret ?_
       refine then_r ?_
       refine ret1 (.inr rfl) (by kernel_rfl) (resV_tmp s4_6) (.ro _ rfl) ?_
       clear s4_6 mo1_2 mo0_2 ml_2
       (rw [stateE_ite]; simp_all))
  · (first | replace hq_5 := bnt hq_5 | replace hq_5 := bnf hq_5 | replace hq_5 := bt hq_5 | replace hq_5 := bf hq_5 | replace hq_5 := bt' hq_5 | replace hq_5 := bf' hq_5 | skip)
    first
    | (cases hq_5; done) | (exfalso; omega)
    | (
       refine aw_skip ?_
       refine then_n ?_
       refine aw_seq ?_
       refine aw_seq ?_
       refine aw_text (by kernel_rfl) ?_
       refine al_ro' (ro_fld_ptr k30_fl68_1 rfl s3_4) trivial rfl ?_
       refine al_ro' (ro_eq (ro_ld_ptr k30_ty3 rfl mo1_2 up_h (by first | exact Nat.le_of_ble_eq_true rfl | omega | (simp only [lnS] <;> omega) | (simp <;> omega))) (by first | (simp only [packA_t, packA_f, iE, bE, setAt, cellsA, Value.cells, map_vc, map_vn, Nat.reduceAdd, qS] <;> rfl) | rfl)) trivial rfl ?_
       refine al_ro' (ro_call (evL_cons up_h (evL_cons ev_c (evL_cons ev_c evL_nil))) rfl (bWithin_ok _ _ _) k30_hcf10) trivial rfl ?_
       refine al_ro' (ro_not up_h) trivial rfl ?_
       refine al_end (fun e_7 he_7 => ?_)
       have s15_7 := ef 15 he_7 up_h
       clear he_7 s11_4 s3_4
       refine then_n ?_
       refine aw_case s15_7 (fun hq_8 => ?_) (fun hq_8 => ?_)
       · (first | replace hq_8 := bnt hq_8 | replace hq_8 := bnf hq_8 | replace hq_8 := bt hq_8 | replace hq_8 := bf hq_8 | replace hq_8 := bt' hq_8 | replace hq_8 := bf' hq_8 | skip)
         first
         | (cases hq_8; done) | (exfalso; omega)
         | (
            refine aw_seq ?_
            refine aw_text (by kernel_rfl) ?_
            refine al_ro' (ro_assign ev_c) trivial rfl ?_
            refine al_end (fun e_9 he_9 => ?_)
            have s4_9 := ef 4 he_9 up_h
            clear he_9 s15_7
            refine then_n ?_
            refine aw_ret ?_
            refine then_r ?_
            refine ret1 (.inr rfl) (by kernel_rfl) (resV_tmp s4_9) (.ro _ rfl) ?_
            clear s4_9 mo1_2 mo0_2 ml_2
            (rw [stateE_ite]; simp_all))
       · (first | replace hq_8 := bnt hq_8 | replace hq_8 := bnf hq_8 | replace hq_8 := bt hq_8 | replace hq_8 := bf hq_8 | replace hq_8 := bt' hq_8 | replace hq_8 := bf' hq_8 | skip)
         first
         | (cases hq_8; done) | (exfalso; omega)
         | (
            refine aw_skip ?_
            refine then_n ?_
            refine aw_seq ?_
            refine aw_text (by kernel_rfl) ?_
            refine al_ro' (ro_assign ev_c) trivial rfl ?_
            refine al_end (fun e_10 he_10 => ?_)
            have s4_10 := ef 4 he_10 up_h
            clear he_10 s15_7
            refine then_n ?_
            refine aw_ret ?_
            refine ret1 (.inr rfl) (by kernel_rfl) (resV_tmp s4_10) (.ro _ rfl) ?_
            clear s4_10 mo1_2 mo0_2 ml_2
            (rw [stateE_ite]; simp_all)))
end Go.Proofs.Ytgiiedpambimoaa
