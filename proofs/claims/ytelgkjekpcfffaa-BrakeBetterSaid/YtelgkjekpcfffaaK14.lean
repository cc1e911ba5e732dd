/- The law of chapter 5 on curves. No conditions on a program. -/
import Derived.Test.YtelgkjekpcfffaaK12
namespace Go.Proofs.Ytelgkjekpcfffaa
open Go Go.RowKit Go.Proofs
set_option linter.unusedSimpArgs false
set_option linter.unusedVariables false
theorem k14_fl24_1 : FldIs Try.prog 24 1 1 false 1 := by unfold FldIs; kernel_rfl
theorem k14_fl26_0 : FldIs Try.prog 26 0 0 false 1 := by unfold FldIs; kernel_rfl
theorem k14_fl26_1 : FldIs Try.prog 26 1 1 false 1 := by unfold FldIs; kernel_rfl
theorem k14_fl66_3 : FldIs Try.prog 66 3 3 false 1 := by unfold FldIs; kernel_rfl
theorem k14_hcf15 : ∀ args w, (callFunc 15 args).run Try.prog w = .ok (.enter 15 args) w := fun _ _ => by kernel_rfl
theorem k14_hcf16 : ∀ args w, (callFunc 16 args).run Try.prog w = .ok (.enter 16 args) w := fun _ _ => by kernel_rfl
theorem k14_hcf18 : ∀ args w, (callFunc 18 args).run Try.prog w = .ok (.enter 18 args) w := fun _ _ => by kernel_rfl
theorem k14_hcf19 : ∀ args w, (callFunc 19 args).run Try.prog w = .ok (.enter 19 args) w := fun _ _ => by kernel_rfl
theorem k14_hcf20 : ∀ args w, (callFunc 20 args).run Try.prog w = .ok (.enter 20 args) w := fun _ _ => by kernel_rfl
theorem k14_hcf22 : ∀ args w, (callFunc 22 args).run Try.prog w = .ok (.enter 22 args) w := fun _ _ => by kernel_rfl
theorem k14_hcf26 : ∀ args w, (callFunc 26 args).run Try.prog w = .ok (.enter 26 args) w := fun _ _ => by kernel_rfl
theorem k14_hcf28 : ∀ args w, (callFunc 28 args).run Try.prog w = .ok (.enter 28 args) w := fun _ _ => by kernel_rfl
theorem k14_hcf29 : ∀ args w, (callFunc 29 args).run Try.prog w = .ok (.enter 29 args) w := fun _ _ => by kernel_rfl
theorem k14_hcf30 : ∀ args w, (callFunc 30 args).run Try.prog w = .ok (.enter 30 args) w := fun _ _ => by kernel_rfl
theorem k14_hcf31 : ∀ args w, (callFunc 31 args).run Try.prog w = .ok (.enter 31 args) w := fun _ _ => by kernel_rfl
theorem k14_hcf39 : ∀ args w, (callFunc 39 args).run Try.prog w = .ok (.enter 39 args) w := fun _ _ => by kernel_rfl
theorem k14_hcf70 : ∀ args w, (callFunc 70 args).run Try.prog w = .ok (.enter 70 args) w := fun _ _ => by kernel_rfl
theorem k14_sl22 : SlIs Try.prog 22 66 4 32 (.agg #[.int .i64 0, .int .i64 0, .int .i64 0, .bool false]) := ⟨by kernel_rfl, by kernel_rfl, by kernel_rfl⟩
theorem k14_sl30 : SlIs Try.prog 30 3 1 8 (.int .i64 0) := ⟨by kernel_rfl, by kernel_rfl, by kernel_rfl⟩
theorem k14_sz3 : (Try.prog.info? 3).map (·.size) = some 1 := by kernel_rfl
theorem k14_ty22 : TyIs Try.prog 22 false 1 := ⟨by kernel_rfl, by kernel_rfl⟩
theorem k14_ty24 : TyIs Try.prog 24 true 2 := ⟨by kernel_rfl, by kernel_rfl⟩
theorem k14_ty26 : TyIs Try.prog 26 true 3 := ⟨by kernel_rfl, by kernel_rfl⟩
theorem k14_ty3 : TyIs Try.prog 3 false 1 := ⟨by kernel_rfl, by kernel_rfl⟩
theorem k14_ty4 : TyIs Try.prog 4 false 1 := ⟨by kernel_rfl, by kernel_rfl⟩

set_option maxRecDepth 100000 in
set_option maxHeartbeats 1000000 in
theorem rWithin_ok (n lo hi : Int) : FnOk Try.prog 20 [iA n, iA lo, iA hi] (fun q => q = bA (withinB n lo hi)) := bWithin_ok n lo hi
set_option maxRecDepth 100000 in
set_option maxHeartbeats 1000000 in
theorem rStopErr_ok (nm : ByteArray) (ps : List Piece) (hp : ps.length ≤ 1000000000) (stop : Int) : FnOk Try.prog 26 [trA nm ps, iA stop] (fun q => q = iA (stopE ps stop)) := by
  refine fnOk_of (fn := Try.f26) 19 (by kernel_rfl) rfl (by kernel_rfl) (Nat.le_of_ble_eq_true rfl) ?_
  intro e_0 m_0 hA hm_0
  have s0_0 : evA e_0 (.tmp 0) = _ := hA 0 _ rfl
  have s1_0 : evA e_0 (.tmp 1) = _ := hA 1 _ rfl
  have ml_0 : m_0.length = 0 := by rw [hm_0]; rfl
  clear hA hm_0
  refine aw_seq ?_
  refine aw_text ?_
  refine al_stm (st_box s0_0 rfl ml_0) trivial rfl (fun m_1 hm_1 => ?_)
  have mo0_1 := m_push hm_1 ml_0
  (try simp only [packA_t, packA_f, iE, bE, setAt, cellsA, Value.cells, map_vc, map_vn, Nat.reduceAdd, qS, pE] at mo0_1)
  have ml_1 := m_push_l hm_1 ml_0
  have ml_1 : _ = 1 := ml_1
  clear hm_1
  refine al_ro' (ro_assign ev_c) trivial rfl ?_
  refine al_end (fun e_2 he_2 => ?_)
  have s1_2 := ef 1 he_2 (u2 rfl s1_0)
  have s2_2 := ef 2 he_2 (up_m rfl up_h)
  clear he_2 s0_0 s1_0
  refine then_n ?_
  refine aw_seq ?_
  refine aw_seq ?_
  refine aw_text ?_
  refine al_ro' (ro_move s1_2) trivial rfl ?_
  refine al_ro' (ro_fld_ptr k14_fl24_1 rfl (up_m rfl s2_2)) trivial rfl ?_
  refine al_ro' (ro_eq (ro_ld_ptr k14_ty22 rfl mo0_1 up_h (by first | exact Nat.le_of_ble_eq_true rfl | omega | (simp only [lnS] <;> omega) | (simp <;> omega))) (by first | (simp only [packA_t, packA_f, iE, bE, setAt, cellsA, Value.cells, map_vc, map_vn, Nat.reduceAdd, qS, pE] <;> rfl) | rfl)) trivial rfl ?_
  refine al_ro' (ro_eq (ro_len_row up_h rfl k14_sl22.1) (by first | (simp only [lnS] <;> rfl) | rfl)) trivial rfl ?_
  first | (refine al_ro' (ro_sub' up_h ev_c ?_) trivial rfl ?_; · (unfold In64; omega)) | refine al_ro' (ro_sub up_h ev_c) trivial rfl ?_
  refine al_ro' (ro_call (evL_cons (u4 rfl up_h) (evL_cons ev_c (evL_cons up_h evL_nil))) rfl (bWithin_ok _ _ _) k14_hcf20) trivial rfl ?_
  refine al_ro' (ro_not up_h) trivial rfl ?_
  refine al_end (fun e_3 he_3 => ?_)
  have s1_3 := ef 1 he_3 (up_m rfl (u2 rfl (u4 rfl s1_2)))
  have s2_3 := ef 2 he_3 (up_m rfl (u2 rfl (u4 rfl s2_2)))
  have s11_3 := ef 11 he_3 up_h
  clear he_3 s1_2 s2_2
  refine then_n ?_
  refine aw_case s11_3 (fun hq_4 => ?_) (fun hq_4 => ?_)
  · (first | replace hq_4 := bnt hq_4 | replace hq_4 := bnf hq_4 | replace hq_4 := bt hq_4 | replace hq_4 := bf hq_4 | replace hq_4 := bt' hq_4 | replace hq_4 := bf' hq_4 | skip)
    first
    | (cases hq_4; done) | (exfalso; omega)
    | (
       refine aw_seq ?_
       refine aw_text ?_
       refine al_ro' (ro_assign ev_c) trivial rfl ?_
       refine al_end (fun e_5 he_5 => ?_)
       have s4_5 := ef 4 he_5 up_h
       clear he_5 s11_3 s1_3 s2_3
       refine then_n ?_
       refine aw_ret ?_
       refine then_r ?_
       refine ret1 (.inr rfl) (by kernel_rfl) (resV_tmp s4_5) (.ro _ rfl) ?_
       clear s4_5 mo0_1 ml_1
       (have hw : withinB stop 0 (ps.length - 1) = false := (by assumption); rw [stopE, if_neg (by simp [hw])]))
  · (first | replace hq_4 := bnt hq_4 | replace hq_4 := bnf hq_4 | replace hq_4 := bt hq_4 | replace hq_4 := bf hq_4 | replace hq_4 := bt' hq_4 | replace hq_4 := bf' hq_4 | skip)
    first
    | (cases hq_4; done) | (exfalso; omega)
    | (
       (have hw : withinB stop 0 (ps.length - 1) = true := (by assumption); simp only [withinB, Bool.and_eq_true, decide_eq_true_eq] at hw)
       refine aw_skip ?_
       refine then_n ?_
       refine aw_seq ?_
       refine aw_seq ?_
       refine aw_text ?_
       refine al_ro' (ro_fld_ptr k14_fl24_1 rfl s2_3) trivial rfl ?_
       refine al_ro' (ro_eq (ro_ld_ptr k14_ty22 rfl mo0_1 up_h (by first | exact Nat.le_of_ble_eq_true rfl | omega | (simp only [lnS] <;> omega) | (simp <;> omega))) (by first | (simp only [packA_t, packA_f, iE, bE, setAt, cellsA, Value.cells, map_vc, map_vn, Nat.reduceAdd, qS, pE] <;> rfl) | rfl)) trivial rfl ?_
       refine al_ro' (ro_move (u2 rfl s1_3)) trivial rfl ?_
       refine al_ro' (ro_eq (ro_ix k14_sl22 (up_m rfl up_h) up_h (by first | decide | omega | (simp <;> omega)) (by first | (refine idx_map ?_; first | omega | (simp only [lnS]; omega)) | (refine idx_mapI ?_; first | omega | (simp only [lnS]; omega)) | (refine idx_mapN ?_; first | omega | (simp only [lnS]; omega)) | rfl)) (by first | (simp only [packA_t, packA_f, iE, bE, setAt, cellsA, Value.cells, map_vc, map_vn, Nat.reduceAdd, qS, pE] <;> rfl) | rfl)) trivial rfl ?_
       refine al_ro' (ro_eq (ro_fld_ref k14_fl66_3 rfl up_h) (by first | (simp only [packA_t, packA_f, iE, bE, setAt, cellsA, Value.cells, map_vc, map_vn, Nat.reduceAdd, qS, pE] <;> rfl) | rfl)) trivial rfl ?_
       refine al_ro' (ro_eq (ro_ld_ref k14_ty4 rfl up_h (by first | exact Nat.le_of_ble_eq_true rfl | omega | (simp only [lnS] <;> omega) | (simp <;> omega))) (by first | (simp only [packA_t, packA_f, iE, bE, setAt, cellsA, Value.cells, map_vc, map_vn, Nat.reduceAdd, qS, pE] <;> rfl) | rfl)) trivial rfl ?_
       refine al_ro' (ro_not up_h) trivial rfl ?_
       refine al_end (fun e_6 he_6 => ?_)
       have s18_6 := ef 18 he_6 up_h
       clear he_6 s11_3 s1_3 s2_3
       refine then_n ?_
       refine aw_case s18_6 (fun hq_7 => ?_) (fun hq_7 => ?_)
       · (first | replace hq_7 := bnt hq_7 | replace hq_7 := bnf hq_7 | replace hq_7 := bt hq_7 | replace hq_7 := bf hq_7 | replace hq_7 := bt' hq_7 | replace hq_7 := bf' hq_7 | skip)
         first
         | (cases hq_7; done) | (exfalso; omega)
         | (
            refine aw_seq ?_
            refine aw_text ?_
            refine al_ro' (ro_assign ev_c) trivial rfl ?_
            refine al_end (fun e_8 he_8 => ?_)
            have s4_8 := ef 4 he_8 up_h
            clear he_8 s18_6
            refine then_n ?_
            refine aw_ret ?_
            refine then_r ?_
            refine ret1 (.inr rfl) (by kernel_rfl) (resV_tmp s4_8) (.ro _ rfl) ?_
            clear s4_8 mo0_1 ml_1
            (rw [stopE, if_pos (by simp [withinB]; omega)]; have hl : (ps.getD stop.toNat default).leave = false := (by assumption); rw [hl]; rfl))
       · (first | replace hq_7 := bnt hq_7 | replace hq_7 := bnf hq_7 | replace hq_7 := bt hq_7 | replace hq_7 := bf hq_7 | replace hq_7 := bt' hq_7 | replace hq_7 := bf' hq_7 | skip)
         first
         | (cases hq_7; done) | (exfalso; omega)
         | (
            refine aw_skip ?_
            refine then_n ?_
            refine aw_seq ?_
            refine aw_text ?_
            refine al_ro' (ro_assign ev_c) trivial rfl ?_
            refine al_end (fun e_9 he_9 => ?_)
            have s4_9 := ef 4 he_9 up_h
            clear he_9 s18_6
            refine then_n ?_
            refine aw_ret ?_
            refine ret1 (.inr rfl) (by kernel_rfl) (resV_tmp s4_9) (.ro _ rfl) ?_
            clear s4_9 mo0_1 ml_1
            (rw [stopE, if_pos (by simp [withinB]; omega)]; have hl : (ps.getD stop.toNat default).leave = true := (by assumption); rw [hl]; rfl)))
set_option maxRecDepth 100000 in
set_option maxHeartbeats 4000000 in
theorem rCurveOf_ok (nm : ByteArray) (ps : List Piece) (hok : trackR ps) (b d v : Int) (hb : sysR b d v) (stop : Int) (h0 : 0 ≤ stop) (h1 : stop < ps.length) :
    FnOk Try.prog 30 [trA nm ps, syA b d v, iA stop] (fun q => q = .row 1 ((bwL ps b 0 (stop + 1).toNat).map iE)) := by
  obtain ⟨q1, q2, q3⟩ := hok
  obtain ⟨r1, r2, r3, r4⟩ := hb
  refine fnOk_of (fn := Try.f30) 53 (by kernel_rfl) rfl (by kernel_rfl) (Nat.le_of_ble_eq_true rfl) ?_
  intro e_0 m_0 hA hm_0
  have s0_0 : evA e_0 (.tmp 0) = _ := hA 0 _ rfl
  have s1_0 : evA e_0 (.tmp 1) = _ := hA 1 _ rfl
  have s2_0 : evA e_0 (.tmp 2) = _ := hA 2 _ rfl
  have ml_0 : m_0.length = 0 := by rw [hm_0]; rfl
  clear hA hm_0
  have hlw := liW_len ps (ps.length + 1)
  refine aw_seq ?_
  refine aw_text ?_
  refine al_stm (st_box s0_0 rfl ml_0) trivial rfl (fun m_1 hm_1 => ?_)
  have mo0_1 := m_push hm_1 ml_0
  (try simp only [packA_t, packA_f, iE, bE, setAt, cellsA, Value.cells, map_vc, map_vn, Nat.reduceAdd, qS, rep_iE, set_iE] at mo0_1)
  have ml_1 := m_push_l hm_1 ml_0
  have ml_1 : _ = 1 := ml_1
  clear hm_1
  refine al_stm (st_box (up_m rfl s1_0) rfl ml_1) trivial rfl (fun m_2 hm_2 => ?_)
  have mo1_2 := m_push hm_2 ml_1
  (try simp only [packA_t, packA_f, iE, bE, setAt, cellsA, Value.cells, map_vc, map_vn, Nat.reduceAdd, qS, rep_iE, set_iE] at mo1_2)
  have mo0_2 := m_push_o hm_2 mo0_1
  have ml_2 := m_push_l hm_2 ml_1
  have ml_2 : _ = 2 := ml_2
  clear hm_2 mo0_1
  refine al_ro' (ro_assign ev_c) trivial rfl ?_
  refine al_end (fun e_3 he_3 => ?_)
  have s2_3 := ef 2 he_3 (up_m rfl (u2 rfl s2_0))
  have s3_3 := ef 3 he_3 (u2 rfl up_h)
  have s4_3 := ef 4 he_3 (up_m rfl up_h)
  clear he_3 s0_0 s1_0 s2_0
  refine then_n ?_
  refine aw_seq ?_
  refine aw_text ?_
  refine al_ro' (ro_move s2_3) trivial rfl ?_
  first | (refine al_ro' (ro_add' up_h ev_c ?_) trivial rfl ?_; · (unfold In64; omega)) | refine al_ro' (ro_add up_h ev_c) trivial rfl ?_
  refine al_stm (st_mk k14_sl30 rfl rfl ml_2 up_h up_h (by first | decide | omega | (simp <;> omega)) (by first | omega | (simp only [lnS] <;> omega) | (simp <;> omega))) trivial rfl (fun m_4 hm_4 => ?_)
  have mo2_4 := m_push hm_4 ml_2
  (try simp only [packA_t, packA_f, iE, bE, setAt, cellsA, Value.cells, map_vc, map_vn, Nat.reduceAdd, qS, rep_iE, set_iE] at mo2_4)
  have mo1_4 := m_push_o hm_4 mo1_2
  have mo0_4 := m_push_o hm_4 mo0_2
  have ml_4 := m_push_l hm_4 ml_2
  have ml_4 : _ = 3 := ml_4
  clear hm_4 mo1_2 mo0_2
  refine al_ro' (ro_assign up_h) trivial rfl ?_
  refine al_end (fun e_5 he_5 => ?_)
  have s2_5 := ef 2 he_5 (u4 rfl s2_3)
  have s3_5 := ef 3 he_5 (u4 rfl s3_3)
  have s4_5 := ef 4 he_5 (u4 rfl s4_3)
  have s7_5 := ef 7 he_5 up_h
  clear he_5 s2_3 s3_3 s4_3
  refine then_n ?_
  refine aw_seq ?_
  refine aw_text ?_
  refine al_ro' (ro_eq (ro_ld_ptr k14_ty24 rfl mo0_4 s3_5 (by first | exact Nat.le_of_ble_eq_true rfl | omega | (simp only [lnS] <;> omega) | (simp <;> omega))) (by first | (simp only [packA_t, packA_f, iE, bE, setAt, cellsA, Value.cells, map_vc, map_vn, Nat.reduceAdd, qS, rep_iE, set_iE] <;> rfl) | rfl)) trivial rfl ?_
  refine al_ro' (ro_call (evL_cons up_h evL_nil) rfl (rLimitsAt_ok nm ps q1 (by omega) (by omega)) k14_hcf39) trivial rfl ?_
  refine al_ro' (ro_assign up_h) trivial rfl ?_
  refine al_end (fun e_6 he_6 => ?_)
  have s2_6 := ef 2 he_6 (up_m rfl (u2 rfl s2_5))
  have s3_6 := ef 3 he_6 (up_m rfl (u2 rfl s3_5))
  have s4_6 := ef 4 he_6 (up_m rfl (u2 rfl s4_5))
  have s7_6 := ef 7 he_6 (up_m rfl (u2 rfl s7_5))
  have s8_6 := ef 8 he_6 up_h
  clear he_6 s2_5 s3_5 s4_5 s7_5
  refine then_n ?_
  refine aw_seq ?_
  refine aw_seq ?_
  refine aw_text ?_
  refine al_ro' (ro_move s2_6) trivial rfl ?_
  refine al_ro' (ro_assign up_h) trivial rfl ?_
  refine al_end (fun e_7 he_7 => ?_)
  have s3_7 := ef 3 he_7 (u2 rfl s3_6)
  have s4_7 := ef 4 he_7 (u2 rfl s4_6)
  have s7_7 := ef 7 he_7 (u2 rfl s7_6)
  have s8_7 := ef 8 he_7 (u2 rfl s8_6)
  have s9_7 := ef 9 he_7 up_h
  clear he_7 s2_6 s3_6 s4_6 s7_6 s8_6
  refine then_n ?_
  refine aw_block ?_
  refine aw_loop (S := (Int × List Int)) (fun s e mem => match s with | ⟨i, xs⟩ => (evA e (.tmp 9) = .v (.int .i64 i)) ∧ (evA e (.tmp 3) = evA e_7 (.tmp 3)) ∧ (evA e (.tmp 4) = evA e_7 (.tmp 4)) ∧ (evA e (.tmp 7) = evA e_7 (.tmp 7)) ∧ (evA e (.tmp 8) = evA e_7 (.tmp 8)) ∧ (mem[2]? = some (.row 3 1 (xs.map iE))) ∧ (mem[1]? = m_4[1]?) ∧ (mem[0]? = m_4[0]?) ∧ (mem.length = 3) ∧ ((-1 ≤ i ∧ i < stop + 1 ∧ xs.length = (stop + 1).toNat + 1 ∧ ∀ j : Nat, i < j → j ≤ (stop + 1).toNat → xs.getD j default = bwD ps b 0 (stop + 1).toNat ((stop + 1).toNat - j)))) (fun s => match s with | ⟨i, xs⟩ => (i + 1).toNat) ⟨_, _⟩ ⟨s9_7, rfl, rfl, rfl, rfl, mo2_4, rfl, rfl, ml_4, ?_⟩ ?_
  · (refine ⟨by omega, by omega, by simp; omega, fun j hj hj2 => ?_⟩; have hjp : j = (stop + 1).toNat := (by omega); rw [hjp, Nat.sub_self]; simp [bwD, List.getD_eq_getElem?_getD, List.getElem?_replicate]; split <;> rfl)
  · rintro ⟨i, xs⟩ e_8 m_8 ⟨s9_8, k3_8, k4_8, k7_8, k8_8, mo2_8, mk1_8, mk0_8, ml_8, hinv⟩
    have s3_8 := k3_8.trans s3_7
    have s4_8 := k4_8.trans s4_7
    have s7_8 := k7_8.trans s7_7
    have s8_8 := k8_8.trans s8_7
    have mo1_8 := mk1_8.trans mo1_4
    have mo0_8 := mk0_8.trans mo0_4
    refine aw_seq ?_
    refine aw_seq ?_
    refine aw_text ?_
    refine al_ro' (ro_move s9_8) trivial rfl ?_
    refine al_ro' (ro_geq up_h ev_c) trivial rfl ?_
    refine al_end (fun e_9 he_9 => ?_)
    have s3_9 := ef 3 he_9 (u2 rfl s3_8)
    have s4_9 := ef 4 he_9 (u2 rfl s4_8)
    have s7_9 := ef 7 he_9 (u2 rfl s7_8)
    have s8_9 := ef 8 he_9 (u2 rfl s8_8)
    have s9_9 := ef 9 he_9 (u2 rfl s9_8)
    have s18_9 := ef 18 he_9 up_h
    clear he_9 s3_8 s4_8 s7_8 s8_8 s9_8
    refine then_n ?_
    refine aw_case s18_9 (fun hq_10 => ?_) (fun hq_10 => ?_)
    · (first | replace hq_10 := bnt hq_10 | replace hq_10 := bnf hq_10 | replace hq_10 := bt hq_10 | replace hq_10 := bf hq_10 | replace hq_10 := bt' hq_10 | replace hq_10 := bf' hq_10 | skip)
      first
      | (cases hq_10; done) | (exfalso; omega)
      | (
         (obtain ⟨p1, p2, p3, p4⟩ := hinv; have hq4 := p4 (i + 1).toNat (by omega) (by omega); have hbd := bwD_bound q1 (b := b) (post := (stop + 1).toNat) (sq := 0) (by omega) ((stop + 1).toNat - (i + 1).toNat); have hlb := limW_bound q1 i.toNat; have hpa := q1.at i.toNat; have hlos := los_bound (dec := b) (p := ps.getD i.toNat default) (by omega) hpa.1 hpa.2.1; have hset : (xs.set i.toNat (-1)).getD (i + 1).toNat default = xs.getD (i + 1).toNat default := getD_sn (by omega); have hse1 : (xs.set i.toNat (-1)).getD i.toNat default = -1 := getD_se (by omega); have hli : (liW ps (ps.length + 1)).getD i.toNat default = limW ps i.toNat := liW_at ps (by omega); have hstep : bwD ps b 0 (stop + 1).toNat ((stop + 1).toNat - i.toNat) = if bwD ps b 0 (stop + 1).toNat ((stop + 1).toNat - (i + 1).toNat) = -1 then -1 else max (-1) (min (limW ps i.toNat) (bwD ps b 0 (stop + 1).toNat ((stop + 1).toNat - (i + 1).toNat) + losW b (ps.getD i.toNat default))) := (by rw [show (stop + 1).toNat - i.toNat = ((stop + 1).toNat - (i + 1).toNat) + 1 by omega]; simp only [bwD]; rw [show (stop + 1).toNat - ((stop + 1).toNat - (i + 1).toNat) - 1 = i.toNat by omega]))
         refine aw_skip ?_
         refine then_n ?_
         refine aw_seq ?_
         refine aw_block ?_
         refine aw_seq ?_
         refine aw_text ?_
         refine al_ro' (ro_move s7_9) trivial rfl ?_
         refine al_ro' (ro_move (up_m rfl s9_9)) trivial rfl ?_
         refine al_ro' (ro_ix_own k14_sl30 mo2_8 (up_m rfl up_h) up_h (by first | decide | omega | (simp <;> omega)) (by first | omega | (simp only [lnS] <;> omega) | (simp <;> omega))) trivial rfl ?_
         refine al_stm (st_store_el up_h ev_c rfl rfl rfl mo2_8 (Nat.add_zero _).symm (by first | (refine idx_map ?_; first | omega | (simp only [lnS]; omega)) | (refine idx_mapI ?_; first | omega | (simp only [lnS]; omega)) | (refine idx_mapN ?_; first | omega | (simp only [lnS]; omega)) | rfl) k14_sz3 rfl (by first | exact Nat.le_of_ble_eq_true rfl | omega | (simp only [lnS] <;> omega) | (simp <;> omega))) trivial rfl (fun m_11 hm_11 => ?_)
         have mo2_11 := m_set hm_11 mo2_8
         (try simp only [packA_t, packA_f, iE, bE, setAt, cellsA, Value.cells, map_vc, map_vn, Nat.reduceAdd, qS, rep_iE, set_iE] at mo2_11)
         have mo1_11 := m_set_o hm_11 mo1_8 (by decide)
         have mo0_11 := m_set_o hm_11 mo0_8 (by decide)
         have ml_11 := m_set_l hm_11 ml_8
         clear hm_11 mo2_8 mo1_8 mo0_8
         refine al_end (fun e_12 he_12 => ?_)
         have s3_12 := ef 3 he_12 (up_n (up_m rfl (u2 rfl s3_9)))
         have s4_12 := ef 4 he_12 (up_n (up_m rfl (u2 rfl s4_9)))
         have s7_12 := ef 7 he_12 (up_n (up_m rfl (u2 rfl s7_9)))
         have s8_12 := ef 8 he_12 (up_n (up_m rfl (u2 rfl s8_9)))
         have s9_12 := ef 9 he_12 (up_n (up_m rfl (u2 rfl s9_9)))
         clear he_12 s18_9 s3_9 s4_9 s7_9 s8_9 s9_9
         refine then_n ?_
         refine aw_seq ?_
         refine aw_text ?_
         refine al_ro' (ro_move s7_12) trivial rfl ?_
         refine al_ro' (ro_move (up_m rfl s9_12)) trivial rfl ?_
         first | (refine al_ro' (ro_add' up_h ev_c ?_) trivial rfl ?_; · (unfold In64; omega)) | refine al_ro' (ro_add up_h ev_c) trivial rfl ?_
         refine al_ro' (ro_ix_own k14_sl30 mo2_11 (u2 rfl up_h) up_h (by first | decide | omega | (simp <;> omega)) (by first | omega | (simp only [lnS] <;> omega) | (simp <;> omega))) trivial rfl ?_
         refine al_ro' (ro_eq (ro_ld_el k14_ty3 rfl mo2_11 up_h (by first | exact Nat.le_of_ble_eq_true rfl | omega | (simp only [lnS] <;> omega) | (simp <;> omega)) (by first | (refine idx_map ?_; first | omega | (simp only [lnS]; omega)) | (refine idx_mapI ?_; first | omega | (simp only [lnS]; omega)) | (refine idx_mapN ?_; first | omega | (simp only [lnS]; omega)) | rfl)) (by first | (simp only [packA_t, packA_f, iE, bE, setAt, cellsA, Value.cells, map_vc, map_vn, Nat.reduceAdd, qS, rep_iE, set_iE] <;> rfl) | rfl)) trivial rfl ?_
         refine al_ro' (ro_neq up_h ev_c) trivial rfl ?_
         refine al_end (fun e_13 he_13 => ?_)
         have s3_13 := ef 3 he_13 (u2 rfl (u4 rfl s3_12))
         have s4_13 := ef 4 he_13 (u2 rfl (u4 rfl s4_12))
         have s7_13 := ef 7 he_13 (u2 rfl (u4 rfl s7_12))
         have s8_13 := ef 8 he_13 (u2 rfl (u4 rfl s8_12))
         have s9_13 := ef 9 he_13 (u2 rfl (u4 rfl s9_12))
         have s29_13 := ef 29 he_13 up_h
         clear he_13 s3_12 s4_12 s7_12 s8_12 s9_12
         refine then_n ?_
         refine aw_case s29_13 (fun hq_14 => ?_) (fun hq_14 => ?_)
         · (first | replace hq_14 := bnt hq_14 | replace hq_14 := bnf hq_14 | replace hq_14 := bt hq_14 | replace hq_14 := bf hq_14 | replace hq_14 := bt' hq_14 | replace hq_14 := bf' hq_14 | skip)
           first
           | (cases hq_14; done) | (exfalso; omega)
           | (
              refine aw_seq ?_
              refine aw_draw 17 (by kernel_rfl) (by kernel_rfl) (by kernel_rfl) ?_
              refine ds_ro' (ro_move s8_13) trivial rfl ?_
              refine ds_ro' (ro_move (up_m rfl s9_13)) trivial rfl ?_
              refine ds_ro' (ro_eq (ro_ix k14_sl30 (up_m rfl up_h) up_h (by first | decide | omega | (simp <;> omega)) (by first | (refine idx_map ?_; first | omega | (simp only [lnS]; omega)) | (refine idx_mapI ?_; first | omega | (simp only [lnS]; omega)) | (refine idx_mapN ?_; first | omega | (simp only [lnS]; omega)) | rfl)) (by first | (simp only [packA_t, packA_f, iE, bE, setAt, cellsA, Value.cells, map_vc, map_vn, Nat.reduceAdd, qS, rep_iE, set_iE] <;> rfl) | rfl)) trivial rfl ?_
              refine ds_ro' (ro_eq (ro_ld_ref k14_ty3 rfl up_h (by first | exact Nat.le_of_ble_eq_true rfl | omega | (simp only [lnS] <;> omega) | (simp <;> omega))) (by first | (simp only [packA_t, packA_f, iE, bE, setAt, cellsA, Value.cells, map_vc, map_vn, Nat.reduceAdd, qS, rep_iE, set_iE] <;> rfl) | rfl)) trivial rfl ?_
              refine ds_ro' (ro_move (u4 rfl s7_13)) trivial rfl ?_
              refine ds_ro' (ro_move (up_m rfl (u4 rfl s9_13))) trivial rfl ?_
              first | (refine ds_ro' (ro_add' up_h ev_c ?_) trivial rfl ?_; · (unfold In64; omega)) | refine ds_ro' (ro_add up_h ev_c) trivial rfl ?_
              refine ds_ro' (ro_ix_own k14_sl30 mo2_11 (u2 rfl up_h) up_h (by first | decide | omega | (simp <;> omega)) (by first | omega | (simp only [lnS] <;> omega) | (simp <;> omega))) trivial rfl ?_
              refine ds_ro' (ro_eq (ro_ld_el k14_ty3 rfl mo2_11 up_h (by first | exact Nat.le_of_ble_eq_true rfl | omega | (simp only [lnS] <;> omega) | (simp <;> omega)) (by first | (refine idx_map ?_; first | omega | (simp only [lnS]; omega)) | (refine idx_mapI ?_; first | omega | (simp only [lnS]; omega)) | (refine idx_mapN ?_; first | omega | (simp only [lnS]; omega)) | rfl)) (by first | (simp only [packA_t, packA_f, iE, bE, setAt, cellsA, Value.cells, map_vc, map_vn, Nat.reduceAdd, qS, rep_iE, set_iE] <;> rfl) | rfl)) trivial rfl ?_
              refine ds_ro' (ro_eq (ro_ld_ptr k14_ty24 rfl mo0_11 (up_m rfl (u8 rfl s3_13)) (by first | exact Nat.le_of_ble_eq_true rfl | omega | (simp only [lnS] <;> omega) | (simp <;> omega))) (by first | (simp only [packA_t, packA_f, iE, bE, setAt, cellsA, Value.cells, map_vc, map_vn, Nat.reduceAdd, qS, rep_iE, set_iE] <;> rfl) | rfl)) trivial rfl ?_
              refine ds_ro' (ro_move (u2 rfl (u8 rfl s9_13))) trivial rfl ?_
              refine ds_ro' (ro_fld_ptr k14_fl26_0 rfl (up_m rfl (u2 rfl (u8 rfl s4_13)))) trivial rfl ?_
              refine ds_ro' (ro_eq (ro_ld_ptr k14_ty3 rfl mo1_11 up_h (by first | exact Nat.le_of_ble_eq_true rfl | omega | (simp only [lnS] <;> omega) | (simp <;> omega))) (by first | (simp only [packA_t, packA_f, iE, bE, setAt, cellsA, Value.cells, map_vc, map_vn, Nat.reduceAdd, qS, rep_iE, set_iE] <;> rfl) | rfl)) trivial rfl ?_
              refine ds_ro' (ro_call (evL_cons (up_m rfl (u2 rfl up_h)) (evL_cons (u2 rfl up_h) (evL_cons up_h evL_nil))) rfl (rloses_ok nm ps q1 i (by omega) (by omega) b (by omega)) k14_hcf70) trivial rfl ?_
              first | (refine ds_ro' (ro_add' (up_m rfl (u4 rfl up_h)) up_h ?_) trivial rfl ?_; · (unfold In64; omega)) | refine ds_ro' (ro_add (up_m rfl (u4 rfl up_h)) up_h) trivial rfl ?_
              refine ds_ro' (ro_min (up_m rfl (u2 rfl (u8 rfl up_h))) up_h) trivial rfl ?_
              refine ds_ro' (ro_assign up_h) trivial rfl ?_
              refine ds_nil ?_
              refine al_end (fun e_15 he_15 => ?_)
              have s3_15 := ef 3 he_15 (up_m rfl (u16 rfl s3_13))
              have s4_15 := ef 4 he_15 (up_m rfl (u16 rfl s4_13))
              have s7_15 := ef 7 he_15 (up_m rfl (u16 rfl s7_13))
              have s8_15 := ef 8 he_15 (up_m rfl (u16 rfl s8_13))
              have s9_15 := ef 9 he_15 (up_m rfl (u16 rfl s9_13))
              have s10_15 := ef 10 he_15 up_h
              clear he_15 s29_13 s3_13 s4_13 s7_13 s8_13 s9_13
              refine then_n ?_
              refine aw_seq ?_
              refine aw_text ?_
              refine al_ro' (ro_move s10_15) trivial rfl ?_
              refine al_ro' (ro_geq up_h ev_c) trivial rfl ?_
              refine al_end (fun e_16 he_16 => ?_)
              have s3_16 := ef 3 he_16 (u2 rfl s3_15)
              have s4_16 := ef 4 he_16 (u2 rfl s4_15)
              have s7_16 := ef 7 he_16 (u2 rfl s7_15)
              have s8_16 := ef 8 he_16 (u2 rfl s8_15)
              have s9_16 := ef 9 he_16 (u2 rfl s9_15)
              have s10_16 := ef 10 he_16 (u2 rfl s10_15)
              have s47_16 := ef 47 he_16 up_h
              clear he_16 s10_15 s3_15 s4_15 s7_15 s8_15 s9_15
              refine then_n ?_
              refine aw_case s47_16 (fun hq_17 => ?_) (fun hq_17 => ?_)
              · (first | replace hq_17 := bnt hq_17 | replace hq_17 := bnf hq_17 | replace hq_17 := bt hq_17 | replace hq_17 := bf hq_17 | replace hq_17 := bt' hq_17 | replace hq_17 := bf' hq_17 | skip)
                first
                | (cases hq_17; done) | (exfalso; omega)
                | (
                   refine aw_text ?_
                   refine al_ro' (ro_move s7_16) trivial rfl ?_
                   refine al_ro' (ro_move (up_m rfl s9_16)) trivial rfl ?_
                   refine al_ro' (ro_move (u2 rfl s10_16)) trivial rfl ?_
                   refine al_ro' (ro_ix_own k14_sl30 mo2_11 (u2 rfl up_h) (up_m rfl up_h) (by first | decide | omega | (simp <;> omega)) (by first | omega | (simp only [lnS] <;> omega) | (simp <;> omega))) trivial rfl ?_
                   refine al_stm (st_store_el up_h (up_m rfl up_h) rfl rfl rfl mo2_11 (Nat.add_zero _).symm (by first | (refine idx_map ?_; first | omega | (simp only [lnS]; omega)) | (refine idx_mapI ?_; first | omega | (simp only [lnS]; omega)) | (refine idx_mapN ?_; first | omega | (simp only [lnS]; omega)) | rfl) k14_sz3 rfl (by first | exact Nat.le_of_ble_eq_true rfl | omega | (simp only [lnS] <;> omega) | (simp <;> omega))) trivial rfl (fun m_18 hm_18 => ?_)
                   have mo2_18 := m_set hm_18 mo2_11
                   (try simp only [packA_t, packA_f, iE, bE, setAt, cellsA, Value.cells, map_vc, map_vn, Nat.reduceAdd, qS, rep_iE, set_iE] at mo2_18)
                   have mo1_18 := m_set_o hm_18 mo1_11 (by decide)
                   have mo0_18 := m_set_o hm_18 mo0_11 (by decide)
                   have ml_18 := m_set_l hm_18 ml_11
                   clear hm_18 mo2_11 mo1_11 mo0_11
                   refine al_end (fun e_19 he_19 => ?_)
                   have s3_19 := ef 3 he_19 (up_n (u4 rfl s3_16))
                   have s4_19 := ef 4 he_19 (up_n (u4 rfl s4_16))
                   have s7_19 := ef 7 he_19 (up_n (u4 rfl s7_16))
                   have s8_19 := ef 8 he_19 (up_n (u4 rfl s8_16))
                   have s9_19 := ef 9 he_19 (up_n (u4 rfl s9_16))
                   clear he_19 s10_16 s3_16 s47_16 s4_16 s7_16 s8_16 s9_16
                   refine block_n ?_
                   refine then_n ?_
                   refine aw_text ?_
                   refine al_ro' (ro_move s9_19) trivial rfl ?_
                   first | (refine al_ro' (ro_sub' up_h ev_c ?_) trivial rfl ?_; · (unfold In64; omega)) | refine al_ro' (ro_sub up_h ev_c) trivial rfl ?_
                   refine al_ro' (ro_assign up_h) trivial rfl ?_
                   refine al_end (fun e_20 he_20 => ?_)
                   have s3_20 := ef 3 he_20 (up_m rfl (u2 rfl s3_19))
                   have s4_20 := ef 4 he_20 (up_m rfl (u2 rfl s4_19))
                   have s7_20 := ef 7 he_20 (up_m rfl (u2 rfl s7_19))
                   have s8_20 := ef 8 he_20 (up_m rfl (u2 rfl s8_19))
                   have s9_20 := ef 9 he_20 up_h
                   clear he_20 s3_19 s4_19 s7_19 s8_19 s9_19
                   refine then_n ?_
                   refine ⟨⟨_, _⟩, ⟨s9_20, (s3_20.trans s3_7.symm), (s4_20.trans s4_7.symm), (s7_20.trans s7_7.symm), (s8_20.trans s8_7.symm), mo2_18, (mo1_18.trans mo1_4.symm), (mo0_18.trans mo0_4.symm), ml_18, ?_⟩, ?_⟩
                   · (refine ⟨by omega, by omega, by simp; omega, fun j hj hj2 => ?_⟩; by_cases hji : j = i.toNat; (rw [hji, hstep]; first | (rw [getD_se (by simp; omega)]; omega) | omega); (rw [getD_sn (by omega)]; first | exact p4 j (by omega) hj2 | (rw [getD_sn (by omega)]; exact p4 j (by omega) hj2)))
                   · ((try dsimp only); omega))
              · (first | replace hq_17 := bnt hq_17 | replace hq_17 := bnf hq_17 | replace hq_17 := bt hq_17 | replace hq_17 := bf hq_17 | replace hq_17 := bt' hq_17 | replace hq_17 := bf' hq_17 | skip)
                first
                | (cases hq_17; done) | (exfalso; omega)
                | (
                   refine aw_skip ?_
                   refine block_n ?_
                   refine then_n ?_
                   refine aw_text ?_
                   refine al_ro' (ro_move s9_16) trivial rfl ?_
                   first | (refine al_ro' (ro_sub' up_h ev_c ?_) trivial rfl ?_; · (unfold In64; omega)) | refine al_ro' (ro_sub up_h ev_c) trivial rfl ?_
                   refine al_ro' (ro_assign up_h) trivial rfl ?_
                   refine al_end (fun e_21 he_21 => ?_)
                   have s3_21 := ef 3 he_21 (up_m rfl (u2 rfl s3_16))
                   have s4_21 := ef 4 he_21 (up_m rfl (u2 rfl s4_16))
                   have s7_21 := ef 7 he_21 (up_m rfl (u2 rfl s7_16))
                   have s8_21 := ef 8 he_21 (up_m rfl (u2 rfl s8_16))
                   have s9_21 := ef 9 he_21 up_h
                   clear he_21 s10_16 s3_16 s47_16 s4_16 s7_16 s8_16 s9_16
                   refine then_n ?_
                   refine ⟨⟨_, _⟩, ⟨s9_21, (s3_21.trans s3_7.symm), (s4_21.trans s4_7.symm), (s7_21.trans s7_7.symm), (s8_21.trans s8_7.symm), mo2_11, (mo1_11.trans mo1_4.symm), (mo0_11.trans mo0_4.symm), ml_11, ?_⟩, ?_⟩
                   · (refine ⟨by omega, by omega, by simp; omega, fun j hj hj2 => ?_⟩; by_cases hji : j = i.toNat; (rw [hji, hstep]; first | (rw [getD_se (by simp; omega)]; omega) | omega); (rw [getD_sn (by omega)]; first | exact p4 j (by omega) hj2 | (rw [getD_sn (by omega)]; exact p4 j (by omega) hj2)))
                   · ((try dsimp only); omega)))
         · (first | replace hq_14 := bnt hq_14 | replace hq_14 := bnf hq_14 | replace hq_14 := bt hq_14 | replace hq_14 := bf hq_14 | replace hq_14 := bt' hq_14 | replace hq_14 := bf' hq_14 | skip)
           first
           | (cases hq_14; done) | (exfalso; omega)
           | (
              refine aw_skip ?_
              refine block_n ?_
              refine then_n ?_
              refine aw_text ?_
              refine al_ro' (ro_move s9_13) trivial rfl ?_
              first | (refine al_ro' (ro_sub' up_h ev_c ?_) trivial rfl ?_; · (unfold In64; omega)) | refine al_ro' (ro_sub up_h ev_c) trivial rfl ?_
              refine al_ro' (ro_assign up_h) trivial rfl ?_
              refine al_end (fun e_22 he_22 => ?_)
              have s3_22 := ef 3 he_22 (up_m rfl (u2 rfl s3_13))
              have s4_22 := ef 4 he_22 (up_m rfl (u2 rfl s4_13))
              have s7_22 := ef 7 he_22 (up_m rfl (u2 rfl s7_13))
              have s8_22 := ef 8 he_22 (up_m rfl (u2 rfl s8_13))
              have s9_22 := ef 9 he_22 up_h
              clear he_22 s29_13 s3_13 s4_13 s7_13 s8_13 s9_13
              refine then_n ?_
              refine ⟨⟨_, _⟩, ⟨s9_22, (s3_22.trans s3_7.symm), (s4_22.trans s4_7.symm), (s7_22.trans s7_7.symm), (s8_22.trans s8_7.symm), mo2_11, (mo1_11.trans mo1_4.symm), (mo0_11.trans mo0_4.symm), ml_11, ?_⟩, ?_⟩
              · (refine ⟨by omega, by omega, by simp; omega, fun j hj hj2 => ?_⟩; by_cases hji : j = i.toNat; (rw [hji, hstep]; first | (rw [getD_se (by simp; omega)]; omega) | omega); (rw [getD_sn (by omega)]; first | exact p4 j (by omega) hj2 | (rw [getD_sn (by omega)]; exact p4 j (by omega) hj2)))
              · ((try dsimp only); omega)))
    · (first | replace hq_10 := bnt hq_10 | replace hq_10 := bnf hq_10 | replace hq_10 := bt hq_10 | replace hq_10 := bf hq_10 | replace hq_10 := bt' hq_10 | replace hq_10 := bf' hq_10 | skip)
      first
      | (cases hq_10; done) | (exfalso; omega)
      | (
         refine aw_exit ?_
         refine then_x ?_
         refine then_x ?_
         refine block_hit ?_
         refine then_n ?_
         refine aw_seq ?_
         refine aw_text ?_
         refine al_ro' (ro_move s7_9) trivial rfl ?_
         refine al_ro' (ro_assign up_h) trivial rfl ?_
         refine al_end (fun e_23 he_23 => ?_)
         have s6_23 := ef 6 he_23 up_h
         clear he_23 s18_9 s3_9 s4_9 s7_9 s8_9 s9_9
         refine then_n ?_
         refine aw_ret ?_
         refine ret1 (.inr rfl) (by kernel_rfl) (resV_tmp s6_23) (.own _ _ _ _ mo2_8) ?_
         clear s6_23 mo2_8 mo1_8 mo0_8 ml_8
         (obtain ⟨p1, p2, p3, p4⟩ := hinv; congr 2; exact list_eq p3 (fun j hj => p4 j (by omega) (by omega))))
set_option maxRecDepth 100000 in
set_option maxHeartbeats 4000000 in
theorem rLeastOf_ok (nm : ByteArray) (ps : List Piece) (hok : trackR ps) (b d v : Int) (hb : sysR b d v) (stop : Int) (h0 : 0 ≤ stop) (h1 : stop < ps.length) :
    FnOk Try.prog 31 [trA nm ps, syA b d v, iA stop] (fun q => q = .row 1 ((leL ps d stop.toNat).map iE)) := by
  obtain ⟨q1, q2, q3⟩ := hok
  obtain ⟨r1, r2, r3, r4⟩ := hb
  refine fnOk_of (fn := Try.f31) 34 (by kernel_rfl) rfl (by kernel_rfl) (Nat.le_of_ble_eq_true rfl) ?_
  intro e_0 m_0 hA hm_0
  have s0_0 : evA e_0 (.tmp 0) = _ := hA 0 _ rfl
  have s1_0 : evA e_0 (.tmp 1) = _ := hA 1 _ rfl
  have s2_0 : evA e_0 (.tmp 2) = _ := hA 2 _ rfl
  have ml_0 : m_0.length = 0 := by rw [hm_0]; rfl
  clear hA hm_0
  refine aw_seq ?_
  refine aw_text ?_
  refine al_stm (st_box s0_0 rfl ml_0) trivial rfl (fun m_1 hm_1 => ?_)
  have mo0_1 := m_push hm_1 ml_0
  (try simp only [packA_t, packA_f, iE, bE, setAt, cellsA, Value.cells, map_vc, map_vn, Nat.reduceAdd, qS, rep_iE, set_iE] at mo0_1)
  have ml_1 := m_push_l hm_1 ml_0
  have ml_1 : _ = 1 := ml_1
  clear hm_1
  refine al_stm (st_box (up_m rfl s1_0) rfl ml_1) trivial rfl (fun m_2 hm_2 => ?_)
  have mo1_2 := m_push hm_2 ml_1
  (try simp only [packA_t, packA_f, iE, bE, setAt, cellsA, Value.cells, map_vc, map_vn, Nat.reduceAdd, qS, rep_iE, set_iE] at mo1_2)
  have mo0_2 := m_push_o hm_2 mo0_1
  have ml_2 := m_push_l hm_2 ml_1
  have ml_2 : _ = 2 := ml_2
  clear hm_2 mo0_1
  refine al_ro' (ro_assign ev_c) trivial rfl ?_
  refine al_end (fun e_3 he_3 => ?_)
  have s2_3 := ef 2 he_3 (up_m rfl (u2 rfl s2_0))
  have s3_3 := ef 3 he_3 (u2 rfl up_h)
  have s4_3 := ef 4 he_3 (up_m rfl up_h)
  clear he_3 s0_0 s1_0 s2_0
  refine then_n ?_
  refine aw_seq ?_
  refine aw_text ?_
  refine al_ro' (ro_move s2_3) trivial rfl ?_
  first | (refine al_ro' (ro_add' up_h ev_c ?_) trivial rfl ?_; · (unfold In64; omega)) | refine al_ro' (ro_add up_h ev_c) trivial rfl ?_
  refine al_stm (st_mk k14_sl30 rfl rfl ml_2 up_h up_h (by first | decide | omega | (simp <;> omega)) (by first | omega | (simp only [lnS] <;> omega) | (simp <;> omega))) trivial rfl (fun m_4 hm_4 => ?_)
  have mo2_4 := m_push hm_4 ml_2
  (try simp only [packA_t, packA_f, iE, bE, setAt, cellsA, Value.cells, map_vc, map_vn, Nat.reduceAdd, qS, rep_iE, set_iE] at mo2_4)
  have mo1_4 := m_push_o hm_4 mo1_2
  have mo0_4 := m_push_o hm_4 mo0_2
  have ml_4 := m_push_l hm_4 ml_2
  have ml_4 : _ = 3 := ml_4
  clear hm_4 mo1_2 mo0_2
  refine al_ro' (ro_assign up_h) trivial rfl ?_
  refine al_end (fun e_5 he_5 => ?_)
  have s2_5 := ef 2 he_5 (u4 rfl s2_3)
  have s3_5 := ef 3 he_5 (u4 rfl s3_3)
  have s4_5 := ef 4 he_5 (u4 rfl s4_3)
  have s7_5 := ef 7 he_5 up_h
  clear he_5 s2_3 s3_3 s4_3
  refine then_n ?_
  refine aw_seq ?_
  refine aw_seq ?_
  refine aw_text ?_
  refine al_ro' (ro_move s2_5) trivial rfl ?_
  first | (refine al_ro' (ro_sub' up_h ev_c ?_) trivial rfl ?_; · (unfold In64; omega)) | refine al_ro' (ro_sub up_h ev_c) trivial rfl ?_
  refine al_ro' (ro_assign up_h) trivial rfl ?_
  refine al_end (fun e_6 he_6 => ?_)
  have s3_6 := ef 3 he_6 (up_m rfl (u2 rfl s3_5))
  have s4_6 := ef 4 he_6 (up_m rfl (u2 rfl s4_5))
  have s7_6 := ef 7 he_6 (up_m rfl (u2 rfl s7_5))
  have s8_6 := ef 8 he_6 up_h
  clear he_6 s2_5 s3_5 s4_5 s7_5
  refine then_n ?_
  refine aw_block ?_
  refine aw_loop (S := (Int × List Int)) (fun s e mem => match s with | ⟨i, xs⟩ => (evA e (.tmp 8) = .v (.int .i64 i)) ∧ (evA e (.tmp 3) = evA e_6 (.tmp 3)) ∧ (evA e (.tmp 4) = evA e_6 (.tmp 4)) ∧ (evA e (.tmp 7) = evA e_6 (.tmp 7)) ∧ (mem[2]? = some (.row 3 1 (xs.map iE))) ∧ (mem[1]? = m_4[1]?) ∧ (mem[0]? = m_4[0]?) ∧ (mem.length = 3) ∧ ((-1 ≤ i ∧ i < stop ∧ xs.length = stop.toNat + 1 ∧ ∀ j : Nat, i < j → j ≤ stop.toNat → xs.getD j default = leD ps d stop.toNat (stop.toNat - j)))) (fun s => match s with | ⟨i, xs⟩ => (i + 1).toNat) ⟨_, _⟩ ⟨s8_6, rfl, rfl, rfl, mo2_4, rfl, rfl, ml_4, ?_⟩ ?_
  · (refine ⟨by omega, by omega, by simp; omega, fun j hj hj2 => ?_⟩; have hjp : j = stop.toNat := (by omega); rw [hjp, Nat.sub_self]; simp [leD, List.getD_eq_getElem?_getD, List.getElem?_replicate]; split <;> rfl)
  · rintro ⟨i, xs⟩ e_7 m_7 ⟨s8_7, k3_7, k4_7, k7_7, mo2_7, mk1_7, mk0_7, ml_7, hinv⟩
    have s3_7 := k3_7.trans s3_6
    have s4_7 := k4_7.trans s4_6
    have s7_7 := k7_7.trans s7_6
    have mo1_7 := mk1_7.trans mo1_4
    have mo0_7 := mk0_7.trans mo0_4
    refine aw_seq ?_
    refine aw_seq ?_
    refine aw_text ?_
    refine al_ro' (ro_move s8_7) trivial rfl ?_
    refine al_ro' (ro_geq up_h ev_c) trivial rfl ?_
    refine al_end (fun e_8 he_8 => ?_)
    have s3_8 := ef 3 he_8 (u2 rfl s3_7)
    have s4_8 := ef 4 he_8 (u2 rfl s4_7)
    have s7_8 := ef 7 he_8 (u2 rfl s7_7)
    have s8_8 := ef 8 he_8 (u2 rfl s8_7)
    have s15_8 := ef 15 he_8 up_h
    clear he_8 s3_7 s4_7 s7_7 s8_7
    refine then_n ?_
    refine aw_case s15_8 (fun hq_9 => ?_) (fun hq_9 => ?_)
    · (first | replace hq_9 := bnt hq_9 | replace hq_9 := bnf hq_9 | replace hq_9 := bt hq_9 | replace hq_9 := bf hq_9 | replace hq_9 := bt' hq_9 | replace hq_9 := bf' hq_9 | skip)
      first
      | (cases hq_9; done) | (exfalso; omega)
      | (
         (obtain ⟨p1, p2, p3, p4⟩ := hinv; have hq4 := p4 (i + 1).toNat (by omega) (by omega); have hbd := leD_bound q1 (d := d) (stop := stop.toNat) (by omega) (stop.toNat - (i + 1).toNat); have hpa := q1.at i.toNat; have hlos := los_bound (dec := d) (p := ps.getD i.toNat default) (by omega) hpa.1 hpa.2.1; have hstep : leD ps d stop.toNat (stop.toNat - i.toNat) = max 0 (leD ps d stop.toNat (stop.toNat - (i + 1).toNat) + losW d (ps.getD i.toNat default)) := (by rw [show stop.toNat - i.toNat = (stop.toNat - (i + 1).toNat) + 1 by omega]; simp only [leD]; rw [show stop.toNat - (stop.toNat - (i + 1).toNat) - 1 = i.toNat by omega]))
         refine aw_skip ?_
         refine then_n ?_
         refine aw_seq ?_
         refine aw_block ?_
         refine aw_draw 15 (by kernel_rfl) (by kernel_rfl) (by kernel_rfl) ?_
         refine ds_ro' (ro_move s7_8) trivial rfl ?_
         refine ds_ro' (ro_move (up_m rfl s8_8)) trivial rfl ?_
         refine ds_ro' (ro_move (u2 rfl s7_8)) trivial rfl ?_
         refine ds_ro' (ro_move (up_m rfl (u2 rfl s8_8))) trivial rfl ?_
         first | (refine ds_ro' (ro_add' up_h ev_c ?_) trivial rfl ?_; · (unfold In64; omega)) | refine ds_ro' (ro_add up_h ev_c) trivial rfl ?_
         refine ds_ro' (ro_ix_own k14_sl30 mo2_7 (u2 rfl up_h) up_h (by first | decide | omega | (simp <;> omega)) (by first | omega | (simp only [lnS] <;> omega) | (simp <;> omega))) trivial rfl ?_
         refine ds_ro' (ro_eq (ro_ld_el k14_ty3 rfl mo2_7 up_h (by first | exact Nat.le_of_ble_eq_true rfl | omega | (simp only [lnS] <;> omega) | (simp <;> omega)) (by first | (refine idx_map ?_; first | omega | (simp only [lnS]; omega)) | (refine idx_mapI ?_; first | omega | (simp only [lnS]; omega)) | (refine idx_mapN ?_; first | omega | (simp only [lnS]; omega)) | rfl)) (by first | (simp only [packA_t, packA_f, iE, bE, setAt, cellsA, Value.cells, map_vc, map_vn, Nat.reduceAdd, qS, rep_iE, set_iE] <;> rfl) | rfl)) trivial rfl ?_
         refine ds_ro' (ro_eq (ro_ld_ptr k14_ty24 rfl mo0_7 (up_m rfl (u2 rfl (u4 rfl s3_8))) (by first | exact Nat.le_of_ble_eq_true rfl | omega | (simp only [lnS] <;> omega) | (simp <;> omega))) (by first | (simp only [packA_t, packA_f, iE, bE, setAt, cellsA, Value.cells, map_vc, map_vn, Nat.reduceAdd, qS, rep_iE, set_iE] <;> rfl) | rfl)) trivial rfl ?_
         refine ds_ro' (ro_move (u8 rfl s8_8)) trivial rfl ?_
         refine ds_ro' (ro_fld_ptr k14_fl26_1 rfl (up_m rfl (u8 rfl s4_8))) trivial rfl ?_
         refine ds_ro' (ro_eq (ro_ld_ptr k14_ty3 rfl mo1_7 up_h (by first | exact Nat.le_of_ble_eq_true rfl | omega | (simp only [lnS] <;> omega) | (simp <;> omega))) (by first | (simp only [packA_t, packA_f, iE, bE, setAt, cellsA, Value.cells, map_vc, map_vn, Nat.reduceAdd, qS, rep_iE, set_iE] <;> rfl) | rfl)) trivial rfl ?_
         refine ds_ro' (ro_call (evL_cons (up_m rfl (u2 rfl up_h)) (evL_cons (u2 rfl up_h) (evL_cons up_h evL_nil))) rfl (rloses_ok nm ps q1 i (by omega) (by omega) d (by omega)) k14_hcf70) trivial rfl ?_
         first | (refine ds_ro' (ro_add' (up_m rfl (u4 rfl up_h)) up_h ?_) trivial rfl ?_; · (unfold In64; omega)) | refine ds_ro' (ro_add (up_m rfl (u4 rfl up_h)) up_h) trivial rfl ?_
         refine ds_ro' (ro_max ev_c up_h) trivial rfl ?_
         refine ds_ro' (ro_ix_own k14_sl30 mo2_7 (up_m rfl (u4 rfl (u8 rfl up_h))) (u4 rfl (u8 rfl up_h)) (by first | decide | omega | (simp <;> omega)) (by first | omega | (simp only [lnS] <;> omega) | (simp <;> omega))) trivial rfl ?_
         refine ds_nil ?_
         refine al_stm (st_store_el up_h (up_m rfl up_h) rfl rfl rfl mo2_7 (Nat.add_zero _).symm (by first | (refine idx_map ?_; first | omega | (simp only [lnS]; omega)) | (refine idx_mapI ?_; first | omega | (simp only [lnS]; omega)) | (refine idx_mapN ?_; first | omega | (simp only [lnS]; omega)) | rfl) k14_sz3 rfl (by first | exact Nat.le_of_ble_eq_true rfl | omega | (simp only [lnS] <;> omega) | (simp <;> omega))) trivial rfl (fun m_10 hm_10 => ?_)
         have mo2_10 := m_set hm_10 mo2_7
         (try simp only [packA_t, packA_f, iE, bE, setAt, cellsA, Value.cells, map_vc, map_vn, Nat.reduceAdd, qS, rep_iE, set_iE] at mo2_10)
         have mo1_10 := m_set_o hm_10 mo1_7 (by decide)
         have mo0_10 := m_set_o hm_10 mo0_7 (by decide)
         have ml_10 := m_set_l hm_10 ml_7
         clear hm_10 mo2_7 mo1_7 mo0_7
         refine al_end (fun e_11 he_11 => ?_)
         have s3_11 := ef 3 he_11 (up_n (up_m rfl (u2 rfl (u4 rfl (u8 rfl s3_8)))))
         have s4_11 := ef 4 he_11 (up_n (up_m rfl (u2 rfl (u4 rfl (u8 rfl s4_8)))))
         have s7_11 := ef 7 he_11 (up_n (up_m rfl (u2 rfl (u4 rfl (u8 rfl s7_8)))))
         have s8_11 := ef 8 he_11 (up_n (up_m rfl (u2 rfl (u4 rfl (u8 rfl s8_8)))))
         clear he_11 s15_8 s3_8 s4_8 s7_8 s8_8
         refine block_n ?_
         refine then_n ?_
         refine aw_text ?_
         refine al_ro' (ro_move s8_11) trivial rfl ?_
         first | (refine al_ro' (ro_sub' up_h ev_c ?_) trivial rfl ?_; · (unfold In64; omega)) | refine al_ro' (ro_sub up_h ev_c) trivial rfl ?_
         refine al_ro' (ro_assign up_h) trivial rfl ?_
         refine al_end (fun e_12 he_12 => ?_)
         have s3_12 := ef 3 he_12 (up_m rfl (u2 rfl s3_11))
         have s4_12 := ef 4 he_12 (up_m rfl (u2 rfl s4_11))
         have s7_12 := ef 7 he_12 (up_m rfl (u2 rfl s7_11))
         have s8_12 := ef 8 he_12 up_h
         clear he_12 s3_11 s4_11 s7_11 s8_11
         refine then_n ?_
         refine ⟨⟨_, _⟩, ⟨s8_12, (s3_12.trans s3_6.symm), (s4_12.trans s4_6.symm), (s7_12.trans s7_6.symm), mo2_10, (mo1_10.trans mo1_4.symm), (mo0_10.trans mo0_4.symm), ml_10, ?_⟩, ?_⟩
         · (refine ⟨by omega, by omega, by simp; omega, fun j hj hj2 => ?_⟩; by_cases hji : j = i.toNat; (rw [hji, hstep, getD_se (by omega), hq4]); (rw [getD_sn (by omega)]; exact p4 j (by omega) hj2))
         · ((try dsimp only); omega))
    · (first | replace hq_9 := bnt hq_9 | replace hq_9 := bnf hq_9 | replace hq_9 := bt hq_9 | replace hq_9 := bf hq_9 | replace hq_9 := bt' hq_9 | replace hq_9 := bf' hq_9 | skip)
      first
      | (cases hq_9; done) | (exfalso; omega)
      | (
         refine aw_exit ?_
         refine then_x ?_
         refine then_x ?_
         refine block_hit ?_
         refine then_n ?_
         refine aw_seq ?_
         refine aw_text ?_
         refine al_ro' (ro_move s7_8) trivial rfl ?_
         refine al_ro' (ro_assign up_h) trivial rfl ?_
         refine al_end (fun e_13 he_13 => ?_)
         have s6_13 := ef 6 he_13 up_h
         clear he_13 s15_8 s3_8 s4_8 s7_8 s8_8
         refine then_n ?_
         refine aw_ret ?_
         refine ret1 (.inr rfl) (by kernel_rfl) (resV_tmp s6_13) (.own _ _ _ _ mo2_7) ?_
         clear s6_13 mo2_7 mo1_7 mo0_7 ml_7
         (obtain ⟨p1, p2, p3, p4⟩ := hinv; congr 2; exact list_eq p3 (fun j hj => p4 j (by omega) (by omega))))
theorem firstE_two (a b : Int) : firstE [a, b] = if a = 0 then b else a := by
  simp only [firstE]
  by_cases h : a = 0
  · rw [if_pos h, if_pos h]; split <;> simp_all
  · rw [if_neg h, if_neg h]
set_option maxRecDepth 100000 in
set_option maxHeartbeats 4000000 in
theorem brakeCurves_ok (nm : ByteArray) (ps : List Piece) (b d v : Int) (stop : Int) : FnOk Try.prog 5 [trA nm ps, syA b d v, iA stop] (fun q => q = bA true) := by
  refine fnOk_of (fn := Try.f5) 81 (by kernel_rfl) rfl (by kernel_rfl) (Nat.le_of_ble_eq_true rfl) ?_
  intro e_0 m_0 hA hm_0
  have s0_0 : evA e_0 (.tmp 0) = _ := hA 0 _ rfl
  have s1_0 : evA e_0 (.tmp 1) = _ := hA 1 _ rfl
  have s2_0 : evA e_0 (.tmp 2) = _ := hA 2 _ rfl
  have ml_0 : m_0.length = 0 := by rw [hm_0]; rfl
  clear hA hm_0
  refine aw_seq ?_
  refine aw_text ?_
  refine al_stm (st_box s0_0 rfl ml_0) trivial rfl (fun m_1 hm_1 => ?_)
  have mo0_1 := m_push hm_1 ml_0
  (try simp only [packA_t, packA_f, iE, bE, setAt, cellsA, Value.cells, map_vc, map_vn, Nat.reduceAdd, qS] at mo0_1)
  have ml_1 := m_push_l hm_1 ml_0
  have ml_1 : _ = 1 := ml_1
  clear hm_1
  refine al_stm (st_box (up_m rfl s1_0) rfl ml_1) trivial rfl (fun m_2 hm_2 => ?_)
  have mo1_2 := m_push hm_2 ml_1
  (try simp only [packA_t, packA_f, iE, bE, setAt, cellsA, Value.cells, map_vc, map_vn, Nat.reduceAdd, qS] at mo1_2)
  have mo0_2 := m_push_o hm_2 mo0_1
  have ml_2 := m_push_l hm_2 ml_1
  have ml_2 : _ = 2 := ml_2
  clear hm_2 mo0_1
  refine al_ro' (ro_assign ev_c) trivial rfl ?_
  refine al_end (fun e_3 he_3 => ?_)
  have s2_3 := ef 2 he_3 (up_m rfl (u2 rfl s2_0))
  have s3_3 := ef 3 he_3 (u2 rfl up_h)
  have s4_3 := ef 4 he_3 (up_m rfl up_h)
  clear he_3 s0_0 s1_0 s2_0
  refine then_n ?_
  refine aw_seq ?_
  refine aw_seq ?_
  refine aw_text ?_
  refine al_ro' (ro_call evL_nil rfl (awake_ok) k14_hcf15) trivial rfl ?_
  refine al_ro' (ro_not up_h) trivial rfl ?_
  refine al_end (fun e_4 he_4 => ?_)
  have s2_4 := ef 2 he_4 (u2 rfl s2_3)
  have s3_4 := ef 3 he_4 (u2 rfl s3_3)
  have s4_4 := ef 4 he_4 (u2 rfl s4_3)
  have s13_4 := ef 13 he_4 up_h
  clear he_4 s2_3 s3_3 s4_3
  refine then_n ?_
  refine aw_case s13_4 (fun hq_5 => ?_) (fun hq_5 => ?_)
  · (first | replace hq_5 := bnt hq_5 | replace hq_5 := bnf hq_5 | replace hq_5 := bt hq_5 | replace hq_5 := bf hq_5 | replace hq_5 := bt' hq_5 | replace hq_5 := bf' hq_5 | skip)
    first
    | (cases hq_5; done) | (exfalso; omega)
    | (
       refine aw_seq ?_
       refine aw_text ?_
       refine al_ro' (ro_assign ev_c) trivial rfl ?_
       refine al_end (fun e_6 he_6 => ?_)
       have s6_6 := ef 6 he_6 up_h
       clear he_6 s13_4 s2_4 s3_4 s4_4
       refine then_n ?_
       refine aw_ret ?_
       refine then_r ?_
       refine ret1 (.inr rfl) (by kernel_rfl) (resV_tmp s6_6) (.ro _ rfl) ?_
       clear s6_6 mo1_2 mo0_2 ml_2
       first | rfl | (simp; done) | (simp_all; done) | omega)
  · (first | replace hq_5 := bnt hq_5 | replace hq_5 := bnf hq_5 | replace hq_5 := bt hq_5 | replace hq_5 := bf hq_5 | replace hq_5 := bt' hq_5 | replace hq_5 := bf' hq_5 | skip)
    first
    | (cases hq_5; done) | (exfalso; omega)
    | (
       refine aw_skip ?_
       refine then_n ?_
       refine aw_seq ?_
       refine aw_seq ?_
       refine aw_text ?_
       refine al_ro' (ro_eq (ro_ld_ptr k14_ty24 rfl mo0_2 s3_4 (by first | exact Nat.le_of_ble_eq_true rfl | omega | (simp only [lnS] <;> omega) | (simp <;> omega))) (by first | (simp only [packA_t, packA_f, iE, bE, setAt, cellsA, Value.cells, map_vc, map_vn, Nat.reduceAdd, qS] <;> rfl) | rfl)) trivial rfl ?_
       refine al_ro' (ro_call (evL_cons up_h evL_nil) rfl (short_ok nm ps) k14_hcf16) trivial rfl ?_
       refine al_ro' (ro_not up_h) trivial rfl ?_
       refine al_end (fun e_7 he_7 => ?_)
       have s2_7 := ef 2 he_7 (up_m rfl (u2 rfl s2_4))
       have s3_7 := ef 3 he_7 (up_m rfl (u2 rfl s3_4))
       have s4_7 := ef 4 he_7 (up_m rfl (u2 rfl s4_4))
       have s16_7 := ef 16 he_7 up_h
       clear he_7 s13_4 s2_4 s3_4 s4_4
       refine then_n ?_
       refine aw_case s16_7 (fun hq_8 => ?_) (fun hq_8 => ?_)
       · (first | replace hq_8 := bnt hq_8 | replace hq_8 := bnf hq_8 | replace hq_8 := bt hq_8 | replace hq_8 := bf hq_8 | replace hq_8 := bt' hq_8 | replace hq_8 := bf' hq_8 | skip)
         first
         | (cases hq_8; done) | (exfalso; omega)
         | (
            refine aw_seq ?_
            refine aw_text ?_
            refine al_ro' (ro_assign ev_c) trivial rfl ?_
            refine al_end (fun e_9 he_9 => ?_)
            have s6_9 := ef 6 he_9 up_h
            clear he_9 s16_7 s2_7 s3_7 s4_7
            refine then_n ?_
            refine aw_ret ?_
            refine then_r ?_
            refine ret1 (.inr rfl) (by kernel_rfl) (resV_tmp s6_9) (.ro _ rfl) ?_
            clear s6_9 mo1_2 mo0_2 ml_2
            first | rfl | (simp; done) | (simp_all; done) | omega)
       · (first | replace hq_8 := bnt hq_8 | replace hq_8 := bnf hq_8 | replace hq_8 := bt hq_8 | replace hq_8 := bf hq_8 | replace hq_8 := bt' hq_8 | replace hq_8 := bf' hq_8 | skip)
         first
         | (cases hq_8; done) | (exfalso; omega)
         | (
            (have hsh : nm.size ≤ 30 ∧ ps.length ≤ 14 := (by assumption); have hs : nm.size ≤ 1000000000 := (by omega); have hp : ps.length ≤ 1000000000 := (by omega); have hcu : curE nm ps b d v stop = if firstE [(chk nm ps).2, sysE b d v] = 0 then stopE ps stop else firstE [(chk nm ps).2, sysE b d v] := firstE_two _ _)
            refine aw_skip ?_
            refine then_n ?_
            refine aw_seq ?_
            refine aw_draw 10 (by kernel_rfl) (by kernel_rfl) (by kernel_rfl) ?_
            refine ds_ro' (ro_eq (ro_ld_ptr k14_ty24 rfl mo0_2 s3_7 (by first | exact Nat.le_of_ble_eq_true rfl | omega | (simp only [lnS] <;> omega) | (simp <;> omega))) (by first | (simp only [packA_t, packA_f, iE, bE, setAt, cellsA, Value.cells, map_vc, map_vn, Nat.reduceAdd, qS] <;> rfl) | rfl)) trivial rfl ?_
            refine ds_ro' (ro_call (evL_cons up_h evL_nil) rfl (rCopy_ok nm ps hp) k14_hcf18) trivial rfl ?_
            refine ds_ro' (ro_eq (ro_ld_ptr k14_ty26 rfl mo1_2 (u2 rfl s4_7) (by first | exact Nat.le_of_ble_eq_true rfl | omega | (simp only [lnS] <;> omega) | (simp <;> omega))) (by first | (simp only [packA_t, packA_f, iE, bE, setAt, cellsA, Value.cells, map_vc, map_vn, Nat.reduceAdd, qS] <;> rfl) | rfl)) trivial rfl ?_
            refine ds_ro' (ro_move (up_m rfl (u2 rfl s2_7))) trivial rfl ?_
            refine ds_ro' (ro_call (evL_cons (u2 rfl up_h) (evL_cons (up_m rfl up_h) (evL_cons up_h evL_nil))) rfl (curveOf_ok nm ps hs hp b d v stop) k14_hcf28) trivial rfl ?_
            refine ds_ro' (ro_move up_h) trivial rfl ?_
            refine ds_ro' (ro_extract up_h rfl) trivial rfl ?_
            refine ds_ro' (ro_extract (up_m rfl up_h) rfl) trivial rfl ?_
            refine ds_ro' (ro_assign (up_m rfl up_h)) trivial rfl ?_
            refine ds_ro' (ro_assign (up_m rfl up_h)) trivial rfl ?_
            refine ds_nil ?_
            refine al_end (fun e_10 he_10 => ?_)
            have s2_10 := ef 2 he_10 (u2 rfl (u8 rfl s2_7))
            have s3_10 := ef 3 he_10 (u2 rfl (u8 rfl s3_7))
            have s4_10 := ef 4 he_10 (u2 rfl (u8 rfl s4_7))
            have s7_10 := ef 7 he_10 (up_m rfl up_h)
            have s8_10 := ef 8 he_10 up_h
            clear he_10 s16_7 s2_7 s3_7 s4_7
            refine then_n ?_
            refine aw_seq ?_
            refine aw_draw 10 (by kernel_rfl) (by kernel_rfl) (by kernel_rfl) ?_
            refine ds_ro' (ro_eq (ro_ld_ptr k14_ty24 rfl mo0_2 s3_10 (by first | exact Nat.le_of_ble_eq_true rfl | omega | (simp only [lnS] <;> omega) | (simp <;> omega))) (by first | (simp only [packA_t, packA_f, iE, bE, setAt, cellsA, Value.cells, map_vc, map_vn, Nat.reduceAdd, qS] <;> rfl) | rfl)) trivial rfl ?_
            refine ds_ro' (ro_call (evL_cons up_h evL_nil) rfl (rCopy_ok nm ps hp) k14_hcf18) trivial rfl ?_
            refine ds_ro' (ro_eq (ro_ld_ptr k14_ty26 rfl mo1_2 (u2 rfl s4_10) (by first | exact Nat.le_of_ble_eq_true rfl | omega | (simp only [lnS] <;> omega) | (simp <;> omega))) (by first | (simp only [packA_t, packA_f, iE, bE, setAt, cellsA, Value.cells, map_vc, map_vn, Nat.reduceAdd, qS] <;> rfl) | rfl)) trivial rfl ?_
            refine ds_ro' (ro_move (up_m rfl (u2 rfl s2_10))) trivial rfl ?_
            refine ds_ro' (ro_call (evL_cons (u2 rfl up_h) (evL_cons (up_m rfl up_h) (evL_cons up_h evL_nil))) rfl (leastOf_ok nm ps hs hp b d v stop) k14_hcf29) trivial rfl ?_
            refine ds_ro' (ro_move up_h) trivial rfl ?_
            refine ds_ro' (ro_extract up_h rfl) trivial rfl ?_
            refine ds_ro' (ro_extract (up_m rfl up_h) rfl) trivial rfl ?_
            refine ds_ro' (ro_assign (up_m rfl up_h)) trivial rfl ?_
            refine ds_ro' (ro_assign (up_m rfl up_h)) trivial rfl ?_
            refine ds_nil ?_
            refine al_end (fun e_11 he_11 => ?_)
            have s2_11 := ef 2 he_11 (u2 rfl (u8 rfl s2_10))
            have s3_11 := ef 3 he_11 (u2 rfl (u8 rfl s3_10))
            have s4_11 := ef 4 he_11 (u2 rfl (u8 rfl s4_10))
            have s7_11 := ef 7 he_11 (u2 rfl (u8 rfl s7_10))
            have s8_11 := ef 8 he_11 (u2 rfl (u8 rfl s8_10))
            have s9_11 := ef 9 he_11 (up_m rfl up_h)
            have s10_11 := ef 10 he_11 up_h
            clear he_11 s2_10 s3_10 s4_10 s7_10 s8_10
            refine then_n ?_
            refine aw_seq ?_
            refine aw_text ?_
            refine al_ro' (ro_eq (ro_ld_ptr k14_ty24 rfl mo0_2 s3_11 (by first | exact Nat.le_of_ble_eq_true rfl | omega | (simp only [lnS] <;> omega) | (simp <;> omega))) (by first | (simp only [packA_t, packA_f, iE, bE, setAt, cellsA, Value.cells, map_vc, map_vn, Nat.reduceAdd, qS] <;> rfl) | rfl)) trivial rfl ?_
            refine al_ro' (ro_eq (ro_ld_ptr k14_ty26 rfl mo1_2 (up_m rfl s4_11) (by first | exact Nat.le_of_ble_eq_true rfl | omega | (simp only [lnS] <;> omega) | (simp <;> omega))) (by first | (simp only [packA_t, packA_f, iE, bE, setAt, cellsA, Value.cells, map_vc, map_vn, Nat.reduceAdd, qS] <;> rfl) | rfl)) trivial rfl ?_
            refine al_ro' (ro_call (evL_cons (up_m rfl up_h) (evL_cons up_h evL_nil)) rfl (rBothErr_ok nm ps hs hp b d v) k14_hcf19) trivial rfl ?_
            refine al_ro' (ro_assign up_h) trivial rfl ?_
            refine al_end (fun e_12 he_12 => ?_)
            have s2_12 := ef 2 he_12 (u4 rfl s2_11)
            have s3_12 := ef 3 he_12 (u4 rfl s3_11)
            have s4_12 := ef 4 he_12 (u4 rfl s4_11)
            have s7_12 := ef 7 he_12 (u4 rfl s7_11)
            have s8_12 := ef 8 he_12 (u4 rfl s8_11)
            have s9_12 := ef 9 he_12 (u4 rfl s9_11)
            have s10_12 := ef 10 he_12 (u4 rfl s10_11)
            have s11_12 := ef 11 he_12 up_h
            clear he_12 s10_11 s2_11 s3_11 s4_11 s7_11 s8_11 s9_11
            refine then_n ?_
            refine aw_seq ?_
            refine aw_seq ?_
            refine aw_text ?_
            refine al_ro' (ro_move s11_12) trivial rfl ?_
            refine al_ro' (ro_eql up_h ev_c) trivial rfl ?_
            refine al_end (fun e_13 he_13 => ?_)
            have s2_13 := ef 2 he_13 (u2 rfl s2_12)
            have s3_13 := ef 3 he_13 (u2 rfl s3_12)
            have s4_13 := ef 4 he_13 (u2 rfl s4_12)
            have s7_13 := ef 7 he_13 (u2 rfl s7_12)
            have s8_13 := ef 8 he_13 (u2 rfl s8_12)
            have s9_13 := ef 9 he_13 (u2 rfl s9_12)
            have s10_13 := ef 10 he_13 (u2 rfl s10_12)
            have s11_13 := ef 11 he_13 (u2 rfl s11_12)
            have s37_13 := ef 37 he_13 up_h
            clear he_13 s10_12 s11_12 s2_12 s3_12 s4_12 s7_12 s8_12 s9_12
            refine then_n ?_
            refine aw_case s37_13 (fun hq_14 => ?_) (fun hq_14 => ?_)
            · (first | replace hq_14 := bnt hq_14 | replace hq_14 := bnf hq_14 | replace hq_14 := bt hq_14 | replace hq_14 := bf hq_14 | replace hq_14 := bt' hq_14 | replace hq_14 := bf' hq_14 | skip)
              first
              | (cases hq_14; done) | (exfalso; omega)
              | (
                 refine aw_text ?_
                 refine al_ro' (ro_eq (ro_ld_ptr k14_ty24 rfl mo0_2 s3_13 (by first | exact Nat.le_of_ble_eq_true rfl | omega | (simp only [lnS] <;> omega) | (simp <;> omega))) (by first | (simp only [packA_t, packA_f, iE, bE, setAt, cellsA, Value.cells, map_vc, map_vn, Nat.reduceAdd, qS] <;> rfl) | rfl)) trivial rfl ?_
                 refine al_ro' (ro_move (up_m rfl s2_13)) trivial rfl ?_
                 refine al_ro' (ro_call (evL_cons (up_m rfl up_h) (evL_cons up_h evL_nil)) rfl (rStopErr_ok nm ps hp stop) k14_hcf26) trivial rfl ?_
                 refine al_ro' (ro_assign up_h) trivial rfl ?_
                 refine al_end (fun e_15 he_15 => ?_)
                 have s2_15 := ef 2 he_15 (u4 rfl s2_13)
                 have s3_15 := ef 3 he_15 (u4 rfl s3_13)
                 have s4_15 := ef 4 he_15 (u4 rfl s4_13)
                 have s7_15 := ef 7 he_15 (u4 rfl s7_13)
                 have s8_15 := ef 8 he_15 (u4 rfl s8_13)
                 have s9_15 := ef 9 he_15 (u4 rfl s9_13)
                 have s10_15 := ef 10 he_15 (u4 rfl s10_13)
                 have s11_15 := ef 11 he_15 up_h
                 clear he_15 s10_13 s11_13 s2_13 s37_13 s3_13 s4_13 s7_13 s8_13 s9_13
                 refine then_n ?_
                 refine aw_seq ?_
                 refine aw_seq ?_
                 refine aw_text ?_
                 refine al_ro' (ro_move s11_15) trivial rfl ?_
                 refine al_ro' (ro_neq up_h ev_c) trivial rfl ?_
                 refine al_end (fun e_16 he_16 => ?_)
                 have s2_16 := ef 2 he_16 (u2 rfl s2_15)
                 have s3_16 := ef 3 he_16 (u2 rfl s3_15)
                 have s4_16 := ef 4 he_16 (u2 rfl s4_15)
                 have s7_16 := ef 7 he_16 (u2 rfl s7_15)
                 have s8_16 := ef 8 he_16 (u2 rfl s8_15)
                 have s9_16 := ef 9 he_16 (u2 rfl s9_15)
                 have s10_16 := ef 10 he_16 (u2 rfl s10_15)
                 have s11_16 := ef 11 he_16 (u2 rfl s11_15)
                 have s42_16 := ef 42 he_16 up_h
                 clear he_16 s10_15 s11_15 s2_15 s3_15 s4_15 s7_15 s8_15 s9_15
                 refine then_n ?_
                 refine aw_case s42_16 (fun hq_17 => ?_) (fun hq_17 => ?_)
                 · (first | replace hq_17 := bnt hq_17 | replace hq_17 := bnf hq_17 | replace hq_17 := bt hq_17 | replace hq_17 := bf hq_17 | replace hq_17 := bt' hq_17 | replace hq_17 := bf' hq_17 | skip)
                   first
                   | (cases hq_17; done) | (exfalso; omega)
                   | (
                      (have hcs : curE nm ps b d v stop = stopE ps stop := (by rw [hcu, if_pos (by assumption)]); have hq : ¬ curE nm ps b d v stop = 0 := (by rw [hcs]; assumption); have hz1 : (if curE nm ps b d v stop = 0 then bwL ps b 0 (stop + 1).toNat else []).length = 0 := (by rw [if_neg hq]; rfl); have hz2 : (if curE nm ps b d v stop = 0 then leL ps d stop.toNat else []).length = 0 := (by rw [if_neg hq]; rfl))
                      refine aw_seq ?_
                      refine aw_text ?_
                      refine al_ro' (ro_move s8_16) trivial rfl ?_
                      refine al_ro' (ro_move (up_m rfl s11_16)) trivial rfl ?_
                      refine al_ro' (ro_eql (up_m rfl up_h) up_h) trivial rfl ?_
                      refine al_ro' (ro_move up_h) trivial rfl ?_
                      refine al_case up_h (fun hb_18 hq_18 => ?_) (fun hb_18 hq_18 => ?_)
                      · (first | replace hq_18 := bnt hq_18 | replace hq_18 := bnf hq_18 | replace hq_18 := bt hq_18 | replace hq_18 := bf hq_18 | replace hq_18 := bt' hq_18 | replace hq_18 := bf' hq_18 | skip)
                        first
                        | (cases hq_18; done) | (exfalso; omega)
                        | (
                           refine al_ro' (ro_move (u4 rfl s10_16)) ⟨_, rfl, hb_18⟩ rfl ?_
                           refine al_ro' (ro_move (up_m rfl (u4 rfl s11_16))) ⟨_, rfl, (up_m rfl hb_18)⟩ rfl ?_
                           refine al_ro' (ro_eql (up_m rfl up_h) up_h) ⟨_, rfl, (u2 rfl hb_18)⟩ rfl ?_
                           refine al_ro' (ro_pickT (up_m rfl (u2 rfl hb_18)) up_h) trivial rfl ?_
                           refine al_ro' (ro_move up_h) trivial rfl ?_
                           refine al_case up_h (fun hb_19 hq_19 => ?_) (fun hb_19 hq_19 => ?_)
                           · (first | replace hq_19 := bnt hq_19 | replace hq_19 := bnf hq_19 | replace hq_19 := bt hq_19 | replace hq_19 := bf hq_19 | replace hq_19 := bt' hq_19 | replace hq_19 := bf' hq_19 | skip)
                             first
                             | (cases hq_19; done) | (exfalso; omega)
                             | (
                                refine al_ro' (ro_move (up_m rfl (u8 rfl s7_16))) ⟨_, rfl, hb_19⟩ rfl ?_
                                refine al_ro' (ro_eq (ro_len_row up_h rfl k14_sl30.1) (by first | (simp only [lnS] <;> rfl) | rfl)) ⟨_, rfl, (up_m rfl hb_19)⟩ rfl ?_
                                refine al_ro' (ro_move (up_m rfl (u2 rfl (u8 rfl s9_16)))) ⟨_, rfl, (u2 rfl hb_19)⟩ rfl ?_
                                refine al_ro' (ro_eq (ro_len_row up_h rfl k14_sl30.1) (by first | (simp only [lnS] <;> rfl) | rfl)) ⟨_, rfl, (up_m rfl (u2 rfl hb_19))⟩ rfl ?_
                                first | (refine al_ro' (ro_add' (u2 rfl up_h) up_h ?_) ⟨_, rfl, (u4 rfl hb_19)⟩ rfl ?_; · (unfold In64; omega)) | refine al_ro' (ro_add (u2 rfl up_h) up_h) ⟨_, rfl, (u4 rfl hb_19)⟩ rfl ?_
                                refine al_ro' (ro_eql up_h ev_c) ⟨_, rfl, (up_m rfl (u4 rfl hb_19))⟩ rfl ?_
                                refine al_ro' (ro_pickT (u2 rfl (u4 rfl hb_19)) up_h) trivial rfl ?_
                                refine al_ro' (ro_assign up_h) trivial rfl ?_
                                refine al_end (fun e_20 he_20 => ?_)
                                have s6_20 := ef 6 he_20 up_h
                                clear he_20 hb_18 hb_19 s10_16 s11_16 s2_16 s3_16 s42_16 s4_16 s7_16 s8_16 s9_16
                                refine then_n ?_
                                refine aw_ret ?_
                                refine then_r ?_
                                refine ret1 (.inr rfl) (by kernel_rfl) (resV_tmp s6_20) (.ro _ rfl) ?_
                                clear s6_20 mo1_2 mo0_2 ml_2
                                first | rfl | (simp; done) | (simp_all; done) | omega)
                           · (first | replace hq_19 := bnt hq_19 | replace hq_19 := bnf hq_19 | replace hq_19 := bt hq_19 | replace hq_19 := bf hq_19 | replace hq_19 := bt' hq_19 | replace hq_19 := bf' hq_19 | skip)
                             first
                             | (cases hq_19; done) | (exfalso; omega)
                             | (
                                refine al_skip' ⟨_, rfl, .inl hb_19⟩ rfl ?_
                                refine al_skip' ⟨_, rfl, .inl (up_m rfl hb_19)⟩ rfl ?_
                                refine al_skip' ⟨_, rfl, .inl (u2 rfl hb_19)⟩ rfl ?_
                                refine al_skip' ⟨_, rfl, .inl (up_m rfl (u2 rfl hb_19))⟩ rfl ?_
                                refine al_skip' ⟨_, rfl, .inl (u4 rfl hb_19)⟩ rfl ?_
                                refine al_skip' ⟨_, rfl, .inl (up_m rfl (u4 rfl hb_19))⟩ rfl ?_
                                refine al_ro' (ro_pickF (u2 rfl (u4 rfl hb_19)) ev_c) trivial rfl ?_
                                refine al_ro' (ro_assign up_h) trivial rfl ?_
                                refine al_end (fun e_21 he_21 => ?_)
                                have s6_21 := ef 6 he_21 up_h
                                clear he_21 hb_18 hb_19 s10_16 s11_16 s2_16 s3_16 s42_16 s4_16 s7_16 s8_16 s9_16
                                refine then_n ?_
                                refine aw_ret ?_
                                refine then_r ?_
                                refine ret1 (.inr rfl) (by kernel_rfl) (resV_tmp s6_21) (.ro _ rfl) ?_
                                clear s6_21 mo1_2 mo0_2 ml_2
                                first | rfl | (simp; done) | (simp_all; done) | omega))
                      · (first | replace hq_18 := bnt hq_18 | replace hq_18 := bnf hq_18 | replace hq_18 := bt hq_18 | replace hq_18 := bf hq_18 | replace hq_18 := bt' hq_18 | replace hq_18 := bf' hq_18 | skip)
                        first
                        | (cases hq_18; done) | (exfalso; omega)
                        | (
                           refine al_skip' ⟨_, rfl, .inl hb_18⟩ rfl ?_
                           refine al_skip' ⟨_, rfl, .inl (up_m rfl hb_18)⟩ rfl ?_
                           refine al_skip' ⟨_, rfl, .inl (u2 rfl hb_18)⟩ rfl ?_
                           refine al_ro' (ro_pickF (up_m rfl (u2 rfl hb_18)) ev_c) trivial rfl ?_
                           refine al_ro' (ro_move up_h) trivial rfl ?_
                           refine al_skip' ⟨_, rfl, .inl up_h⟩ rfl ?_
                           refine al_skip' ⟨_, rfl, .inl (up_m rfl up_h)⟩ rfl ?_
                           refine al_skip' ⟨_, rfl, .inl (u2 rfl up_h)⟩ rfl ?_
                           refine al_skip' ⟨_, rfl, .inl (up_m rfl (u2 rfl up_h))⟩ rfl ?_
                           refine al_skip' ⟨_, rfl, .inl (u4 rfl up_h)⟩ rfl ?_
                           refine al_skip' ⟨_, rfl, .inl (up_m rfl (u4 rfl up_h))⟩ rfl ?_
                           refine al_ro' (ro_pickF (u2 rfl (u4 rfl up_h)) ev_c) trivial rfl ?_
                           refine al_ro' (ro_assign up_h) trivial rfl ?_
                           refine al_end (fun e_22 he_22 => ?_)
                           have s6_22 := ef 6 he_22 up_h
                           clear he_22 hb_18 s10_16 s11_16 s2_16 s3_16 s42_16 s4_16 s7_16 s8_16 s9_16
                           refine then_n ?_
                           refine aw_ret ?_
                           refine then_r ?_
                           refine ret1 (.inr rfl) (by kernel_rfl) (resV_tmp s6_22) (.ro _ rfl) ?_
                           clear s6_22 mo1_2 mo0_2 ml_2
                           first | rfl | (simp; done) | (simp_all; done) | omega))
                 · (first | replace hq_17 := bnt hq_17 | replace hq_17 := bnf hq_17 | replace hq_17 := bt hq_17 | replace hq_17 := bf hq_17 | replace hq_17 := bt' hq_17 | replace hq_17 := bf' hq_17 | skip)
                   first
                   | (cases hq_17; done) | (exfalso; omega)
                   | (
                      (have hq : curE nm ps b d v stop = 0 := (by rw [hcu, if_pos (by assumption)]; assumption); have hR := ride_right hq; have hS := stop_right (firstE_cons hR.2.2).1)
                      refine aw_skip ?_
                      refine then_n ?_
                      refine aw_seq ?_
                      refine aw_text ?_
                      refine al_ro' (ro_move s8_16) trivial rfl ?_
                      refine al_ro' (ro_eql up_h ev_c) trivial rfl ?_
                      refine al_ro' (ro_move up_h) trivial rfl ?_
                      refine al_case up_h (fun hb_23 hq_23 => ?_) (fun hb_23 hq_23 => ?_)
                      · (first | replace hq_23 := bnt hq_23 | replace hq_23 := bnf hq_23 | replace hq_23 := bt hq_23 | replace hq_23 := bf hq_23 | replace hq_23 := bt' hq_23 | replace hq_23 := bf' hq_23 | skip)
                        first
                        | (cases hq_23; done) | (exfalso; omega)
                        | (
                           refine al_ro' (ro_move (up_m rfl (u2 rfl s7_16))) ⟨_, rfl, hb_23⟩ rfl ?_
                           refine al_ro' (ro_eq (ro_ld_ptr k14_ty24 rfl mo0_2 (u4 rfl s3_16) (by first | exact Nat.le_of_ble_eq_true rfl | omega | (simp only [lnS] <;> omega) | (simp <;> omega))) (by first | (simp only [packA_t, packA_f, iE, bE, setAt, cellsA, Value.cells, map_vc, map_vn, Nat.reduceAdd, qS] <;> rfl) | rfl)) ⟨_, rfl, (up_m rfl hb_23)⟩ rfl ?_
                           refine al_ro' (ro_eq (ro_ld_ptr k14_ty26 rfl mo1_2 (up_m rfl (u4 rfl s4_16)) (by first | exact Nat.le_of_ble_eq_true rfl | omega | (simp only [lnS] <;> omega) | (simp <;> omega))) (by first | (simp only [packA_t, packA_f, iE, bE, setAt, cellsA, Value.cells, map_vc, map_vn, Nat.reduceAdd, qS] <;> rfl) | rfl)) ⟨_, rfl, (u2 rfl hb_23)⟩ rfl ?_
                           refine al_ro' (ro_move (u2 rfl (u4 rfl s2_16))) ⟨_, rfl, (up_m rfl (u2 rfl hb_23))⟩ rfl ?_
                           refine al_ro' (ro_call (evL_cons (u2 rfl up_h) (evL_cons (up_m rfl up_h) (evL_cons up_h evL_nil))) rfl (rCurveOf_ok nm ps hR.1 b d v hR.2.1 stop hS.1 hS.2.1) k14_hcf30) ⟨_, rfl, (u4 rfl hb_23)⟩ rfl ?_
                           refine al_ro' (ro_call (evL_cons (u4 rfl up_h) (evL_cons up_h evL_nil)) rfl (ints_ok _ _ (by rw [if_pos hq, bwL_len]; omega) (by rw [bwL_len]; omega)) k14_hcf22) ⟨_, rfl, (up_m rfl (u4 rfl hb_23))⟩ rfl ?_
                           refine al_ro' (ro_pickT (u2 rfl (u4 rfl hb_23)) up_h) trivial rfl ?_
                           refine al_ro' (ro_move up_h) trivial rfl ?_
                           refine al_case up_h (fun hb_24 hq_24 => ?_) (fun hb_24 hq_24 => ?_)
                           · (first | replace hq_24 := bnt hq_24 | replace hq_24 := bnf hq_24 | replace hq_24 := bt hq_24 | replace hq_24 := bf hq_24 | replace hq_24 := bt' hq_24 | replace hq_24 := bf' hq_24 | skip)
                             first
                             | (cases hq_24; done) | (exfalso; omega)
                             | (
                                refine al_ro' (ro_move (up_m rfl (u2 rfl (u8 rfl s10_16)))) ⟨_, rfl, hb_24⟩ rfl ?_
                                refine al_ro' (ro_eql up_h ev_c) ⟨_, rfl, (up_m rfl hb_24)⟩ rfl ?_
                                refine al_ro' (ro_pickT (u2 rfl hb_24) up_h) trivial rfl ?_
                                refine al_ro' (ro_move up_h) trivial rfl ?_
                                refine al_case up_h (fun hb_25 hq_25 => ?_) (fun hb_25 hq_25 => ?_)
                                · (first | replace hq_25 := bnt hq_25 | replace hq_25 := bnf hq_25 | replace hq_25 := bt hq_25 | replace hq_25 := bf hq_25 | replace hq_25 := bt' hq_25 | replace hq_25 := bf' hq_25 | skip)
                                  first
                                  | (cases hq_25; done) | (exfalso; omega)
                                  | (
                                     refine al_ro' (ro_move (up_m rfl (u2 rfl (u4 rfl (u8 rfl s9_16))))) ⟨_, rfl, hb_25⟩ rfl ?_
                                     refine al_ro' (ro_eq (ro_ld_ptr k14_ty24 rfl mo0_2 (u16 rfl s3_16) (by first | exact Nat.le_of_ble_eq_true rfl | omega | (simp only [lnS] <;> omega) | (simp <;> omega))) (by first | (simp only [packA_t, packA_f, iE, bE, setAt, cellsA, Value.cells, map_vc, map_vn, Nat.reduceAdd, qS] <;> rfl) | rfl)) ⟨_, rfl, (up_m rfl hb_25)⟩ rfl ?_
                                     refine al_ro' (ro_eq (ro_ld_ptr k14_ty26 rfl mo1_2 (up_m rfl (u16 rfl s4_16)) (by first | exact Nat.le_of_ble_eq_true rfl | omega | (simp only [lnS] <;> omega) | (simp <;> omega))) (by first | (simp only [packA_t, packA_f, iE, bE, setAt, cellsA, Value.cells, map_vc, map_vn, Nat.reduceAdd, qS] <;> rfl) | rfl)) ⟨_, rfl, (u2 rfl hb_25)⟩ rfl ?_
                                     refine al_ro' (ro_move (u2 rfl (u16 rfl s2_16))) ⟨_, rfl, (up_m rfl (u2 rfl hb_25))⟩ rfl ?_
                                     refine al_ro' (ro_call (evL_cons (u2 rfl up_h) (evL_cons (up_m rfl up_h) (evL_cons up_h evL_nil))) rfl (rLeastOf_ok nm ps hR.1 b d v hR.2.1 stop hS.1 hS.2.1) k14_hcf31) ⟨_, rfl, (u4 rfl hb_25)⟩ rfl ?_
                                     refine al_ro' (ro_call (evL_cons (u4 rfl up_h) (evL_cons up_h evL_nil)) rfl (ints_ok _ _ (by rw [if_pos hq]; simp [leL]; omega) (by simp [leL]; omega)) k14_hcf22) ⟨_, rfl, (up_m rfl (u4 rfl hb_25))⟩ rfl ?_
                                     refine al_ro' (ro_pickT (u2 rfl (u4 rfl hb_25)) up_h) trivial rfl ?_
                                     refine al_ro' (ro_assign up_h) trivial rfl ?_
                                     refine al_end (fun e_26 he_26 => ?_)
                                     have s6_26 := ef 6 he_26 up_h
                                     clear he_26 hb_23 hb_24 hb_25 s10_16 s11_16 s2_16 s3_16 s42_16 s4_16 s7_16 s8_16 s9_16
                                     refine then_n ?_
                                     refine aw_ret ?_
                                     refine ret1 (.inr rfl) (by kernel_rfl) (resV_tmp s6_26) (.ro _ rfl) ?_
                                     clear s6_26 mo1_2 mo0_2 ml_2
                                     first | rfl | (simp; done) | (simp_all; done) | omega)
                                · (first | replace hq_25 := bnt hq_25 | replace hq_25 := bnf hq_25 | replace hq_25 := bt hq_25 | replace hq_25 := bf hq_25 | replace hq_25 := bt' hq_25 | replace hq_25 := bf' hq_25 | skip)
                                  first
                                  | (cases hq_25; done) | (exfalso; omega)
                                  | (
                                     refine al_skip' ⟨_, rfl, .inl hb_25⟩ rfl ?_
                                     refine al_skip' ⟨_, rfl, .inl (up_m rfl hb_25)⟩ rfl ?_
                                     refine al_skip' ⟨_, rfl, .inl (u2 rfl hb_25)⟩ rfl ?_
                                     refine al_skip' ⟨_, rfl, .inl (up_m rfl (u2 rfl hb_25))⟩ rfl ?_
                                     refine al_skip' ⟨_, rfl, .inl (u4 rfl hb_25)⟩ rfl ?_
                                     refine al_skip' ⟨_, rfl, .inl (up_m rfl (u4 rfl hb_25))⟩ rfl ?_
                                     refine al_ro' (ro_pickF (u2 rfl (u4 rfl hb_25)) ev_c) trivial rfl ?_
                                     refine al_ro' (ro_assign up_h) trivial rfl ?_
                                     refine al_end (fun e_27 he_27 => ?_)
                                     have s6_27 := ef 6 he_27 up_h
                                     clear he_27 hb_23 hb_24 hb_25 s10_16 s11_16 s2_16 s3_16 s42_16 s4_16 s7_16 s8_16 s9_16
                                     refine then_n ?_
                                     refine aw_ret ?_
                                     refine ret1 (.inr rfl) (by kernel_rfl) (resV_tmp s6_27) (.ro _ rfl) ?_
                                     clear s6_27 mo1_2 mo0_2 ml_2
                                     first | rfl | (simp; done) | (simp_all; done) | omega))
                           · (first | replace hq_24 := bnt hq_24 | replace hq_24 := bnf hq_24 | replace hq_24 := bt hq_24 | replace hq_24 := bf hq_24 | replace hq_24 := bt' hq_24 | replace hq_24 := bf' hq_24 | skip)
                             first
                             | (cases hq_24; done) | (exfalso; omega)
                             | (
                                refine al_skip' ⟨_, rfl, .inl hb_24⟩ rfl ?_
                                refine al_skip' ⟨_, rfl, .inl (up_m rfl hb_24)⟩ rfl ?_
                                refine al_ro' (ro_pickF (u2 rfl hb_24) ev_c) trivial rfl ?_
                                refine al_ro' (ro_move up_h) trivial rfl ?_
                                refine al_skip' ⟨_, rfl, .inl up_h⟩ rfl ?_
                                refine al_skip' ⟨_, rfl, .inl (up_m rfl up_h)⟩ rfl ?_
                                refine al_skip' ⟨_, rfl, .inl (u2 rfl up_h)⟩ rfl ?_
                                refine al_skip' ⟨_, rfl, .inl (up_m rfl (u2 rfl up_h))⟩ rfl ?_
                                refine al_skip' ⟨_, rfl, .inl (u4 rfl up_h)⟩ rfl ?_
                                refine al_skip' ⟨_, rfl, .inl (up_m rfl (u4 rfl up_h))⟩ rfl ?_
                                refine al_ro' (ro_pickF (u2 rfl (u4 rfl up_h)) ev_c) trivial rfl ?_
                                refine al_ro' (ro_assign up_h) trivial rfl ?_
                                refine al_end (fun e_28 he_28 => ?_)
                                have s6_28 := ef 6 he_28 up_h
                                clear he_28 hb_23 hb_24 s10_16 s11_16 s2_16 s3_16 s42_16 s4_16 s7_16 s8_16 s9_16
                                refine then_n ?_
                                refine aw_ret ?_
                                refine ret1 (.inr rfl) (by kernel_rfl) (resV_tmp s6_28) (.ro _ rfl) ?_
                                clear s6_28 mo1_2 mo0_2 ml_2
                                first | rfl | (simp; done) | (simp_all; done) | omega))
                      · (first | replace hq_23 := bnt hq_23 | replace hq_23 := bnf hq_23 | replace hq_23 := bt hq_23 | replace hq_23 := bf hq_23 | replace hq_23 := bt' hq_23 | replace hq_23 := bf' hq_23 | skip)
                        first
                        | (cases hq_23; done) | (exfalso; omega)
                        | (
                           refine al_skip' ⟨_, rfl, .inl hb_23⟩ rfl ?_
                           refine al_skip' ⟨_, rfl, .inl (up_m rfl hb_23)⟩ rfl ?_
                           refine al_skip' ⟨_, rfl, .inl (u2 rfl hb_23)⟩ rfl ?_
                           refine al_skip' ⟨_, rfl, .inl (up_m rfl (u2 rfl hb_23))⟩ rfl ?_
                           refine al_skip' ⟨_, rfl, .inl (u4 rfl hb_23)⟩ rfl ?_
                           refine al_skip' ⟨_, rfl, .inl (up_m rfl (u4 rfl hb_23))⟩ rfl ?_
                           refine al_ro' (ro_pickF (u2 rfl (u4 rfl hb_23)) ev_c) trivial rfl ?_
                           refine al_ro' (ro_move up_h) trivial rfl ?_
                           refine al_skip' ⟨_, rfl, .inl up_h⟩ rfl ?_
                           refine al_skip' ⟨_, rfl, .inl (up_m rfl up_h)⟩ rfl ?_
                           refine al_ro' (ro_pickF (u2 rfl up_h) ev_c) trivial rfl ?_
                           refine al_ro' (ro_move up_h) trivial rfl ?_
                           refine al_skip' ⟨_, rfl, .inl up_h⟩ rfl ?_
                           refine al_skip' ⟨_, rfl, .inl (up_m rfl up_h)⟩ rfl ?_
                           refine al_skip' ⟨_, rfl, .inl (u2 rfl up_h)⟩ rfl ?_
                           refine al_skip' ⟨_, rfl, .inl (up_m rfl (u2 rfl up_h))⟩ rfl ?_
                           refine al_skip' ⟨_, rfl, .inl (u4 rfl up_h)⟩ rfl ?_
                           refine al_skip' ⟨_, rfl, .inl (up_m rfl (u4 rfl up_h))⟩ rfl ?_
                           refine al_ro' (ro_pickF (u2 rfl (u4 rfl up_h)) ev_c) trivial rfl ?_
                           refine al_ro' (ro_assign up_h) trivial rfl ?_
                           refine al_end (fun e_29 he_29 => ?_)
                           have s6_29 := ef 6 he_29 up_h
                           clear he_29 hb_23 s10_16 s11_16 s2_16 s3_16 s42_16 s4_16 s7_16 s8_16 s9_16
                           refine then_n ?_
                           refine aw_ret ?_
                           refine ret1 (.inr rfl) (by kernel_rfl) (resV_tmp s6_29) (.ro _ rfl) ?_
                           clear s6_29 mo1_2 mo0_2 ml_2
                           first | rfl | (simp; done) | (simp_all; done) | omega)))
            · (first | replace hq_14 := bnt hq_14 | replace hq_14 := bnf hq_14 | replace hq_14 := bt hq_14 | replace hq_14 := bf hq_14 | replace hq_14 := bt' hq_14 | replace hq_14 := bf' hq_14 | skip)
              first
              | (cases hq_14; done) | (exfalso; omega)
              | (
                 refine aw_skip ?_
                 refine then_n ?_
                 refine aw_seq ?_
                 refine aw_seq ?_
                 refine aw_text ?_
                 refine al_ro' (ro_move s11_13) trivial rfl ?_
                 refine al_ro' (ro_neq up_h ev_c) trivial rfl ?_
                 refine al_end (fun e_30 he_30 => ?_)
                 have s2_30 := ef 2 he_30 (u2 rfl s2_13)
                 have s3_30 := ef 3 he_30 (u2 rfl s3_13)
                 have s4_30 := ef 4 he_30 (u2 rfl s4_13)
                 have s7_30 := ef 7 he_30 (u2 rfl s7_13)
                 have s8_30 := ef 8 he_30 (u2 rfl s8_13)
                 have s9_30 := ef 9 he_30 (u2 rfl s9_13)
                 have s10_30 := ef 10 he_30 (u2 rfl s10_13)
                 have s11_30 := ef 11 he_30 (u2 rfl s11_13)
                 have s42_30 := ef 42 he_30 up_h
                 clear he_30 s10_13 s11_13 s2_13 s37_13 s3_13 s4_13 s7_13 s8_13 s9_13
                 refine then_n ?_
                 refine aw_case s42_30 (fun hq_31 => ?_) (fun hq_31 => ?_)
                 · (first | replace hq_31 := bnt hq_31 | replace hq_31 := bnf hq_31 | replace hq_31 := bt hq_31 | replace hq_31 := bf hq_31 | replace hq_31 := bt' hq_31 | replace hq_31 := bf' hq_31 | skip)
                   first
                   | (cases hq_31; done) | (exfalso; omega)
                   | (
                      (have hcs : curE nm ps b d v stop = firstE [(chk nm ps).2, sysE b d v] := (by rw [hcu, if_neg (by assumption)]); have hq : ¬ curE nm ps b d v stop = 0 := (by rw [hcs]; assumption); have hz1 : (if curE nm ps b d v stop = 0 then bwL ps b 0 (stop + 1).toNat else []).length = 0 := (by rw [if_neg hq]; rfl); have hz2 : (if curE nm ps b d v stop = 0 then leL ps d stop.toNat else []).length = 0 := (by rw [if_neg hq]; rfl))
                      refine aw_seq ?_
                      refine aw_text ?_
                      refine al_ro' (ro_move s8_30) trivial rfl ?_
                      refine al_ro' (ro_move (up_m rfl s11_30)) trivial rfl ?_
                      refine al_ro' (ro_eql (up_m rfl up_h) up_h) trivial rfl ?_
                      refine al_ro' (ro_move up_h) trivial rfl ?_
                      refine al_case up_h (fun hb_32 hq_32 => ?_) (fun hb_32 hq_32 => ?_)
                      · (first | replace hq_32 := bnt hq_32 | replace hq_32 := bnf hq_32 | replace hq_32 := bt hq_32 | replace hq_32 := bf hq_32 | replace hq_32 := bt' hq_32 | replace hq_32 := bf' hq_32 | skip)
                        first
                        | (cases hq_32; done) | (exfalso; omega)
                        | (
                           refine al_ro' (ro_move (u4 rfl s10_30)) ⟨_, rfl, hb_32⟩ rfl ?_
                           refine al_ro' (ro_move (up_m rfl (u4 rfl s11_30))) ⟨_, rfl, (up_m rfl hb_32)⟩ rfl ?_
                           refine al_ro' (ro_eql (up_m rfl up_h) up_h) ⟨_, rfl, (u2 rfl hb_32)⟩ rfl ?_
                           refine al_ro' (ro_pickT (up_m rfl (u2 rfl hb_32)) up_h) trivial rfl ?_
                           refine al_ro' (ro_move up_h) trivial rfl ?_
                           refine al_case up_h (fun hb_33 hq_33 => ?_) (fun hb_33 hq_33 => ?_)
                           · (first | replace hq_33 := bnt hq_33 | replace hq_33 := bnf hq_33 | replace hq_33 := bt hq_33 | replace hq_33 := bf hq_33 | replace hq_33 := bt' hq_33 | replace hq_33 := bf' hq_33 | skip)
                             first
                             | (cases hq_33; done) | (exfalso; omega)
                             | (
                                refine al_ro' (ro_move (up_m rfl (u8 rfl s7_30))) ⟨_, rfl, hb_33⟩ rfl ?_
                                refine al_ro' (ro_eq (ro_len_row up_h rfl k14_sl30.1) (by first | (simp only [lnS] <;> rfl) | rfl)) ⟨_, rfl, (up_m rfl hb_33)⟩ rfl ?_
                                refine al_ro' (ro_move (up_m rfl (u2 rfl (u8 rfl s9_30)))) ⟨_, rfl, (u2 rfl hb_33)⟩ rfl ?_
                                refine al_ro' (ro_eq (ro_len_row up_h rfl k14_sl30.1) (by first | (simp only [lnS] <;> rfl) | rfl)) ⟨_, rfl, (up_m rfl (u2 rfl hb_33))⟩ rfl ?_
                                first | (refine al_ro' (ro_add' (u2 rfl up_h) up_h ?_) ⟨_, rfl, (u4 rfl hb_33)⟩ rfl ?_; · (unfold In64; omega)) | refine al_ro' (ro_add (u2 rfl up_h) up_h) ⟨_, rfl, (u4 rfl hb_33)⟩ rfl ?_
                                refine al_ro' (ro_eql up_h ev_c) ⟨_, rfl, (up_m rfl (u4 rfl hb_33))⟩ rfl ?_
                                refine al_ro' (ro_pickT (u2 rfl (u4 rfl hb_33)) up_h) trivial rfl ?_
                                refine al_ro' (ro_assign up_h) trivial rfl ?_
                                refine al_end (fun e_34 he_34 => ?_)
                                have s6_34 := ef 6 he_34 up_h
                                clear he_34 hb_32 hb_33 s10_30 s11_30 s2_30 s3_30 s42_30 s4_30 s7_30 s8_30 s9_30
                                refine then_n ?_
                                refine aw_ret ?_
                                refine then_r ?_
                                refine ret1 (.inr rfl) (by kernel_rfl) (resV_tmp s6_34) (.ro _ rfl) ?_
                                clear s6_34 mo1_2 mo0_2 ml_2
                                first | rfl | (simp; done) | (simp_all; done) | omega)
                           · (first | replace hq_33 := bnt hq_33 | replace hq_33 := bnf hq_33 | replace hq_33 := bt hq_33 | replace hq_33 := bf hq_33 | replace hq_33 := bt' hq_33 | replace hq_33 := bf' hq_33 | skip)
                             first
                             | (cases hq_33; done) | (exfalso; omega)
                             | (
                                refine al_skip' ⟨_, rfl, .inl hb_33⟩ rfl ?_
                                refine al_skip' ⟨_, rfl, .inl (up_m rfl hb_33)⟩ rfl ?_
                                refine al_skip' ⟨_, rfl, .inl (u2 rfl hb_33)⟩ rfl ?_
                                refine al_skip' ⟨_, rfl, .inl (up_m rfl (u2 rfl hb_33))⟩ rfl ?_
                                refine al_skip' ⟨_, rfl, .inl (u4 rfl hb_33)⟩ rfl ?_
                                refine al_skip' ⟨_, rfl, .inl (up_m rfl (u4 rfl hb_33))⟩ rfl ?_
                                refine al_ro' (ro_pickF (u2 rfl (u4 rfl hb_33)) ev_c) trivial rfl ?_
                                refine al_ro' (ro_assign up_h) trivial rfl ?_
                                refine al_end (fun e_35 he_35 => ?_)
                                have s6_35 := ef 6 he_35 up_h
                                clear he_35 hb_32 hb_33 s10_30 s11_30 s2_30 s3_30 s42_30 s4_30 s7_30 s8_30 s9_30
                                refine then_n ?_
                                refine aw_ret ?_
                                refine then_r ?_
                                refine ret1 (.inr rfl) (by kernel_rfl) (resV_tmp s6_35) (.ro _ rfl) ?_
                                clear s6_35 mo1_2 mo0_2 ml_2
                                first | rfl | (simp; done) | (simp_all; done) | omega))
                      · (first | replace hq_32 := bnt hq_32 | replace hq_32 := bnf hq_32 | replace hq_32 := bt hq_32 | replace hq_32 := bf hq_32 | replace hq_32 := bt' hq_32 | replace hq_32 := bf' hq_32 | skip)
                        first
                        | (cases hq_32; done) | (exfalso; omega)
                        | (
                           refine al_skip' ⟨_, rfl, .inl hb_32⟩ rfl ?_
                           refine al_skip' ⟨_, rfl, .inl (up_m rfl hb_32)⟩ rfl ?_
                           refine al_skip' ⟨_, rfl, .inl (u2 rfl hb_32)⟩ rfl ?_
                           refine al_ro' (ro_pickF (up_m rfl (u2 rfl hb_32)) ev_c) trivial rfl ?_
                           refine al_ro' (ro_move up_h) trivial rfl ?_
                           refine al_skip' ⟨_, rfl, .inl up_h⟩ rfl ?_
                           refine al_skip' ⟨_, rfl, .inl (up_m rfl up_h)⟩ rfl ?_
                           refine al_skip' ⟨_, rfl, .inl (u2 rfl up_h)⟩ rfl ?_
                           refine al_skip' ⟨_, rfl, .inl (up_m rfl (u2 rfl up_h))⟩ rfl ?_
                           refine al_skip' ⟨_, rfl, .inl (u4 rfl up_h)⟩ rfl ?_
                           refine al_skip' ⟨_, rfl, .inl (up_m rfl (u4 rfl up_h))⟩ rfl ?_
                           refine al_ro' (ro_pickF (u2 rfl (u4 rfl up_h)) ev_c) trivial rfl ?_
                           refine al_ro' (ro_assign up_h) trivial rfl ?_
                           refine al_end (fun e_36 he_36 => ?_)
                           have s6_36 := ef 6 he_36 up_h
                           clear he_36 hb_32 s10_30 s11_30 s2_30 s3_30 s42_30 s4_30 s7_30 s8_30 s9_30
                           refine then_n ?_
                           refine aw_ret ?_
                           refine then_r ?_
                           refine ret1 (.inr rfl) (by kernel_rfl) (resV_tmp s6_36) (.ro _ rfl) ?_
                           clear s6_36 mo1_2 mo0_2 ml_2
                           first | rfl | (simp; done) | (simp_all; done) | omega))
                 · (first | replace hq_31 := bnt hq_31 | replace hq_31 := bnf hq_31 | replace hq_31 := bt hq_31 | replace hq_31 := bf hq_31 | replace hq_31 := bt' hq_31 | replace hq_31 := bf' hq_31 | skip)
                   first
                   | (cases hq_31; done) | (exfalso; omega)
                   | (
                      refine aw_skip ?_
                      refine then_n ?_
                      refine aw_seq ?_
                      refine aw_text ?_
                      refine al_ro' (ro_move s8_30) trivial rfl ?_
                      refine al_ro' (ro_eql up_h ev_c) trivial rfl ?_
                      refine al_ro' (ro_move up_h) trivial rfl ?_
                      refine al_case up_h (fun hb_37 hq_37 => ?_) (fun hb_37 hq_37 => ?_)
                      · (first | replace hq_37 := bnt hq_37 | replace hq_37 := bnf hq_37 | replace hq_37 := bt hq_37 | replace hq_37 := bf hq_37 | replace hq_37 := bt' hq_37 | replace hq_37 := bf' hq_37 | skip)
                        first
                        | (cases hq_37; done) | (exfalso; omega)
                        | (
                           refine al_ro' (ro_move (up_m rfl (u2 rfl s7_30))) ⟨_, rfl, hb_37⟩ rfl ?_
                           refine al_ro' (ro_eq (ro_ld_ptr k14_ty24 rfl mo0_2 (u4 rfl s3_30) (by first | exact Nat.le_of_ble_eq_true rfl | omega | (simp only [lnS] <;> omega) | (simp <;> omega))) (by first | (simp only [packA_t, packA_f, iE, bE, setAt, cellsA, Value.cells, map_vc, map_vn, Nat.reduceAdd, qS] <;> rfl) | rfl)) ⟨_, rfl, (up_m rfl hb_37)⟩ rfl ?_
                           refine al_ro' (ro_eq (ro_ld_ptr k14_ty26 rfl mo1_2 (up_m rfl (u4 rfl s4_30)) (by first | exact Nat.le_of_ble_eq_true rfl | omega | (simp only [lnS] <;> omega) | (simp <;> omega))) (by first | (simp only [packA_t, packA_f, iE, bE, setAt, cellsA, Value.cells, map_vc, map_vn, Nat.reduceAdd, qS] <;> rfl) | rfl)) ⟨_, rfl, (u2 rfl hb_37)⟩ rfl ?_
                           refine al_ro' (ro_move (u2 rfl (u4 rfl s2_30))) ⟨_, rfl, (up_m rfl (u2 rfl hb_37))⟩ rfl ?_
                           refine al_ro' (ro_call (evL_cons (u2 rfl up_h) (evL_cons (up_m rfl up_h) (evL_cons up_h evL_nil))) rfl (rCurveOf_ok nm ps hR.1 b d v hR.2.1 stop hS.1 hS.2.1) k14_hcf30) ⟨_, rfl, (u4 rfl hb_37)⟩ rfl ?_
                           fail "STOPPED no contract for guideway/guidewaybase.Ints")
                      · (first | replace hq_37 := bnt hq_37 | replace hq_37 := bnf hq_37 | replace hq_37 := bt hq_37 | replace hq_37 := bf hq_37 | replace hq_37 := bt' hq_37 | replace hq_37 := bf' hq_37 | skip)
                        first
                        | (cases hq_37; done) | (exfalso; omega)
                        | (
                           refine al_skip' ⟨_, rfl, .inl hb_37⟩ rfl ?_
                           refine al_skip' ⟨_, rfl, .inl (up_m rfl hb_37)⟩ rfl ?_
                           refine al_skip' ⟨_, rfl, .inl (u2 rfl hb_37)⟩ rfl ?_
                           refine al_skip' ⟨_, rfl, .inl (up_m rfl (u2 rfl hb_37))⟩ rfl ?_
                           refine al_skip' ⟨_, rfl, .inl (u4 rfl hb_37)⟩ rfl ?_
                           refine al_skip' ⟨_, rfl, .inl (up_m rfl (u4 rfl hb_37))⟩ rfl ?_
                           refine al_ro' (ro_pickF (u2 rfl (u4 rfl hb_37)) ev_c) trivial rfl ?_
                           refine al_ro' (ro_move up_h) trivial rfl ?_
                           refine al_skip' ⟨_, rfl, .inl up_h⟩ rfl ?_
                           refine al_skip' ⟨_, rfl, .inl (up_m rfl up_h)⟩ rfl ?_
                           refine al_ro' (ro_pickF (u2 rfl up_h) ev_c) trivial rfl ?_
                           refine al_ro' (ro_move up_h) trivial rfl ?_
                           refine al_skip' ⟨_, rfl, .inl up_h⟩ rfl ?_
                           refine al_skip' ⟨_, rfl, .inl (up_m rfl up_h)⟩ rfl ?_
                           refine al_skip' ⟨_, rfl, .inl (u2 rfl up_h)⟩ rfl ?_
                           refine al_skip' ⟨_, rfl, .inl (up_m rfl (u2 rfl up_h))⟩ rfl ?_
                           refine al_skip' ⟨_, rfl, .inl (u4 rfl up_h)⟩ rfl ?_
                           refine al_skip' ⟨_, rfl, .inl (up_m rfl (u4 rfl up_h))⟩ rfl ?_
                           refine al_ro' (ro_pickF (u2 rfl (u4 rfl up_h)) ev_c) trivial rfl ?_
                           refine al_ro' (ro_assign up_h) trivial rfl ?_
                           refine al_end (fun e_38 he_38 => ?_)
                           have s6_38 := ef 6 he_38 up_h
                           clear he_38 hb_37 s10_30 s11_30 s2_30 s3_30 s42_30 s4_30 s7_30 s8_30 s9_30
                           refine then_n ?_
                           refine aw_ret ?_
                           refine ret1 (.inr rfl) (by kernel_rfl) (resV_tmp s6_38) (.ro _ rfl) ?_
                           clear s6_38 mo1_2 mo0_2 ml_2
                           first | rfl | (simp; done) | (simp_all; done) | omega)))))
end Go.Proofs.Ytelgkjekpcfffaa
