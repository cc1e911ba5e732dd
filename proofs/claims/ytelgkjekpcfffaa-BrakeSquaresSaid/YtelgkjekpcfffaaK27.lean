/- The law of chapter 5 on squares that can be run, and their time: the walk. No conditions on a program. -/
import Derived.Test.YtelgkjekpcfffaaK26
import Derived.Test.YtelgkjekpcfffaaA13
namespace Go.Proofs.Ytelgkjekpcfffaa
open Go Go.RowKit Go.Proofs
set_option linter.unusedSimpArgs false
set_option linter.unusedVariables false
theorem k27_az68 : (Try.prog.info? 68).bind (·.zero) = some (.agg #[.int .i64 0, .int .i64 0]) := by kernel_rfl
theorem k27_hcf15 : ∀ args w, (callFunc 15 args).run Try.prog w = .ok (.enter 15 args) w := fun _ _ => by kernel_rfl
theorem k27_hcf16 : ∀ args w, (callFunc 16 args).run Try.prog w = .ok (.enter 16 args) w := fun _ _ => by kernel_rfl
theorem k27_hcf18 : ∀ args w, (callFunc 18 args).run Try.prog w = .ok (.enter 18 args) w := fun _ _ => by kernel_rfl
theorem k27_hcf19 : ∀ args w, (callFunc 19 args).run Try.prog w = .ok (.enter 19 args) w := fun _ _ => by kernel_rfl
theorem k27_hcf48 : ∀ args w, (callFunc 48 args).run Try.prog w = .ok (.enter 48 args) w := fun _ _ => by kernel_rfl
theorem k27_hcf49 : ∀ args w, (callFunc 49 args).run Try.prog w = .ok (.enter 49 args) w := fun _ _ => by kernel_rfl
theorem k27_hcf52 : ∀ args w, (callFunc 52 args).run Try.prog w = .ok (.enter 52 args) w := fun _ _ => by kernel_rfl
theorem k27_hcf56 : ∀ args w, (callFunc 56 args).run Try.prog w = .ok (.enter 56 args) w := fun _ _ => by kernel_rfl
theorem k27_hcf57 : ∀ args w, (callFunc 57 args).run Try.prog w = .ok (.enter 57 args) w := fun _ _ => by kernel_rfl
theorem k27_hcf58 : ∀ args w, (callFunc 58 args).run Try.prog w = .ok (.enter 58 args) w := fun _ _ => by kernel_rfl
theorem k27_hcf59 : ∀ args w, (callFunc 59 args).run Try.prog w = .ok (.enter 59 args) w := fun _ _ => by kernel_rfl
theorem k27_sl30 : SlIs Try.prog 30 3 1 8 (.int .i64 0) := ⟨by kernel_rfl, by kernel_rfl, by kernel_rfl⟩
theorem k27_gq68 : Try.prog.eqGuardType Try.prog.depth 68 = false := by kernel_rfl
theorem k27_sq68 {a0 b0 : Int} {a1 b1 : Int} : EqV Try.prog 2 68 (.agg #[.int .i64 a0, .int .i64 a1]) (.agg #[.int .i64 b0, .int .i64 b1]) (decide (a0 = b0) && (decide (a1 = b1) && true)) := (eqs_struct [(3, 0), (3, 1)] (by kernel_rfl) (by kernel_rfl) (by kernel_rfl) (by kernel_rfl) (.cons (fun _ => by kernel_rfl) (fun _ => by kernel_rfl) (eqv_int (k := .i64) (k' := .i64) (by kernel_rfl) a0 b0) (.cons (fun _ => by kernel_rfl) (fun _ => by kernel_rfl) (eqv_int (k := .i64) (k' := .i64) (by kernel_rfl) a1 b1) .nil)))
theorem k27_sz68 : (Try.prog.info? 68).map (·.size) = some 2 := by kernel_rfl
theorem k27_ty24 : TyIs Try.prog 24 true 2 := ⟨by kernel_rfl, by kernel_rfl⟩
theorem k27_ty26 : TyIs Try.prog 26 true 3 := ⟨by kernel_rfl, by kernel_rfl⟩
theorem k27_ty68 : TyIs Try.prog 68 true 2 := ⟨by kernel_rfl, by kernel_rfl⟩

theorem cskE_d (nm : ByteArray) (ps : List Piece) (b d v : Int) (xs : List Int) : cskE nm ps b d v xs = if firstE [(chk nm ps).2, sysE b d v] = 0 then sqsE ps xs else firstE [(chk nm ps).2, sysE b d v] := firstE_two _ _
theorem timE_d (nm : ByteArray) (ps : List Piece) (xs : List Int) : timE nm ps xs = if (chk nm ps).2 = 0 then sqsE ps xs else (chk nm ps).2 := firstE_two _ _
set_option maxRecDepth 100000 in
set_option maxHeartbeats 4000000 in
theorem brakeSquares_ok (nm : ByteArray) (ps : List Piece) (b d v : Int) (xs : List Int) : FnOk Try.prog 14 [trA nm ps, syA b d v, .row 1 (xs.map iE)] (fun q => q = bA true) := by
  refine fnOk_of (fn := Try.f14) 90 (by kernel_rfl) rfl (by kernel_rfl) (Nat.le_of_ble_eq_true rfl) ?_
  intro e_0 m_0 hA hm_0
  have s0_0 : evA e_0 (.tmp 0) = _ := hA 0 _ rfl
  have s1_0 : evA e_0 (.tmp 1) = _ := hA 1 _ rfl
  have s2_0 : evA e_0 (.tmp 2) = _ := hA 2 _ rfl
  have ml_0 : m_0.length = 0 := by rw [hm_0]; rfl
  clear hA hm_0
  refine aw_seq ?_
  refine aw_text ?_
  refine al_stm (st_box s0_0 rfl ml_0) trivial rfl (fun m_1 hm_1 => ?_)
  have mo0_1 := m_push hm_1 ml_0
  (try simp only [packA_t, packA_f, iE, bE, setAt, cellsA, Value.cells, map_vc, map_vn, Nat.reduceAdd, qS] at mo0_1)
  have ml_1 := m_push_l hm_1 ml_0
  have ml_1 : _ = 1 := ml_1
  clear hm_1
  refine al_stm (st_box (up_m rfl s1_0) rfl ml_1) trivial rfl (fun m_2 hm_2 => ?_)
  have mo1_2 := m_push hm_2 ml_1
  (try simp only [packA_t, packA_f, iE, bE, setAt, cellsA, Value.cells, map_vc, map_vn, Nat.reduceAdd, qS] at mo1_2)
  have mo0_2 := m_push_o hm_2 mo0_1
  have ml_2 := m_push_l hm_2 ml_1
  have ml_2 : _ = 2 := ml_2
  clear hm_2 mo0_1
  refine al_ro' (ro_assign ev_c) trivial rfl ?_
  refine al_end (fun e_3 he_3 => ?_)
  have s2_3 := ef 2 he_3 (up_m rfl (u2 rfl s2_0))
  have s3_3 := ef 3 he_3 (u2 rfl up_h)
  have s4_3 := ef 4 he_3 (up_m rfl up_h)
  clear he_3 s0_0 s1_0 s2_0
  refine then_n ?_
  refine aw_seq ?_
  refine aw_seq ?_
  refine aw_text ?_
  refine al_ro' (ro_call evL_nil rfl (awake_ok) k27_hcf15) trivial rfl ?_
  refine al_ro' (ro_not up_h) trivial rfl ?_
  refine al_end (fun e_4 he_4 => ?_)
  have s2_4 := ef 2 he_4 (u2 rfl s2_3)
  have s3_4 := ef 3 he_4 (u2 rfl s3_3)
  have s4_4 := ef 4 he_4 (u2 rfl s4_3)
  have s16_4 := ef 16 he_4 up_h
  clear he_4 s2_3 s3_3 s4_3
  refine then_n ?_
  refine aw_case s16_4 (fun hq_5 => ?_) (fun hq_5 => ?_)
  · (first | replace hq_5 := bnt hq_5 | replace hq_5 := bnf hq_5 | replace hq_5 := bt hq_5 | replace hq_5 := bf hq_5 | replace hq_5 := bt' hq_5 | replace hq_5 := bf' hq_5 | skip)
    first
    | (cases hq_5; done) | (exfalso; omega)
    | (
       refine aw_seq ?_
       refine aw_text ?_
       refine al_ro' (ro_assign ev_c) trivial rfl ?_
       refine al_end (fun e_6 he_6 => ?_)
       have s6_6 := ef 6 he_6 up_h
       clear he_6 s16_4 s2_4 s3_4 s4_4
       refine then_n ?_
       refine aw_ret ?_
       refine then_r ?_
       refine ret1 (.inr rfl) (by kernel_rfl) (resV_tmp s6_6) (.ro _ rfl) ?_
       clear s6_6 mo1_2 mo0_2 ml_2
       (first | rfl | (simp; done) | (simp_all; done) | (rw [if_pos hz, if_pos hz]; simp; done) | (have hn : ¬ timE nm ps xs = 0 := (by assumption); rw [if_neg hn, if_neg hn]; simp; done)))
  · (first | replace hq_5 := bnt hq_5 | replace hq_5 := bnf hq_5 | replace hq_5 := bt hq_5 | replace hq_5 := bf hq_5 | replace hq_5 := bt' hq_5 | replace hq_5 := bf' hq_5 | skip)
    first
    | (cases hq_5; done) | (exfalso; omega)
    | (
       refine aw_skip ?_
       refine then_n ?_
       refine aw_seq ?_
       refine aw_seq ?_
       refine aw_cut (fun e mem => (evA e (.tmp 24) = .v (.bool (decide (¬ (nm.size ≤ 30 ∧ ps.length ≤ 14) ∨ 16 < xs.length)))) ∧ (evA e (.tmp 2) = evA e_4 (.tmp 2)) ∧ (evA e (.tmp 3) = evA e_4 (.tmp 3)) ∧ (evA e (.tmp 4) = evA e_4 (.tmp 4)) ∧ m_2 = mem) ?_ ?_
       ·
         refine aw_text ?_
         refine al_ro' (ro_eq (ro_ld_ptr k27_ty24 rfl mo0_2 s3_4 (by first | exact Nat.le_of_ble_eq_true rfl | omega | (simp only [lnS] <;> omega) | (simp <;> omega))) (by first | (simp only [packA_t, packA_f, iE, bE, setAt, cellsA, Value.cells, map_vc, map_vn, Nat.reduceAdd, qS] <;> rfl) | rfl)) trivial rfl ?_
         refine al_ro' (ro_call (evL_cons up_h evL_nil) rfl (short_ok nm ps) k27_hcf16) trivial rfl ?_
         refine al_ro' (ro_not up_h) trivial rfl ?_
         refine al_ro' (ro_move up_h) trivial rfl ?_
         refine al_case up_h (fun hb_8 hq_8 => ?_) (fun hb_8 hq_8 => ?_)
         · (first | replace hq_8 := bnt hq_8 | replace hq_8 := bnf hq_8 | replace hq_8 := bt hq_8 | replace hq_8 := bf hq_8 | replace hq_8 := bt' hq_8 | replace hq_8 := bf' hq_8 | skip)
           first
           | (cases hq_8; done) | (exfalso; omega)
           | (
              refine al_skip' ⟨_, rfl, .inl hb_8⟩ rfl ?_
              refine al_skip' ⟨_, rfl, .inl (up_m rfl hb_8)⟩ rfl ?_
              refine al_skip' ⟨_, rfl, .inl (u2 rfl hb_8)⟩ rfl ?_
              refine al_ro' (ro_pickT (up_m rfl (u2 rfl hb_8)) ev_c) trivial rfl ?_
              refine al_end (fun e_9 he_9 => ?_)
              have s2_9 := ef 2 he_9 (u8 rfl s2_4)
              have s3_9 := ef 3 he_9 (u8 rfl s3_4)
              have s4_9 := ef 4 he_9 (u8 rfl s4_4)
              have s24_9 := ef 24 he_9 up_h
              clear he_9
              refine then_n ⟨(s24_9).trans (by (refine avb ?_; simp only [decide_eq_true_eq, Bool.false_eq_true, true_iff, false_iff]; omega)), (s2_9).trans (s2_4).symm, (s3_9).trans (s3_4).symm, (s4_9).trans (s4_4).symm, rfl⟩)
         · (first | replace hq_8 := bnt hq_8 | replace hq_8 := bnf hq_8 | replace hq_8 := bt hq_8 | replace hq_8 := bf hq_8 | replace hq_8 := bt' hq_8 | replace hq_8 := bf' hq_8 | skip)
           first
           | (cases hq_8; done) | (exfalso; omega)
           | (
              refine al_ro' (ro_move (u4 rfl s2_4)) ⟨_, rfl, hb_8⟩ rfl ?_
              refine al_ro' (ro_eq (ro_len_row up_h rfl k27_sl30.1) (by first | (simp only [lnS] <;> rfl) | rfl)) ⟨_, rfl, (up_m rfl hb_8)⟩ rfl ?_
              refine al_ro' (ro_gtr up_h ev_c) ⟨_, rfl, (u2 rfl hb_8)⟩ rfl ?_
              refine al_ro' (ro_pickF (up_m rfl (u2 rfl hb_8)) up_h) trivial rfl ?_
              refine al_end (fun e_10 he_10 => ?_)
              have s2_10 := ef 2 he_10 (u8 rfl s2_4)
              have s3_10 := ef 3 he_10 (u8 rfl s3_4)
              have s4_10 := ef 4 he_10 (u8 rfl s4_4)
              have s24_10 := ef 24 he_10 up_h
              clear he_10
              refine then_n ⟨(s24_10).trans (by (refine avb ?_; simp only [decide_eq_true_eq, Bool.false_eq_true, true_iff, false_iff]; omega)), (s2_10).trans (s2_4).symm, (s3_10).trans (s3_4).symm, (s4_10).trans (s4_4).symm, rfl⟩)
       · rintro e_7 _ ⟨s24_7, k2_7, k3_7, k4_7, rfl⟩
         have s2_7 := k2_7.trans s2_4
         have s3_7 := k3_7.trans s3_4
         have s4_7 := k4_7.trans s4_4
         refine aw_case s24_7 (fun hq_11 => ?_) (fun hq_11 => ?_)
         · (first | replace hq_11 := bnt hq_11 | replace hq_11 := bnf hq_11 | replace hq_11 := bt hq_11 | replace hq_11 := bf hq_11 | replace hq_11 := bt' hq_11 | replace hq_11 := bf' hq_11 | skip)
           first
           | (cases hq_11; done) | (exfalso; omega)
           | (
              refine aw_seq ?_
              refine aw_text ?_
              refine al_ro' (ro_assign ev_c) trivial rfl ?_
              refine al_end (fun e_12 he_12 => ?_)
              have s6_12 := ef 6 he_12 up_h
              clear he_12 s24_7 s2_7 s3_7 s4_7
              refine then_n ?_
              refine aw_ret ?_
              refine then_r ?_
              refine ret1 (.inr rfl) (by kernel_rfl) (resV_tmp s6_12) (.ro _ rfl) ?_
              clear s6_12 mo1_2 mo0_2 ml_2
              (first | rfl | (simp; done) | (simp_all; done) | (rw [if_pos hz, if_pos hz]; simp; done) | (have hn : ¬ timE nm ps xs = 0 := (by assumption); rw [if_neg hn, if_neg hn]; simp; done)))
         · (first | replace hq_11 := bnt hq_11 | replace hq_11 := bnf hq_11 | replace hq_11 := bt hq_11 | replace hq_11 := bf hq_11 | replace hq_11 := bt' hq_11 | replace hq_11 := bf' hq_11 | skip)
           first
           | (cases hq_11; done) | (exfalso; omega)
           | (
              refine aw_skip ?_
              refine then_n ?_
              refine aw_seq ?_
              refine aw_draw 11 (by kernel_rfl) (by kernel_rfl) (by kernel_rfl) ?_
              refine ds_ro' (ro_eq (ro_ld_ptr k27_ty24 rfl mo0_2 s3_7 (by first | exact Nat.le_of_ble_eq_true rfl | omega | (simp only [lnS] <;> omega) | (simp <;> omega))) (by first | (simp only [packA_t, packA_f, iE, bE, setAt, cellsA, Value.cells, map_vc, map_vn, Nat.reduceAdd, qS] <;> rfl) | rfl)) trivial rfl ?_
              refine ds_ro' (ro_call (evL_cons up_h evL_nil) rfl (rCopy_ok nm ps (by omega)) k27_hcf18) trivial rfl ?_
              refine ds_ro' (ro_eq (ro_ld_ptr k27_ty26 rfl mo1_2 (u2 rfl s4_7) (by first | exact Nat.le_of_ble_eq_true rfl | omega | (simp only [lnS] <;> omega) | (simp <;> omega))) (by first | (simp only [packA_t, packA_f, iE, bE, setAt, cellsA, Value.cells, map_vc, map_vn, Nat.reduceAdd, qS] <;> rfl) | rfl)) trivial rfl ?_
              refine ds_ro' (ro_move (up_m rfl (u2 rfl s2_7))) trivial rfl ?_
              refine ds_ro' (ro_call (evL_cons up_h evL_nil) rfl (copyInts_ok xs (by omega)) k27_hcf48) trivial rfl ?_
              refine ds_ro' (ro_call (evL_cons (up_m rfl (u2 rfl up_h)) (evL_cons (u2 rfl up_h) (evL_cons up_h evL_nil))) rfl (checkSquares_ok nm ps (by omega) (by omega) b d v xs (by omega)) k27_hcf56) trivial rfl ?_
              refine ds_ro' (ro_move up_h) trivial rfl ?_
              refine ds_ro' (ro_extract up_h rfl) trivial rfl ?_
              refine ds_ro' (ro_extract (up_m rfl up_h) rfl) trivial rfl ?_
              refine ds_ro' (ro_assign (up_m rfl up_h)) trivial rfl ?_
              refine ds_ro' (ro_assign (up_m rfl up_h)) trivial rfl ?_
              refine ds_nil ?_
              refine al_end (fun e_13 he_13 => ?_)
              have s2_13 := ef 2 he_13 (up_m rfl (u2 rfl (u8 rfl s2_7)))
              have s3_13 := ef 3 he_13 (up_m rfl (u2 rfl (u8 rfl s3_7)))
              have s4_13 := ef 4 he_13 (up_m rfl (u2 rfl (u8 rfl s4_7)))
              have s7_13 := ef 7 he_13 (up_m rfl up_h)
              have s8_13 := ef 8 he_13 up_h
              clear he_13 s24_7 s2_7 s3_7 s4_7
              refine then_n ?_
              refine aw_seq ?_
              refine aw_text ?_
              refine al_ro' (ro_eq (ro_ld_ptr k27_ty24 rfl mo0_2 s3_13 (by first | exact Nat.le_of_ble_eq_true rfl | omega | (simp only [lnS] <;> omega) | (simp <;> omega))) (by first | (simp only [packA_t, packA_f, iE, bE, setAt, cellsA, Value.cells, map_vc, map_vn, Nat.reduceAdd, qS] <;> rfl) | rfl)) trivial rfl ?_
              refine al_ro' (ro_call (evL_cons up_h evL_nil) rfl (rCopy_ok nm ps (by omega)) k27_hcf18) trivial rfl ?_
              refine al_ro' (ro_move (u2 rfl s2_13)) trivial rfl ?_
              refine al_ro' (ro_call (evL_cons up_h evL_nil) rfl (copyInts_ok xs (by omega)) k27_hcf48) trivial rfl ?_
              refine al_ro' (ro_call (evL_cons (u2 rfl up_h) (evL_cons up_h evL_nil)) rfl (timeOf_ok nm ps (by omega) (by omega) xs (by omega)) k27_hcf57) trivial rfl ?_
              refine al_ro' (ro_move up_h) trivial rfl ?_
              refine al_ro' (ro_extract up_h rfl) trivial rfl ?_
              refine al_ro' (ro_extract (up_m rfl up_h) rfl) trivial rfl ?_
              refine al_stm (st_alloc k27_az68 rfl ml_2) trivial rfl (fun m_14 hm_14 => ?_)
              have mo2_14 := m_push hm_14 ml_2
              (try simp only [packA_t, packA_f, iE, bE, setAt, cellsA, Value.cells, map_vc, map_vn, Nat.reduceAdd, qS] at mo2_14)
              have mo1_14 := m_push_o hm_14 mo1_2
              have mo0_14 := m_push_o hm_14 mo0_2
              have ml_14 := m_push_l hm_14 ml_2
              have ml_14 : _ = 3 := ml_14
              clear hm_14 mo1_2 mo0_2
              refine al_stm (st_store up_h (u2 rfl up_h) rfl rfl mo2_14 k27_sz68 rfl (by first | exact Nat.le_of_ble_eq_true rfl | omega | (simp only [lnS] <;> omega) | (simp <;> omega))) trivial rfl (fun m_15 hm_15 => ?_)
              have mo2_15 := m_set hm_15 mo2_14
              (try simp only [packA_t, packA_f, iE, bE, setAt, cellsA, Value.cells, map_vc, map_vn, Nat.reduceAdd, qS] at mo2_15)
              have mo1_15 := m_set_o hm_15 mo1_14 (by decide)
              have mo0_15 := m_set_o hm_15 mo0_14 (by decide)
              have ml_15 := m_set_l hm_15 ml_14
              clear hm_15 mo2_14 mo1_14 mo0_14
              refine al_ro' (ro_assign (up_n (up_m rfl up_h))) trivial rfl ?_
              refine al_end (fun e_16 he_16 => ?_)
              have s2_16 := ef 2 he_16 (up_m rfl (up_n (up_m rfl (u8 rfl s2_13))))
              have s3_16 := ef 3 he_16 (up_m rfl (up_n (up_m rfl (u8 rfl s3_13))))
              have s4_16 := ef 4 he_16 (up_m rfl (up_n (up_m rfl (u8 rfl s4_13))))
              have s7_16 := ef 7 he_16 (up_m rfl (up_n (up_m rfl (u8 rfl s7_13))))
              have s8_16 := ef 8 he_16 (up_m rfl (up_n (up_m rfl (u8 rfl s8_13))))
              have s9_16 := ef 9 he_16 (up_m rfl (up_n up_h))
              have s10_16 := ef 10 he_16 up_h
              clear he_16 s2_13 s3_13 s4_13 s7_13 s8_13
              refine then_n ?_
              refine aw_seq ?_
              refine aw_text ?_
              refine al_ro' (ro_eq (ro_ld_ptr k27_ty24 rfl mo0_15 s3_16 (by first | exact Nat.le_of_ble_eq_true rfl | omega | (simp only [lnS] <;> omega) | (simp <;> omega))) (by first | (simp only [packA_t, packA_f, iE, bE, setAt, cellsA, Value.cells, map_vc, map_vn, Nat.reduceAdd, qS] <;> rfl) | rfl)) trivial rfl ?_
              refine al_ro' (ro_call (evL_cons up_h evL_nil) rfl (rTrackErr_ok nm ps (by omega) (by omega)) k27_hcf52) trivial rfl ?_
              refine al_ro' (ro_assign up_h) trivial rfl ?_
              refine al_end (fun e_17 he_17 => ?_)
              have s2_17 := ef 2 he_17 (up_m rfl (u2 rfl s2_16))
              have s3_17 := ef 3 he_17 (up_m rfl (u2 rfl s3_16))
              have s4_17 := ef 4 he_17 (up_m rfl (u2 rfl s4_16))
              have s7_17 := ef 7 he_17 (up_m rfl (u2 rfl s7_16))
              have s8_17 := ef 8 he_17 (up_m rfl (u2 rfl s8_16))
              have s9_17 := ef 9 he_17 (up_m rfl (u2 rfl s9_16))
              have s10_17 := ef 10 he_17 (up_m rfl (u2 rfl s10_16))
              have s11_17 := ef 11 he_17 up_h
              clear he_17 s10_16 s2_16 s3_16 s4_16 s7_16 s8_16 s9_16
              refine then_n ?_
              refine aw_seq ?_
              refine aw_text ?_
              refine al_ro' (ro_eq (ro_ld_ptr k27_ty24 rfl mo0_15 s3_17 (by first | exact Nat.le_of_ble_eq_true rfl | omega | (simp only [lnS] <;> omega) | (simp <;> omega))) (by first | (simp only [packA_t, packA_f, iE, bE, setAt, cellsA, Value.cells, map_vc, map_vn, Nat.reduceAdd, qS] <;> rfl) | rfl)) trivial rfl ?_
              refine al_ro' (ro_eq (ro_ld_ptr k27_ty26 rfl mo1_15 (up_m rfl s4_17) (by first | exact Nat.le_of_ble_eq_true rfl | omega | (simp only [lnS] <;> omega) | (simp <;> omega))) (by first | (simp only [packA_t, packA_f, iE, bE, setAt, cellsA, Value.cells, map_vc, map_vn, Nat.reduceAdd, qS] <;> rfl) | rfl)) trivial rfl ?_
              refine al_ro' (ro_call (evL_cons (up_m rfl up_h) (evL_cons up_h evL_nil)) rfl (rBothErr_ok nm ps (by omega) (by omega) b d v) k27_hcf19) trivial rfl ?_
              refine al_ro' (ro_assign up_h) trivial rfl ?_
              refine al_end (fun e_18 he_18 => ?_)
              have s2_18 := ef 2 he_18 (u4 rfl s2_17)
              have s3_18 := ef 3 he_18 (u4 rfl s3_17)
              have s4_18 := ef 4 he_18 (u4 rfl s4_17)
              have s7_18 := ef 7 he_18 (u4 rfl s7_17)
              have s8_18 := ef 8 he_18 (u4 rfl s8_17)
              have s9_18 := ef 9 he_18 (u4 rfl s9_17)
              have s10_18 := ef 10 he_18 (u4 rfl s10_17)
              have s11_18 := ef 11 he_18 (u4 rfl s11_17)
              have s12_18 := ef 12 he_18 up_h
              clear he_18 s10_17 s11_17 s2_17 s3_17 s4_17 s7_17 s8_17 s9_17
              refine then_n ?_
              refine aw_seq ?_
              refine aw_cut (fun e mem => (evA e (.tmp 12) = .v (.int .i64 (cskE nm ps b d v xs))) ∧ (evA e (.tmp 2) = evA e_18 (.tmp 2)) ∧ (evA e (.tmp 3) = evA e_18 (.tmp 3)) ∧ (evA e (.tmp 4) = evA e_18 (.tmp 4)) ∧ (evA e (.tmp 7) = evA e_18 (.tmp 7)) ∧ (evA e (.tmp 8) = evA e_18 (.tmp 8)) ∧ (evA e (.tmp 9) = evA e_18 (.tmp 9)) ∧ (evA e (.tmp 10) = evA e_18 (.tmp 10)) ∧ (evA e (.tmp 11) = evA e_18 (.tmp 11)) ∧ m_15 = mem) ?_ ?_
              ·
                refine aw_seq ?_
                refine aw_text ?_
                refine al_ro' (ro_move s12_18) trivial rfl ?_
                refine al_ro' (ro_eql up_h ev_c) trivial rfl ?_
                refine al_end (fun e_20 he_20 => ?_)
                have s2_20 := ef 2 he_20 (u2 rfl s2_18)
                have s3_20 := ef 3 he_20 (u2 rfl s3_18)
                have s4_20 := ef 4 he_20 (u2 rfl s4_18)
                have s7_20 := ef 7 he_20 (u2 rfl s7_18)
                have s8_20 := ef 8 he_20 (u2 rfl s8_18)
                have s9_20 := ef 9 he_20 (u2 rfl s9_18)
                have s10_20 := ef 10 he_20 (u2 rfl s10_18)
                have s11_20 := ef 11 he_20 (u2 rfl s11_18)
                have s12_20 := ef 12 he_20 (u2 rfl s12_18)
                have s48_20 := ef 48 he_20 up_h
                clear he_20
                refine then_n ?_
                refine aw_case s48_20 (fun hq_21 => ?_) (fun hq_21 => ?_)
                · (first | replace hq_21 := bnt hq_21 | replace hq_21 := bnf hq_21 | replace hq_21 := bt hq_21 | replace hq_21 := bf hq_21 | replace hq_21 := bt' hq_21 | replace hq_21 := bf' hq_21 | skip)
                  first
                  | (cases hq_21; done) | (exfalso; omega)
                  | (
                     refine aw_text ?_
                     refine al_ro' (ro_eq (ro_ld_ptr k27_ty24 rfl mo0_15 s3_20 (by first | exact Nat.le_of_ble_eq_true rfl | omega | (simp only [lnS] <;> omega) | (simp <;> omega))) (by first | (simp only [packA_t, packA_f, iE, bE, setAt, cellsA, Value.cells, map_vc, map_vn, Nat.reduceAdd, qS] <;> rfl) | rfl)) trivial rfl ?_
                     refine al_ro' (ro_move (up_m rfl s2_20)) trivial rfl ?_
                     refine al_ro' (ro_call (evL_cons (up_m rfl up_h) (evL_cons up_h evL_nil)) rfl (rSquaresErr_ok xs (by omega) nm ps (by omega)) k27_hcf49) trivial rfl ?_
                     refine al_ro' (ro_assign up_h) trivial rfl ?_
                     refine al_end (fun e_22 he_22 => ?_)
                     have s2_22 := ef 2 he_22 (u4 rfl s2_20)
                     have s3_22 := ef 3 he_22 (u4 rfl s3_20)
                     have s4_22 := ef 4 he_22 (u4 rfl s4_20)
                     have s7_22 := ef 7 he_22 (u4 rfl s7_20)
                     have s8_22 := ef 8 he_22 (u4 rfl s8_20)
                     have s9_22 := ef 9 he_22 (u4 rfl s9_20)
                     have s10_22 := ef 10 he_22 (u4 rfl s10_20)
                     have s11_22 := ef 11 he_22 (u4 rfl s11_20)
                     have s12_22 := ef 12 he_22 up_h
                     clear he_22
                     refine then_n ⟨(s12_22).trans (by (refine avi ?_; rw [cskE_d]; first | rw [if_pos (by assumption)] | rw [if_neg (by assumption)])), (s2_22).trans (s2_18).symm, (s3_22).trans (s3_18).symm, (s4_22).trans (s4_18).symm, (s7_22).trans (s7_18).symm, (s8_22).trans (s8_18).symm, (s9_22).trans (s9_18).symm, (s10_22).trans (s10_18).symm, (s11_22).trans (s11_18).symm, rfl⟩)
                · (first | replace hq_21 := bnt hq_21 | replace hq_21 := bnf hq_21 | replace hq_21 := bt hq_21 | replace hq_21 := bf hq_21 | replace hq_21 := bt' hq_21 | replace hq_21 := bf' hq_21 | skip)
                  first
                  | (cases hq_21; done) | (exfalso; omega)
                  | (
                     refine aw_skip ?_
                     refine then_n ⟨(s12_20).trans (by (refine avi ?_; rw [cskE_d]; first | rw [if_pos (by assumption)] | rw [if_neg (by assumption)])), (s2_20).trans (s2_18).symm, (s3_20).trans (s3_18).symm, (s4_20).trans (s4_18).symm, (s7_20).trans (s7_18).symm, (s8_20).trans (s8_18).symm, (s9_20).trans (s9_18).symm, (s10_20).trans (s10_18).symm, (s11_20).trans (s11_18).symm, rfl⟩)
              · rintro e_19 _ ⟨s12_19, k2_19, k3_19, k4_19, k7_19, k8_19, k9_19, k10_19, k11_19, rfl⟩
                have s2_19 := k2_19.trans s2_18
                have s3_19 := k3_19.trans s3_18
                have s4_19 := k4_19.trans s4_18
                have s7_19 := k7_19.trans s7_18
                have s8_19 := k8_19.trans s8_18
                have s9_19 := k9_19.trans s9_18
                have s10_19 := k10_19.trans s10_18
                have s11_19 := k11_19.trans s11_18
                refine aw_seq ?_
                refine aw_text ?_
                refine al_ro' (ro_assign ev_c) trivial rfl ?_
                refine al_end (fun e_23 he_23 => ?_)
                have s2_23 := ef 2 he_23 (up_m rfl s2_19)
                have s3_23 := ef 3 he_23 (up_m rfl s3_19)
                have s4_23 := ef 4 he_23 (up_m rfl s4_19)
                have s7_23 := ef 7 he_23 (up_m rfl s7_19)
                have s8_23 := ef 8 he_23 (up_m rfl s8_19)
                have s9_23 := ef 9 he_23 (up_m rfl s9_19)
                have s10_23 := ef 10 he_23 (up_m rfl s10_19)
                have s11_23 := ef 11 he_23 (up_m rfl s11_19)
                have s12_23 := ef 12 he_23 (up_m rfl s12_19)
                have s13_23 := ef 13 he_23 up_h
                clear he_23 s10_19 s11_19 s12_19 s2_19 s3_19 s4_19 s7_19 s8_19 s9_19
                refine then_n ?_
                refine aw_seq ?_
                refine aw_cut (fun e mem => (evA e (.tmp 12) = .v (.int .i64 (if cskE nm ps b d v xs = 0 then (cskW ps b v xs).2 else cskE nm ps b d v xs))) ∧ (evA e (.tmp 13) = .v (.int .i64 (if cskE nm ps b d v xs = 0 then (cskW ps b v xs).1 else 0))) ∧ (evA e (.tmp 2) = evA e_23 (.tmp 2)) ∧ (evA e (.tmp 3) = evA e_23 (.tmp 3)) ∧ (evA e (.tmp 7) = evA e_23 (.tmp 7)) ∧ (evA e (.tmp 8) = evA e_23 (.tmp 8)) ∧ (evA e (.tmp 9) = evA e_23 (.tmp 9)) ∧ (evA e (.tmp 10) = evA e_23 (.tmp 10)) ∧ (evA e (.tmp 11) = evA e_23 (.tmp 11)) ∧ m_15 = mem) ?_ ?_
                ·
                  refine aw_seq ?_
                  refine aw_text ?_
                  refine al_ro' (ro_move s12_23) trivial rfl ?_
                  refine al_ro' (ro_eql up_h ev_c) trivial rfl ?_
                  refine al_end (fun e_25 he_25 => ?_)
                  have s2_25 := ef 2 he_25 (u2 rfl s2_23)
                  have s3_25 := ef 3 he_25 (u2 rfl s3_23)
                  have s4_25 := ef 4 he_25 (u2 rfl s4_23)
                  have s7_25 := ef 7 he_25 (u2 rfl s7_23)
                  have s8_25 := ef 8 he_25 (u2 rfl s8_23)
                  have s9_25 := ef 9 he_25 (u2 rfl s9_23)
                  have s10_25 := ef 10 he_25 (u2 rfl s10_23)
                  have s11_25 := ef 11 he_25 (u2 rfl s11_23)
                  have s12_25 := ef 12 he_25 (u2 rfl s12_23)
                  have s13_25 := ef 13 he_25 (u2 rfl s13_23)
                  have s53_25 := ef 53 he_25 up_h
                  clear he_25
                  refine then_n ?_
                  refine aw_case s53_25 (fun hq_26 => ?_) (fun hq_26 => ?_)
                  · (first | replace hq_26 := bnt hq_26 | replace hq_26 := bnf hq_26 | replace hq_26 := bt hq_26 | replace hq_26 := bf hq_26 | replace hq_26 := bt' hq_26 | replace hq_26 := bf' hq_26 | skip)
                    first
                    | (cases hq_26; done) | (exfalso; omega)
                    | (
                       (have hz : cskE nm ps b d v xs = 0 := (by assumption); have hR0 := ride_right hz; have hR : trackR ps ∧ sysR b d v ∧ sqsE ps xs = 0 := ⟨hR0.1, hR0.2.1, (firstE_cons hR0.2.2).1⟩)
                       refine aw_text ?_
                       refine al_ro' (ro_eq (ro_ld_ptr k27_ty24 rfl mo0_15 s3_25 (by first | exact Nat.le_of_ble_eq_true rfl | omega | (simp only [lnS] <;> omega) | (simp <;> omega))) (by first | (simp only [packA_t, packA_f, iE, bE, setAt, cellsA, Value.cells, map_vc, map_vn, Nat.reduceAdd, qS] <;> rfl) | rfl)) trivial rfl ?_
                       refine al_ro' (ro_eq (ro_ld_ptr k27_ty26 rfl mo1_15 (up_m rfl s4_25) (by first | exact Nat.le_of_ble_eq_true rfl | omega | (simp only [lnS] <;> omega) | (simp <;> omega))) (by first | (simp only [packA_t, packA_f, iE, bE, setAt, cellsA, Value.cells, map_vc, map_vn, Nat.reduceAdd, qS] <;> rfl) | rfl)) trivial rfl ?_
                       refine al_ro' (ro_move (u2 rfl s2_25)) trivial rfl ?_
                       refine al_ro' (ro_call (evL_cons (u2 rfl up_h) (evL_cons (up_m rfl up_h) (evL_cons up_h evL_nil))) rfl (rCheckSquares_ok nm ps hR.1 xs (sqs_right hR.2.2) b d v hR.2.1) k27_hcf58) trivial rfl ?_
                       refine al_ro' (ro_move up_h) trivial rfl ?_
                       refine al_ro' (ro_extract up_h rfl) trivial rfl ?_
                       refine al_ro' (ro_extract (up_m rfl up_h) rfl) trivial rfl ?_
                       refine al_ro' (ro_assign (up_m rfl up_h)) trivial rfl ?_
                       refine al_ro' (ro_assign (up_m rfl up_h)) trivial rfl ?_
                       refine al_end (fun e_27 he_27 => ?_)
                       have s2_27 := ef 2 he_27 (up_m rfl (u8 rfl s2_25))
                       have s3_27 := ef 3 he_27 (up_m rfl (u8 rfl s3_25))
                       have s7_27 := ef 7 he_27 (up_m rfl (u8 rfl s7_25))
                       have s8_27 := ef 8 he_27 (up_m rfl (u8 rfl s8_25))
                       have s9_27 := ef 9 he_27 (up_m rfl (u8 rfl s9_25))
                       have s10_27 := ef 10 he_27 (up_m rfl (u8 rfl s10_25))
                       have s11_27 := ef 11 he_27 (up_m rfl (u8 rfl s11_25))
                       have s12_27 := ef 12 he_27 up_h
                       have s13_27 := ef 13 he_27 (up_m rfl up_h)
                       clear he_27
                       refine then_n ⟨(s12_27).trans (by (refine avi ?_; first | rw [if_pos (by assumption)] | rw [if_neg (by assumption)])), (s13_27).trans (by (refine avi ?_; first | rw [if_pos (by assumption)] | rw [if_neg (by assumption)])), (s2_27).trans (s2_23).symm, (s3_27).trans (s3_23).symm, (s7_27).trans (s7_23).symm, (s8_27).trans (s8_23).symm, (s9_27).trans (s9_23).symm, (s10_27).trans (s10_23).symm, (s11_27).trans (s11_23).symm, rfl⟩)
                  · (first | replace hq_26 := bnt hq_26 | replace hq_26 := bnf hq_26 | replace hq_26 := bt hq_26 | replace hq_26 := bf hq_26 | replace hq_26 := bt' hq_26 | replace hq_26 := bf' hq_26 | skip)
                    first
                    | (cases hq_26; done) | (exfalso; omega)
                    | (
                       refine aw_skip ?_
                       refine then_n ⟨(s12_25).trans (by (refine avi ?_; first | rw [if_pos (by assumption)] | rw [if_neg (by assumption)])), (s13_25).trans (by (refine avi ?_; first | rw [if_pos (by assumption)] | rw [if_neg (by assumption)])), (s2_25).trans (s2_23).symm, (s3_25).trans (s3_23).symm, (s7_25).trans (s7_23).symm, (s8_25).trans (s8_23).symm, (s9_25).trans (s9_23).symm, (s10_25).trans (s10_23).symm, (s11_25).trans (s11_23).symm, rfl⟩)
                · rintro e_24 _ ⟨s12_24, s13_24, k2_24, k3_24, k7_24, k8_24, k9_24, k10_24, k11_24, rfl⟩
                  have s2_24 := k2_24.trans s2_23
                  have s3_24 := k3_24.trans s3_23
                  have s7_24 := k7_24.trans s7_23
                  have s8_24 := k8_24.trans s8_23
                  have s9_24 := k9_24.trans s9_23
                  have s10_24 := k10_24.trans s10_23
                  have s11_24 := k11_24.trans s11_23
                  refine aw_seq ?_
                  refine aw_seq ?_
                  refine aw_text ?_
                  refine al_ro' (ro_move s8_24) trivial rfl ?_
                  refine al_ro' (ro_move (up_m rfl s12_24)) trivial rfl ?_
                  refine al_ro' (ro_neq (up_m rfl up_h) up_h) trivial rfl ?_
                  refine al_ro' (ro_move up_h) trivial rfl ?_
                  refine al_case up_h (fun hb_28 hq_28 => ?_) (fun hb_28 hq_28 => ?_)
                  · (first | replace hq_28 := bnt hq_28 | replace hq_28 := bnf hq_28 | replace hq_28 := bt hq_28 | replace hq_28 := bf hq_28 | replace hq_28 := bt' hq_28 | replace hq_28 := bf' hq_28 | skip)
                    first
                    | (cases hq_28; done) | (exfalso; omega)
                    | (
                       refine al_skip' ⟨_, rfl, .inl hb_28⟩ rfl ?_
                       refine al_skip' ⟨_, rfl, .inl (up_m rfl hb_28)⟩ rfl ?_
                       refine al_skip' ⟨_, rfl, .inl (u2 rfl hb_28)⟩ rfl ?_
                       refine al_ro' (ro_pickT (up_m rfl (u2 rfl hb_28)) ev_c) trivial rfl ?_
                       refine al_end (fun e_29 he_29 => ?_)
                       have s2_29 := ef 2 he_29 (u8 rfl s2_24)
                       have s3_29 := ef 3 he_29 (u8 rfl s3_24)
                       have s9_29 := ef 9 he_29 (u8 rfl s9_24)
                       have s10_29 := ef 10 he_29 (u8 rfl s10_24)
                       have s11_29 := ef 11 he_29 (u8 rfl s11_24)
                       have s68_29 := ef 68 he_29 up_h
                       clear he_29 hb_28 s10_24 s11_24 s12_24 s13_24 s2_24 s3_24 s7_24 s8_24 s9_24
                       refine then_n ?_
                       refine aw_true s68_29 ?_
                       refine aw_seq ?_
                       refine aw_text ?_
                       refine al_ro' (ro_assign ev_c) trivial rfl ?_
                       refine al_end (fun e_31 he_31 => ?_)
                       have s6_31 := ef 6 he_31 up_h
                       clear he_31 s10_29 s11_29 s2_29 s3_29 s68_29 s9_29
                       refine then_n ?_
                       refine aw_ret ?_
                       refine then_r ?_
                       refine ret1 (.inr rfl) (by kernel_rfl) (resV_tmp s6_31) (.ro _ rfl) ?_
                       clear s6_31 mo2_15 mo1_15 mo0_15 ml_15
                       (first | rfl | (simp; done) | (simp_all; done) | (rw [if_pos hz, if_pos hz]; simp; done) | (have hn : ¬ timE nm ps xs = 0 := (by assumption); rw [if_neg hn, if_neg hn]; simp; done)))
                  · (first | replace hq_28 := bnt hq_28 | replace hq_28 := bnf hq_28 | replace hq_28 := bt hq_28 | replace hq_28 := bf hq_28 | replace hq_28 := bt' hq_28 | replace hq_28 := bf' hq_28 | skip)
                    first
                    | (cases hq_28; done) | (exfalso; omega)
                    | (
                       refine al_ro' (ro_move (u4 rfl s7_24)) ⟨_, rfl, hb_28⟩ rfl ?_
                       refine al_ro' (ro_move (up_m rfl (u4 rfl s13_24))) ⟨_, rfl, (up_m rfl hb_28)⟩ rfl ?_
                       refine al_ro' (ro_neq (up_m rfl up_h) up_h) ⟨_, rfl, (u2 rfl hb_28)⟩ rfl ?_
                       refine al_ro' (ro_pickF (up_m rfl (u2 rfl hb_28)) up_h) trivial rfl ?_
                       refine al_end (fun e_32 he_32 => ?_)
                       have s2_32 := ef 2 he_32 (u8 rfl s2_24)
                       have s3_32 := ef 3 he_32 (u8 rfl s3_24)
                       have s9_32 := ef 9 he_32 (u8 rfl s9_24)
                       have s10_32 := ef 10 he_32 (u8 rfl s10_24)
                       have s11_32 := ef 11 he_32 (u8 rfl s11_24)
                       have s68_32 := ef 68 he_32 up_h
                       clear he_32 hb_28 s10_24 s11_24 s12_24 s13_24 s2_24 s3_24 s7_24 s8_24 s9_24
                       refine then_n ?_
                       refine aw_case s68_32 (fun hq_33 => ?_) (fun hq_33 => ?_)
                       · (first | replace hq_33 := bnt hq_33 | replace hq_33 := bnf hq_33 | replace hq_33 := bt hq_33 | replace hq_33 := bf hq_33 | replace hq_33 := bt' hq_33 | replace hq_33 := bf' hq_33 | skip)
                         first
                         | (cases hq_33; done) | (exfalso; omega)
                         | (
                            refine aw_seq ?_
                            refine aw_text ?_
                            refine al_ro' (ro_assign ev_c) trivial rfl ?_
                            refine al_end (fun e_34 he_34 => ?_)
                            have s6_34 := ef 6 he_34 up_h
                            clear he_34 s10_32 s11_32 s2_32 s3_32 s68_32 s9_32
                            refine then_n ?_
                            refine aw_ret ?_
                            refine then_r ?_
                            refine ret1 (.inr rfl) (by kernel_rfl) (resV_tmp s6_34) (.ro _ rfl) ?_
                            clear s6_34 mo2_15 mo1_15 mo0_15 ml_15
                            (first | rfl | (simp; done) | (simp_all; done) | (rw [if_pos hz, if_pos hz]; simp; done) | (have hn : ¬ timE nm ps xs = 0 := (by assumption); rw [if_neg hn, if_neg hn]; simp; done)))
                       · (first | replace hq_33 := bnt hq_33 | replace hq_33 := bnf hq_33 | replace hq_33 := bt hq_33 | replace hq_33 := bf hq_33 | replace hq_33 := bt' hq_33 | replace hq_33 := bf' hq_33 | skip)
                         first
                         | (cases hq_33; done) | (exfalso; omega)
                         | (
                            refine aw_skip ?_
                            refine then_n ?_
                            refine aw_seq ?_
                            refine aw_cut (fun e mem => (evA e (.tmp 11) = .v (.int .i64 (timE nm ps xs))) ∧ (evA e (.tmp 2) = evA e_32 (.tmp 2)) ∧ (evA e (.tmp 3) = evA e_32 (.tmp 3)) ∧ (evA e (.tmp 9) = evA e_32 (.tmp 9)) ∧ (evA e (.tmp 10) = evA e_32 (.tmp 10)) ∧ m_15 = mem) ?_ ?_
                            ·
                              refine aw_seq ?_
                              refine aw_text ?_
                              refine al_ro' (ro_move s11_32) trivial rfl ?_
                              refine al_ro' (ro_eql up_h ev_c) trivial rfl ?_
                              refine al_end (fun e_36 he_36 => ?_)
                              have s2_36 := ef 2 he_36 (u2 rfl s2_32)
                              have s3_36 := ef 3 he_36 (u2 rfl s3_32)
                              have s9_36 := ef 9 he_36 (u2 rfl s9_32)
                              have s10_36 := ef 10 he_36 (u2 rfl s10_32)
                              have s11_36 := ef 11 he_36 (u2 rfl s11_32)
                              have s70_36 := ef 70 he_36 up_h
                              clear he_36
                              refine then_n ?_
                              refine aw_case s70_36 (fun hq_37 => ?_) (fun hq_37 => ?_)
                              · (first | replace hq_37 := bnt hq_37 | replace hq_37 := bnf hq_37 | replace hq_37 := bt hq_37 | replace hq_37 := bf hq_37 | replace hq_37 := bt' hq_37 | replace hq_37 := bf' hq_37 | skip)
                                first
                                | (cases hq_37; done) | (exfalso; omega)
                                | (
                                   refine aw_text ?_
                                   refine al_ro' (ro_eq (ro_ld_ptr k27_ty24 rfl mo0_15 s3_36 (by first | exact Nat.le_of_ble_eq_true rfl | omega | (simp only [lnS] <;> omega) | (simp <;> omega))) (by first | (simp only [packA_t, packA_f, iE, bE, setAt, cellsA, Value.cells, map_vc, map_vn, Nat.reduceAdd, qS] <;> rfl) | rfl)) trivial rfl ?_
                                   refine al_ro' (ro_move (up_m rfl s2_36)) trivial rfl ?_
                                   refine al_ro' (ro_call (evL_cons (up_m rfl up_h) (evL_cons up_h evL_nil)) rfl (rSquaresErr_ok xs (by omega) nm ps (by omega)) k27_hcf49) trivial rfl ?_
                                   refine al_ro' (ro_assign up_h) trivial rfl ?_
                                   refine al_end (fun e_38 he_38 => ?_)
                                   have s2_38 := ef 2 he_38 (u4 rfl s2_36)
                                   have s3_38 := ef 3 he_38 (u4 rfl s3_36)
                                   have s9_38 := ef 9 he_38 (u4 rfl s9_36)
                                   have s10_38 := ef 10 he_38 (u4 rfl s10_36)
                                   have s11_38 := ef 11 he_38 up_h
                                   clear he_38
                                   refine then_n ⟨(s11_38).trans (by (refine avi ?_; rw [timE_d]; first | rw [if_pos (by assumption)] | rw [if_neg (by assumption)])), (s2_38).trans (s2_32).symm, (s3_38).trans (s3_32).symm, (s9_38).trans (s9_32).symm, (s10_38).trans (s10_32).symm, rfl⟩)
                              · (first | replace hq_37 := bnt hq_37 | replace hq_37 := bnf hq_37 | replace hq_37 := bt hq_37 | replace hq_37 := bf hq_37 | replace hq_37 := bt' hq_37 | replace hq_37 := bf' hq_37 | skip)
                                first
                                | (cases hq_37; done) | (exfalso; omega)
                                | (
                                   refine aw_skip ?_
                                   refine then_n ⟨(s11_36).trans (by (refine avi ?_; rw [timE_d]; first | rw [if_pos (by assumption)] | rw [if_neg (by assumption)])), (s2_36).trans (s2_32).symm, (s3_36).trans (s3_32).symm, (s9_36).trans (s9_32).symm, (s10_36).trans (s10_32).symm, rfl⟩)
                            · rintro e_35 _ ⟨s11_35, k2_35, k3_35, k9_35, k10_35, rfl⟩
                              have s2_35 := k2_35.trans s2_32
                              have s3_35 := k3_35.trans s3_32
                              have s9_35 := k9_35.trans s9_32
                              have s10_35 := k10_35.trans s10_32
                              refine aw_seq ?_
                              refine aw_text ?_
                              refine al_stm (st_alloc k27_az68 rfl ml_15) trivial rfl (fun m_39 hm_39 => ?_)
                              have mo3_39 := m_push hm_39 ml_15
                              (try simp only [packA_t, packA_f, iE, bE, setAt, cellsA, Value.cells, map_vc, map_vn, Nat.reduceAdd, qS] at mo3_39)
                              have mo2_39 := m_push_o hm_39 mo2_15
                              have mo1_39 := m_push_o hm_39 mo1_15
                              have mo0_39 := m_push_o hm_39 mo0_15
                              have ml_39 := m_push_l hm_39 ml_15
                              have ml_39 : _ = 4 := ml_39
                              clear hm_39 mo2_15 mo1_15 mo0_15
                              refine al_end (fun e_40 he_40 => ?_)
                              have s2_40 := ef 2 he_40 (up_m rfl s2_35)
                              have s3_40 := ef 3 he_40 (up_m rfl s3_35)
                              have s9_40 := ef 9 he_40 (up_m rfl s9_35)
                              have s10_40 := ef 10 he_40 (up_m rfl s10_35)
                              have s11_40 := ef 11 he_40 (up_m rfl s11_35)
                              have s14_40 := ef 14 he_40 up_h
                              clear he_40 s10_35 s11_35 s2_35 s3_35 s9_35
                              refine then_n ?_
                              refine aw_seq ?_
                              refine aw_seq ?_
                              refine aw_text ?_
                              refine al_ro' (ro_move s11_40) trivial rfl ?_
                              refine al_ro' (ro_eql up_h ev_c) trivial rfl ?_
                              refine al_end (fun e_41 he_41 => ?_)
                              have s2_41 := ef 2 he_41 (u2 rfl s2_40)
                              have s3_41 := ef 3 he_41 (u2 rfl s3_40)
                              have s9_41 := ef 9 he_41 (u2 rfl s9_40)
                              have s10_41 := ef 10 he_41 (u2 rfl s10_40)
                              have s11_41 := ef 11 he_41 (u2 rfl s11_40)
                              have s14_41 := ef 14 he_41 (u2 rfl s14_40)
                              have s75_41 := ef 75 he_41 up_h
                              clear he_41 s10_40 s11_40 s14_40 s2_40 s3_40 s9_40
                              refine then_n ?_
                              refine aw_case s75_41 (fun hq_42 => ?_) (fun hq_42 => ?_)
                              · (first | replace hq_42 := bnt hq_42 | replace hq_42 := bnf hq_42 | replace hq_42 := bt hq_42 | replace hq_42 := bf hq_42 | replace hq_42 := bt' hq_42 | replace hq_42 := bf' hq_42 | skip)
                                first
                                | (cases hq_42; done) | (exfalso; omega)
                                | (
                                   (have hz : timE nm ps xs = 0 := (by assumption); have hT : trackR ps ∧ (xs.length = ps.length + 1 ∧ ∀ j : Nat, 0 ≤ xs.getD j default ∧ xs.getD j default ≤ 20000000000) := ⟨chk_right (firstE_cons hz).1, sqs_right (firstE_cons (firstE_cons hz).2).1⟩)
                                   refine aw_text ?_
                                   refine al_ro' (ro_eq (ro_ld_ptr k27_ty24 rfl mo0_39 s3_41 (by first | exact Nat.le_of_ble_eq_true rfl | omega | (simp only [lnS] <;> omega) | (simp <;> omega))) (by first | (simp only [packA_t, packA_f, iE, bE, setAt, cellsA, Value.cells, map_vc, map_vn, Nat.reduceAdd, qS] <;> rfl) | rfl)) trivial rfl ?_
                                   refine al_ro' (ro_move (up_m rfl s2_41)) trivial rfl ?_
                                   refine al_ro' (ro_call (evL_cons (up_m rfl up_h) (evL_cons up_h evL_nil)) rfl (rTimeOf_ok nm ps hT.1 xs hT.2) k27_hcf59) trivial rfl ?_
                                   refine al_ro' (ro_move up_h) trivial rfl ?_
                                   refine al_ro' (ro_extract up_h rfl) trivial rfl ?_
                                   refine al_ro' (ro_extract (up_m rfl up_h) rfl) trivial rfl ?_
                                   refine al_stm (st_store (u2 rfl (u4 rfl s14_41)) (up_m rfl up_h) rfl rfl mo3_39 k27_sz68 rfl (by first | exact Nat.le_of_ble_eq_true rfl | omega | (simp only [lnS] <;> omega) | (simp <;> omega))) trivial rfl (fun m_43 hm_43 => ?_)
                                   have mo3_43 := m_set hm_43 mo3_39
                                   (try simp only [packA_t, packA_f, iE, bE, setAt, cellsA, Value.cells, map_vc, map_vn, Nat.reduceAdd, qS] at mo3_43)
                                   have mo2_43 := m_set_o hm_43 mo2_39 (by decide)
                                   have mo1_43 := m_set_o hm_43 mo1_39 (by decide)
                                   have mo0_43 := m_set_o hm_43 mo0_39 (by decide)
                                   have ml_43 := m_set_l hm_43 ml_39
                                   clear hm_43 mo3_39 mo2_39 mo1_39 mo0_39
                                   refine al_ro' (ro_assign (up_n up_h)) trivial rfl ?_
                                   refine al_end (fun e_44 he_44 => ?_)
                                   have s9_44 := ef 9 he_44 (up_m rfl (up_n (u2 rfl (u4 rfl s9_41))))
                                   have s10_44 := ef 10 he_44 (up_m rfl (up_n (u2 rfl (u4 rfl s10_41))))
                                   have s11_44 := ef 11 he_44 up_h
                                   have s14_44 := ef 14 he_44 (up_m rfl (up_n (u2 rfl (u4 rfl s14_41))))
                                   clear he_44 s10_41 s11_41 s14_41 s2_41 s3_41 s75_41 s9_41
                                   refine then_n ?_
                                   refine aw_seq ?_
                                   refine aw_text ?_
                                   refine al_ro' (ro_move s10_44) trivial rfl ?_
                                   refine al_ro' (ro_move (up_m rfl s11_44)) trivial rfl ?_
                                   refine al_ro' (ro_eql (up_m rfl up_h) up_h) trivial rfl ?_
                                   refine al_ro' (ro_move up_h) trivial rfl ?_
                                   refine al_case up_h (fun hb_45 hq_45 => ?_) (fun hb_45 hq_45 => ?_)
                                   · (first | replace hq_45 := bnt hq_45 | replace hq_45 := bnf hq_45 | replace hq_45 := bt hq_45 | replace hq_45 := bf hq_45 | replace hq_45 := bt' hq_45 | replace hq_45 := bf' hq_45 | skip)
                                     first
                                     | (cases hq_45; done) | (exfalso; omega)
                                     | (
                                        refine al_ro' (ro_eq (ro_ld_ptr k27_ty68 rfl mo2_43 (u4 rfl s9_44) (by first | exact Nat.le_of_ble_eq_true rfl | omega | (simp only [lnS] <;> omega) | (simp <;> omega))) (by first | (simp only [packA_t, packA_f, iE, bE, setAt, cellsA, Value.cells, map_vc, map_vn, Nat.reduceAdd, qS] <;> rfl) | rfl)) ⟨_, rfl, hb_45⟩ rfl ?_
                                        refine al_ro' (ro_eq (ro_ld_ptr k27_ty68 rfl mo3_43 (up_m rfl (u4 rfl s14_44)) (by first | exact Nat.le_of_ble_eq_true rfl | omega | (simp only [lnS] <;> omega) | (simp <;> omega))) (by first | (simp only [packA_t, packA_f, iE, bE, setAt, cellsA, Value.cells, map_vc, map_vn, Nat.reduceAdd, qS] <;> rfl) | rfl)) ⟨_, rfl, (up_m rfl hb_45)⟩ rfl ?_
                                        refine al_ro' (ro_sqeql (up_m rfl up_h) up_h rfl rfl k27_gq68 k27_sq68 (by decide)) ⟨_, rfl, (u2 rfl hb_45)⟩ rfl ?_
                                        refine al_ro' (ro_pickT (up_m rfl (u2 rfl hb_45)) up_h) trivial rfl ?_
                                        refine al_ro' (ro_assign up_h) trivial rfl ?_
                                        refine al_end (fun e_46 he_46 => ?_)
                                        have s6_46 := ef 6 he_46 up_h
                                        clear he_46 hb_45 s10_44 s11_44 s14_44 s9_44
                                        refine then_n ?_
                                        refine aw_ret ?_
                                        refine ret1 (.inr rfl) (by kernel_rfl) (resV_tmp s6_46) (.ro _ rfl) ?_
                                        clear s6_46 mo3_43 mo2_43 mo1_43 mo0_43 ml_43
                                        (first | rfl | (simp; done) | (simp_all; done) | (rw [if_pos hz, if_pos hz]; simp; done) | (have hn : ¬ timE nm ps xs = 0 := (by assumption); rw [if_neg hn, if_neg hn]; simp; done)))
                                   · (first | replace hq_45 := bnt hq_45 | replace hq_45 := bnf hq_45 | replace hq_45 := bt hq_45 | replace hq_45 := bf hq_45 | replace hq_45 := bt' hq_45 | replace hq_45 := bf' hq_45 | skip)
                                     first
                                     | (cases hq_45; done) | (exfalso; omega)
                                     | (
                                        refine al_skip' ⟨_, rfl, .inl hb_45⟩ rfl ?_
                                        refine al_skip' ⟨_, rfl, .inl (up_m rfl hb_45)⟩ rfl ?_
                                        refine al_skip' ⟨_, rfl, .inl (u2 rfl hb_45)⟩ rfl ?_
                                        refine al_ro' (ro_pickF (up_m rfl (u2 rfl hb_45)) ev_c) trivial rfl ?_
                                        refine al_ro' (ro_assign up_h) trivial rfl ?_
                                        refine al_end (fun e_47 he_47 => ?_)
                                        have s6_47 := ef 6 he_47 up_h
                                        clear he_47 hb_45 s10_44 s11_44 s14_44 s9_44
                                        refine then_n ?_
                                        refine aw_ret ?_
                                        refine ret1 (.inr rfl) (by kernel_rfl) (resV_tmp s6_47) (.ro _ rfl) ?_
                                        clear s6_47 mo3_43 mo2_43 mo1_43 mo0_43 ml_43
                                        (first | rfl | (simp; done) | (simp_all; done) | (rw [if_pos hz, if_pos hz]; simp; done) | (have hn : ¬ timE nm ps xs = 0 := (by assumption); rw [if_neg hn, if_neg hn]; simp; done))))
                              · (first | replace hq_42 := bnt hq_42 | replace hq_42 := bnf hq_42 | replace hq_42 := bt hq_42 | replace hq_42 := bf hq_42 | replace hq_42 := bt' hq_42 | replace hq_42 := bf' hq_42 | skip)
                                first
                                | (cases hq_42; done) | (exfalso; omega)
                                | (
                                   refine aw_skip ?_
                                   refine then_n ?_
                                   refine aw_seq ?_
                                   refine aw_text ?_
                                   refine al_ro' (ro_move s10_41) trivial rfl ?_
                                   refine al_ro' (ro_move (up_m rfl s11_41)) trivial rfl ?_
                                   refine al_ro' (ro_eql (up_m rfl up_h) up_h) trivial rfl ?_
                                   refine al_ro' (ro_move up_h) trivial rfl ?_
                                   refine al_case up_h (fun hb_48 hq_48 => ?_) (fun hb_48 hq_48 => ?_)
                                   · (first | replace hq_48 := bnt hq_48 | replace hq_48 := bnf hq_48 | replace hq_48 := bt hq_48 | replace hq_48 := bf hq_48 | replace hq_48 := bt' hq_48 | replace hq_48 := bf' hq_48 | skip)
                                     first
                                     | (cases hq_48; done) | (exfalso; omega)
                                     | (
                                        refine al_ro' (ro_eq (ro_ld_ptr k27_ty68 rfl mo2_39 (u4 rfl s9_41) (by first | exact Nat.le_of_ble_eq_true rfl | omega | (simp only [lnS] <;> omega) | (simp <;> omega))) (by first | (simp only [packA_t, packA_f, iE, bE, setAt, cellsA, Value.cells, map_vc, map_vn, Nat.reduceAdd, qS] <;> rfl) | rfl)) ⟨_, rfl, hb_48⟩ rfl ?_
                                        refine al_ro' (ro_eq (ro_ld_ptr k27_ty68 rfl mo3_39 (up_m rfl (u4 rfl s14_41)) (by first | exact Nat.le_of_ble_eq_true rfl | omega | (simp only [lnS] <;> omega) | (simp <;> omega))) (by first | (simp only [packA_t, packA_f, iE, bE, setAt, cellsA, Value.cells, map_vc, map_vn, Nat.reduceAdd, qS] <;> rfl) | rfl)) ⟨_, rfl, (up_m rfl hb_48)⟩ rfl ?_
                                        refine al_ro' (ro_sqeql (up_m rfl up_h) up_h rfl rfl k27_gq68 k27_sq68 (by decide)) ⟨_, rfl, (u2 rfl hb_48)⟩ rfl ?_
                                        refine al_ro' (ro_pickT (up_m rfl (u2 rfl hb_48)) up_h) trivial rfl ?_
                                        refine al_ro' (ro_assign up_h) trivial rfl ?_
                                        refine al_end (fun e_49 he_49 => ?_)
                                        have s6_49 := ef 6 he_49 up_h
                                        clear he_49 hb_48 s10_41 s11_41 s14_41 s2_41 s3_41 s75_41 s9_41
                                        refine then_n ?_
                                        refine aw_ret ?_
                                        refine ret1 (.inr rfl) (by kernel_rfl) (resV_tmp s6_49) (.ro _ rfl) ?_
                                        clear s6_49 mo3_39 mo2_39 mo1_39 mo0_39 ml_39
                                        (first | rfl | (simp; done) | (simp_all; done) | (rw [if_pos hz, if_pos hz]; simp; done) | (have hn : ¬ timE nm ps xs = 0 := (by assumption); rw [if_neg hn, if_neg hn]; simp; done)))
                                   · (first | replace hq_48 := bnt hq_48 | replace hq_48 := bnf hq_48 | replace hq_48 := bt hq_48 | replace hq_48 := bf hq_48 | replace hq_48 := bt' hq_48 | replace hq_48 := bf' hq_48 | skip)
                                     first
                                     | (cases hq_48; done) | (exfalso; omega)
                                     | (
                                        refine al_skip' ⟨_, rfl, .inl hb_48⟩ rfl ?_
                                        refine al_skip' ⟨_, rfl, .inl (up_m rfl hb_48)⟩ rfl ?_
                                        refine al_skip' ⟨_, rfl, .inl (u2 rfl hb_48)⟩ rfl ?_
                                        refine al_ro' (ro_pickF (up_m rfl (u2 rfl hb_48)) ev_c) trivial rfl ?_
                                        refine al_ro' (ro_assign up_h) trivial rfl ?_
                                        refine al_end (fun e_50 he_50 => ?_)
                                        have s6_50 := ef 6 he_50 up_h
                                        clear he_50 hb_48 s10_41 s11_41 s14_41 s2_41 s3_41 s75_41 s9_41
                                        refine then_n ?_
                                        refine aw_ret ?_
                                        refine ret1 (.inr rfl) (by kernel_rfl) (resV_tmp s6_50) (.ro _ rfl) ?_
                                        clear s6_50 mo3_39 mo2_39 mo1_39 mo0_39 ml_39
                                        (first | rfl | (simp; done) | (simp_all; done) | (rw [if_pos hz, if_pos hz]; simp; done) | (have hn : ¬ timE nm ps xs = 0 := (by assumption); rw [if_neg hn, if_neg hn]; simp; done))))))))
end Go.Proofs.Ytelgkjekpcfffaa
