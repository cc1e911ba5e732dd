/- The law of chapter 5 on what is reached. No conditions on a program. -/
import Derived.Test.YtelgkjekpcfffaaK15
namespace Go.Proofs.Ytelgkjekpcfffaa
open Go Go.RowKit Go.Proofs
set_option linter.unusedSimpArgs false
set_option linter.unusedVariables false
theorem k16_be4 (a b : Bool) : ∀ w, (binOp .eql 4 (.bool a) (.bool b)).run Try.prog w = .ok (.bool (a == b)) w := fun _ => by kernel_rfl
theorem k16_fl42_0 : FldIs Try.prog 42 0 0 false 1 := by unfold FldIs; kernel_rfl
theorem k16_fl44_0 : FldIs Try.prog 44 0 0 true 2 := by unfold FldIs; kernel_rfl
theorem k16_fl44_1 : FldIs Try.prog 44 1 2 false 1 := by unfold FldIs; kernel_rfl
theorem k16_hcf15 : ∀ args w, (callFunc 15 args).run Try.prog w = .ok (.enter 15 args) w := fun _ _ => by kernel_rfl
theorem k16_hcf16 : ∀ args w, (callFunc 16 args).run Try.prog w = .ok (.enter 16 args) w := fun _ _ => by kernel_rfl
theorem k16_hcf18 : ∀ args w, (callFunc 18 args).run Try.prog w = .ok (.enter 18 args) w := fun _ _ => by kernel_rfl
theorem k16_hcf19 : ∀ args w, (callFunc 19 args).run Try.prog w = .ok (.enter 19 args) w := fun _ _ => by kernel_rfl
theorem k16_hcf22 : ∀ args w, (callFunc 22 args).run Try.prog w = .ok (.enter 22 args) w := fun _ _ => by kernel_rfl
theorem k16_hcf23 : ∀ args w, (callFunc 23 args).run Try.prog w = .ok (.enter 23 args) w := fun _ _ => by kernel_rfl
theorem k16_hcf24 : ∀ args w, (callFunc 24 args).run Try.prog w = .ok (.enter 24 args) w := fun _ _ => by kernel_rfl
theorem k16_hcf25 : ∀ args w, (callFunc 25 args).run Try.prog w = .ok (.enter 25 args) w := fun _ _ => by kernel_rfl
theorem k16_hcf26 : ∀ args w, (callFunc 26 args).run Try.prog w = .ok (.enter 26 args) w := fun _ _ => by kernel_rfl
theorem k16_hcf27 : ∀ args w, (callFunc 27 args).run Try.prog w = .ok (.enter 27 args) w := fun _ _ => by kernel_rfl
theorem k16_sl30 : SlIs Try.prog 30 3 1 8 (.int .i64 0) := ⟨by kernel_rfl, by kernel_rfl, by kernel_rfl⟩
theorem k16_ty24 : TyIs Try.prog 24 true 2 := ⟨by kernel_rfl, by kernel_rfl⟩
theorem k16_ty26 : TyIs Try.prog 26 true 3 := ⟨by kernel_rfl, by kernel_rfl⟩
theorem k16_ty3 : TyIs Try.prog 3 false 1 := ⟨by kernel_rfl, by kernel_rfl⟩
theorem k16_ty42 : TyIs Try.prog 42 true 2 := ⟨by kernel_rfl, by kernel_rfl⟩

theorem firstE_four (a b c e : Int) : firstE [a, b, c, e] = if a = 0 then (if b = 0 then (if c = 0 then e else c) else b) else a := by
  simp only [firstE]
  by_cases h1 : a = 0
  · rw [if_pos h1, if_pos h1]
    by_cases h2 : b = 0
    · rw [if_pos h2, if_pos h2]
      by_cases h3 : c = 0
      · rw [if_pos h3, if_pos h3]; split <;> simp_all
      · rw [if_neg h3, if_neg h3]
    · rw [if_neg h2, if_neg h2]
  · rw [if_neg h1, if_neg h1]
def d1R (nm : ByteArray) (ps : List Piece) (b d v post sq : Int) : Int := if firstE [(chk nm ps).2, sysE b d v] = 0 then stateE ps post sq else firstE [(chk nm ps).2, sysE b d v]
def d2R (nm : ByteArray) (ps : List Piece) (b d v post sq stop : Int) : Int := if d1R nm ps b d v post sq = 0 then stopE ps stop else d1R nm ps b d v post sq
theorem runE_d (nm : ByteArray) (ps : List Piece) (b d v post sq stop : Int) : runE nm ps b d v post sq stop = if d2R nm ps b d v post sq stop = 0 ∧ stop < post then 9 else d2R nm ps b d v post sq stop := by
  have h : runE nm ps b d v post sq stop = firstE [firstE [(chk nm ps).2, sysE b d v], stateE ps post sq, stopE ps stop, unlessE (decide (post ≤ stop)) 9] := rfl
  rw [h, firstE_four, d2R, d1R]
  by_cases h1 : firstE [(chk nm ps).2, sysE b d v] = 0
  · simp only [if_pos h1]
    by_cases h2 : stateE ps post sq = 0
    · simp only [if_pos h2]
      by_cases h3 : stopE ps stop = 0
      · simp only [if_pos h3, h3, true_and]
        by_cases h4 : stop < post
        · rw [if_pos h4, decide_eq_false (by omega)]; rfl
        · rw [if_neg h4, decide_eq_true (by omega)]; rfl
      · rw [if_neg h3, if_neg (fun q => h3 q.1)]
    · simp only [if_neg h2]; rw [if_neg (fun q => h2 q.1)]
  · simp only [if_neg h1]; rw [if_neg (fun q => h1 q.1)]
theorem reaches2_ok (nm : ByteArray) (ps : List Piece) (hs : nm.size ≤ 1000000000) (hp : ps.length ≤ 1000000000) (b d v post sq stop : Int) : FnOk Try.prog 23 [trA nm ps, syA b d v, .agg [iA post, iA sq], iA stop] (fun q => q = .tuple [bA (decide (runE nm ps b d v post sq stop = 0 ∧ (runW ps b d stop post sq).2 = 0)), iA (runE nm ps b d v post sq stop)]) :=
  (reaches_ok nm ps hs hp b d v post sq stop).mono fun q h => h.trans (by
    by_cases hq : runE nm ps b d v post sq stop = 0
    · simp [hq]
    · simp [hq])
theorem rRunTo2_ok {nm : ByteArray} {ps : List Piece} {b d v post sq stop : Int} (h : runE nm ps b d v post sq stop = 0) :
    FnOk Try.prog 27 [trA nm ps, syA b d v, .agg [iA post, iA sq], iA stop] (fun q => q = .tuple [.row 1 ((runW ps b d stop post sq).1.map iE), iA (runW ps b d stop post sq).2]) := by
  obtain ⟨h1, h2, h3, h4, h5, h6⟩ := runE_right h
  exact rRunTo_ok nm ps h1 b d v h2 post sq stop h3.1 h6 h5.2.1 h4
theorem runW_len {ps : List Piece} {b d stop post sq : Int} (h1 : ps.length ≤ 14) (h2 : stop < ps.length) (h0 : 0 ≤ post) : (runW ps b d stop post sq).1.length ≤ 1000 := by
  unfold runW
  split
  · simp
  · split
    · simp
    · rename_i l hl; have := goL_len hl; simp only; omega
set_option maxRecDepth 100000 in
set_option maxHeartbeats 4000000 in
theorem brakeReaches_ok (nm : ByteArray) (ps : List Piece) (b d v : Int) (post sq stop : Int) : FnOk Try.prog 4 [trA nm ps, syA b d v, .agg [iA post, iA sq, iA stop]] (fun q => q = bA true) := by
  refine fnOk_of (fn := Try.f4) 113 (by kernel_rfl) rfl (by kernel_rfl) (Nat.le_of_ble_eq_true rfl) ?_
  intro e_0 m_0 hA hm_0
  have s0_0 : evA e_0 (.tmp 0) = _ := hA 0 _ rfl
  have s1_0 : evA e_0 (.tmp 1) = _ := hA 1 _ rfl
  have s2_0 : evA e_0 (.tmp 2) = _ := hA 2 _ rfl
  have ml_0 : m_0.length = 0 := by rw [hm_0]; rfl
  clear hA hm_0
  refine aw_seq ?_
  refine aw_text ?_
  refine al_stm (st_box s0_0 rfl ml_0) trivial rfl (fun m_1 hm_1 => ?_)
  have mo0_1 := m_push hm_1 ml_0
  (try simp only [packA_t, packA_f, iE, bE, setAt, cellsA, Value.cells, map_vc, map_vn, Nat.reduceAdd, qS] at mo0_1)
  have ml_1 := m_push_l hm_1 ml_0
  have ml_1 : _ = 1 := ml_1
  clear hm_1
  refine al_stm (st_box (up_m rfl s1_0) rfl ml_1) trivial rfl (fun m_2 hm_2 => ?_)
  have mo1_2 := m_push hm_2 ml_1
  (try simp only [packA_t, packA_f, iE, bE, setAt, cellsA, Value.cells, map_vc, map_vn, Nat.reduceAdd, qS] at mo1_2)
  have mo0_2 := m_push_o hm_2 mo0_1
  have ml_2 := m_push_l hm_2 ml_1
  have ml_2 : _ = 2 := ml_2
  clear hm_2 mo0_1
  refine al_stm (st_box (u2 rfl s2_0) rfl ml_2) trivial rfl (fun m_3 hm_3 => ?_)
  have mo2_3 := m_push hm_3 ml_2
  (try simp only [packA_t, packA_f, iE, bE, setAt, cellsA, Value.cells, map_vc, map_vn, Nat.reduceAdd, qS] at mo2_3)
  have mo1_3 := m_push_o hm_3 mo1_2
  have mo0_3 := m_push_o hm_3 mo0_2
  have ml_3 := m_push_l hm_3 ml_2
  have ml_3 : _ = 3 := ml_3
  clear hm_3 mo1_2 mo0_2
  refine al_ro' (ro_assign ev_c) trivial rfl ?_
  refine al_end (fun e_4 he_4 => ?_)
  have s3_4 := ef 3 he_4 (up_m rfl (u2 rfl up_h))
  have s4_4 := ef 4 he_4 (u2 rfl up_h)
  have s5_4 := ef 5 he_4 (up_m rfl up_h)
  clear he_4 s0_0 s1_0 s2_0
  refine then_n ?_
  refine aw_seq ?_
  refine aw_seq ?_
  refine aw_text ?_
  refine al_ro' (ro_call evL_nil rfl (awake_ok) k16_hcf15) trivial rfl ?_
  refine al_ro' (ro_not up_h) trivial rfl ?_
  refine al_end (fun e_5 he_5 => ?_)
  have s3_5 := ef 3 he_5 (u2 rfl s3_4)
  have s4_5 := ef 4 he_5 (u2 rfl s4_4)
  have s5_5 := ef 5 he_5 (u2 rfl s5_4)
  have s15_5 := ef 15 he_5 up_h
  clear he_5 s3_4 s4_4 s5_4
  refine then_n ?_
  refine aw_case s15_5 (fun hq_6 => ?_) (fun hq_6 => ?_)
  · skip
    first
    | (cases hq_6; done) | ((first | replace hq_6 := bnt hq_6 | replace hq_6 := bnf hq_6 | replace hq_6 := bt hq_6 | replace hq_6 := bf hq_6 | replace hq_6 := bt' hq_6 | replace hq_6 := bf' hq_6 | skip); exfalso; omega) | (rw [hbe] at hq_6; cases hq_6; done)
    | ((first | replace hq_6 := bnt hq_6 | replace hq_6 := bnf hq_6 | replace hq_6 := bt hq_6 | replace hq_6 := bf hq_6 | replace hq_6 := bt' hq_6 | replace hq_6 := bf' hq_6 | skip)
       refine aw_seq ?_
       refine aw_text ?_
       refine al_ro' (ro_assign ev_c) trivial rfl ?_
       refine al_end (fun e_7 he_7 => ?_)
       have s6_7 := ef 6 he_7 up_h
       clear he_7 s15_5 s3_5 s4_5 s5_5
       refine then_n ?_
       refine aw_ret ?_
       refine then_r ?_
       refine ret1 (.inr rfl) (by kernel_rfl) (resV_tmp s6_7) (.ro _ rfl) ?_
       clear s6_7 mo2_3 mo1_3 mo0_3 ml_3
       (first | rfl | (simp [hq]; done) | (rw [if_pos hq]; simp; done) | (simp; done) | (refine avb ?_; simp only [decide_eq_true_eq, Bool.false_eq_true, true_iff, false_iff]; omega)))
  · skip
    first
    | (cases hq_6; done) | ((first | replace hq_6 := bnt hq_6 | replace hq_6 := bnf hq_6 | replace hq_6 := bt hq_6 | replace hq_6 := bf hq_6 | replace hq_6 := bt' hq_6 | replace hq_6 := bf' hq_6 | skip); exfalso; omega) | (rw [hbe] at hq_6; cases hq_6; done)
    | ((first | replace hq_6 := bnt hq_6 | replace hq_6 := bnf hq_6 | replace hq_6 := bt hq_6 | replace hq_6 := bf hq_6 | replace hq_6 := bt' hq_6 | replace hq_6 := bf' hq_6 | skip)
       refine aw_skip ?_
       refine then_n ?_
       refine aw_seq ?_
       refine aw_seq ?_
       refine aw_text ?_
       refine al_ro' (ro_eq (ro_ld_ptr k16_ty24 rfl mo0_3 s3_5 (by first | exact Nat.le_of_ble_eq_true rfl | omega | (simp only [lnS] <;> omega) | (simp <;> omega))) (by first | (simp only [packA_t, packA_f, iE, bE, setAt, cellsA, Value.cells, map_vc, map_vn, Nat.reduceAdd, qS] <;> rfl) | rfl)) trivial rfl ?_
       refine al_ro' (ro_call (evL_cons up_h evL_nil) rfl (short_ok nm ps) k16_hcf16) trivial rfl ?_
       refine al_ro' (ro_not up_h) trivial rfl ?_
       refine al_end (fun e_8 he_8 => ?_)
       have s3_8 := ef 3 he_8 (up_m rfl (u2 rfl s3_5))
       have s4_8 := ef 4 he_8 (up_m rfl (u2 rfl s4_5))
       have s5_8 := ef 5 he_8 (up_m rfl (u2 rfl s5_5))
       have s18_8 := ef 18 he_8 up_h
       clear he_8 s15_5 s3_5 s4_5 s5_5
       refine then_n ?_
       refine aw_case s18_8 (fun hq_9 => ?_) (fun hq_9 => ?_)
       · skip
         first
         | (cases hq_9; done) | ((first | replace hq_9 := bnt hq_9 | replace hq_9 := bnf hq_9 | replace hq_9 := bt hq_9 | replace hq_9 := bf hq_9 | replace hq_9 := bt' hq_9 | replace hq_9 := bf' hq_9 | skip); exfalso; omega) | (rw [hbe] at hq_9; cases hq_9; done)
         | ((first | replace hq_9 := bnt hq_9 | replace hq_9 := bnf hq_9 | replace hq_9 := bt hq_9 | replace hq_9 := bf hq_9 | replace hq_9 := bt' hq_9 | replace hq_9 := bf' hq_9 | skip)
            refine aw_seq ?_
            refine aw_text ?_
            refine al_ro' (ro_assign ev_c) trivial rfl ?_
            refine al_end (fun e_10 he_10 => ?_)
            have s6_10 := ef 6 he_10 up_h
            clear he_10 s18_8 s3_8 s4_8 s5_8
            refine then_n ?_
            refine aw_ret ?_
            refine then_r ?_
            refine ret1 (.inr rfl) (by kernel_rfl) (resV_tmp s6_10) (.ro _ rfl) ?_
            clear s6_10 mo2_3 mo1_3 mo0_3 ml_3
            (first | rfl | (simp [hq]; done) | (rw [if_pos hq]; simp; done) | (simp; done) | (refine avb ?_; simp only [decide_eq_true_eq, Bool.false_eq_true, true_iff, false_iff]; omega)))
       · skip
         first
         | (cases hq_9; done) | ((first | replace hq_9 := bnt hq_9 | replace hq_9 := bnf hq_9 | replace hq_9 := bt hq_9 | replace hq_9 := bf hq_9 | replace hq_9 := bt' hq_9 | replace hq_9 := bf' hq_9 | skip); exfalso; omega) | (rw [hbe] at hq_9; cases hq_9; done)
         | ((first | replace hq_9 := bnt hq_9 | replace hq_9 := bnf hq_9 | replace hq_9 := bt hq_9 | replace hq_9 := bf hq_9 | replace hq_9 := bt' hq_9 | replace hq_9 := bf' hq_9 | skip)
            (have hsh : nm.size ≤ 30 ∧ ps.length ≤ 14 := (by assumption); have hs : nm.size ≤ 1000000000 := (by omega); have hp : ps.length ≤ 1000000000 := (by omega))
            refine aw_skip ?_
            refine then_n ?_
            refine aw_seq ?_
            refine aw_draw 13 (by kernel_rfl) (by kernel_rfl) (by kernel_rfl) ?_
            refine ds_ro' (ro_eq (ro_ld_ptr k16_ty24 rfl mo0_3 s3_8 (by first | exact Nat.le_of_ble_eq_true rfl | omega | (simp only [lnS] <;> omega) | (simp <;> omega))) (by first | (simp only [packA_t, packA_f, iE, bE, setAt, cellsA, Value.cells, map_vc, map_vn, Nat.reduceAdd, qS] <;> rfl) | rfl)) trivial rfl ?_
            refine ds_ro' (ro_call (evL_cons up_h evL_nil) rfl (rCopy_ok nm ps hp) k16_hcf18) trivial rfl ?_
            refine ds_ro' (ro_eq (ro_ld_ptr k16_ty26 rfl mo1_3 (u2 rfl s4_8) (by first | exact Nat.le_of_ble_eq_true rfl | omega | (simp only [lnS] <;> omega) | (simp <;> omega))) (by first | (simp only [packA_t, packA_f, iE, bE, setAt, cellsA, Value.cells, map_vc, map_vn, Nat.reduceAdd, qS] <;> rfl) | rfl)) trivial rfl ?_
            refine ds_ro' (ro_fld_ptr k16_fl44_0 rfl (up_m rfl (u2 rfl s5_8))) trivial rfl ?_
            refine ds_ro' (ro_eq (ro_ld_ptr k16_ty42 rfl mo2_3 up_h (by first | exact Nat.le_of_ble_eq_true rfl | omega | (simp only [lnS] <;> omega) | (simp <;> omega))) (by first | (simp only [packA_t, packA_f, iE, bE, setAt, cellsA, Value.cells, map_vc, map_vn, Nat.reduceAdd, qS] <;> rfl) | rfl)) trivial rfl ?_
            refine ds_ro' (ro_fld_ptr k16_fl44_1 rfl (up_m rfl (u4 rfl s5_8))) trivial rfl ?_
            refine ds_ro' (ro_eq (ro_ld_ptr k16_ty3 rfl mo2_3 up_h (by first | exact Nat.le_of_ble_eq_true rfl | omega | (simp only [lnS] <;> omega) | (simp <;> omega))) (by first | (simp only [packA_t, packA_f, iE, bE, setAt, cellsA, Value.cells, map_vc, map_vn, Nat.reduceAdd, qS] <;> rfl) | rfl)) trivial rfl ?_
            refine ds_ro' (ro_call (evL_cons (up_m rfl (u4 rfl up_h)) (evL_cons (u4 rfl up_h) (evL_cons (u2 rfl up_h) (evL_cons up_h evL_nil)))) rfl (reaches2_ok nm ps hs hp b d v post sq stop) k16_hcf23) trivial rfl ?_
            refine ds_ro' (ro_move up_h) trivial rfl ?_
            refine ds_ro' (ro_extract up_h rfl) trivial rfl ?_
            refine ds_ro' (ro_extract (up_m rfl up_h) rfl) trivial rfl ?_
            refine ds_ro' (ro_assign (up_m rfl up_h)) trivial rfl ?_
            refine ds_ro' (ro_assign (up_m rfl up_h)) trivial rfl ?_
            refine ds_nil ?_
            refine al_end (fun e_11 he_11 => ?_)
            have s3_11 := ef 3 he_11 (up_m rfl (u4 rfl (u8 rfl s3_8)))
            have s4_11 := ef 4 he_11 (up_m rfl (u4 rfl (u8 rfl s4_8)))
            have s5_11 := ef 5 he_11 (up_m rfl (u4 rfl (u8 rfl s5_8)))
            have s7_11 := ef 7 he_11 (up_m rfl up_h)
            have s8_11 := ef 8 he_11 up_h
            clear he_11 s18_8 s3_8 s4_8 s5_8
            refine then_n ?_
            refine aw_seq ?_
            refine aw_draw 13 (by kernel_rfl) (by kernel_rfl) (by kernel_rfl) ?_
            refine ds_ro' (ro_eq (ro_ld_ptr k16_ty24 rfl mo0_3 s3_11 (by first | exact Nat.le_of_ble_eq_true rfl | omega | (simp only [lnS] <;> omega) | (simp <;> omega))) (by first | (simp only [packA_t, packA_f, iE, bE, setAt, cellsA, Value.cells, map_vc, map_vn, Nat.reduceAdd, qS] <;> rfl) | rfl)) trivial rfl ?_
            refine ds_ro' (ro_call (evL_cons up_h evL_nil) rfl (rCopy_ok nm ps hp) k16_hcf18) trivial rfl ?_
            refine ds_ro' (ro_eq (ro_ld_ptr k16_ty26 rfl mo1_3 (u2 rfl s4_11) (by first | exact Nat.le_of_ble_eq_true rfl | omega | (simp only [lnS] <;> omega) | (simp <;> omega))) (by first | (simp only [packA_t, packA_f, iE, bE, setAt, cellsA, Value.cells, map_vc, map_vn, Nat.reduceAdd, qS] <;> rfl) | rfl)) trivial rfl ?_
            refine ds_ro' (ro_fld_ptr k16_fl44_0 rfl (up_m rfl (u2 rfl s5_11))) trivial rfl ?_
            refine ds_ro' (ro_eq (ro_ld_ptr k16_ty42 rfl mo2_3 up_h (by first | exact Nat.le_of_ble_eq_true rfl | omega | (simp only [lnS] <;> omega) | (simp <;> omega))) (by first | (simp only [packA_t, packA_f, iE, bE, setAt, cellsA, Value.cells, map_vc, map_vn, Nat.reduceAdd, qS] <;> rfl) | rfl)) trivial rfl ?_
            refine ds_ro' (ro_fld_ptr k16_fl44_1 rfl (up_m rfl (u4 rfl s5_11))) trivial rfl ?_
            refine ds_ro' (ro_eq (ro_ld_ptr k16_ty3 rfl mo2_3 up_h (by first | exact Nat.le_of_ble_eq_true rfl | omega | (simp only [lnS] <;> omega) | (simp <;> omega))) (by first | (simp only [packA_t, packA_f, iE, bE, setAt, cellsA, Value.cells, map_vc, map_vn, Nat.reduceAdd, qS] <;> rfl) | rfl)) trivial rfl ?_
            refine ds_ro' (ro_call (evL_cons (up_m rfl (u4 rfl up_h)) (evL_cons (u4 rfl up_h) (evL_cons (u2 rfl up_h) (evL_cons up_h evL_nil)))) rfl (runTo_ok nm ps hs hp b d v post sq stop) k16_hcf24) trivial rfl ?_
            refine ds_ro' (ro_move up_h) trivial rfl ?_
            refine ds_ro' (ro_extract up_h rfl) trivial rfl ?_
            refine ds_ro' (ro_extract (up_m rfl up_h) rfl) trivial rfl ?_
            refine ds_ro' (ro_assign (up_m rfl up_h)) trivial rfl ?_
            refine ds_ro' (ro_assign (up_m rfl up_h)) trivial rfl ?_
            refine ds_nil ?_
            refine al_end (fun e_12 he_12 => ?_)
            have s3_12 := ef 3 he_12 (up_m rfl (u4 rfl (u8 rfl s3_11)))
            have s4_12 := ef 4 he_12 (up_m rfl (u4 rfl (u8 rfl s4_11)))
            have s5_12 := ef 5 he_12 (up_m rfl (u4 rfl (u8 rfl s5_11)))
            have s7_12 := ef 7 he_12 (up_m rfl (u4 rfl (u8 rfl s7_11)))
            have s8_12 := ef 8 he_12 (up_m rfl (u4 rfl (u8 rfl s8_11)))
            have s9_12 := ef 9 he_12 (up_m rfl up_h)
            have s10_12 := ef 10 he_12 up_h
            clear he_12 s3_11 s4_11 s5_11 s7_11 s8_11
            refine then_n ?_
            refine aw_seq ?_
            refine aw_text ?_
            refine al_ro' (ro_eq (ro_ld_ptr k16_ty24 rfl mo0_3 s3_12 (by first | exact Nat.le_of_ble_eq_true rfl | omega | (simp only [lnS] <;> omega) | (simp <;> omega))) (by first | (simp only [packA_t, packA_f, iE, bE, setAt, cellsA, Value.cells, map_vc, map_vn, Nat.reduceAdd, qS] <;> rfl) | rfl)) trivial rfl ?_
            refine al_ro' (ro_eq (ro_ld_ptr k16_ty26 rfl mo1_3 (up_m rfl s4_12) (by first | exact Nat.le_of_ble_eq_true rfl | omega | (simp only [lnS] <;> omega) | (simp <;> omega))) (by first | (simp only [packA_t, packA_f, iE, bE, setAt, cellsA, Value.cells, map_vc, map_vn, Nat.reduceAdd, qS] <;> rfl) | rfl)) trivial rfl ?_
            refine al_ro' (ro_call (evL_cons (up_m rfl up_h) (evL_cons up_h evL_nil)) rfl (rBothErr_ok nm ps hs hp b d v) k16_hcf19) trivial rfl ?_
            refine al_ro' (ro_assign up_h) trivial rfl ?_
            refine al_end (fun e_13 he_13 => ?_)
            have s3_13 := ef 3 he_13 (u4 rfl s3_12)
            have s4_13 := ef 4 he_13 (u4 rfl s4_12)
            have s5_13 := ef 5 he_13 (u4 rfl s5_12)
            have s7_13 := ef 7 he_13 (u4 rfl s7_12)
            have s8_13 := ef 8 he_13 (u4 rfl s8_12)
            have s9_13 := ef 9 he_13 (u4 rfl s9_12)
            have s10_13 := ef 10 he_13 (u4 rfl s10_12)
            have s11_13 := ef 11 he_13 up_h
            clear he_13 s10_12 s3_12 s4_12 s5_12 s7_12 s8_12 s9_12
            refine then_n ?_
            refine aw_seq ?_
            refine aw_cut (fun e mem => (evA e (.tmp 11) = .v (.int .i64 (d1R nm ps b d v post sq))) ∧ (evA e (.tmp 3) = evA e_13 (.tmp 3)) ∧ (evA e (.tmp 4) = evA e_13 (.tmp 4)) ∧ (evA e (.tmp 5) = evA e_13 (.tmp 5)) ∧ (evA e (.tmp 7) = evA e_13 (.tmp 7)) ∧ (evA e (.tmp 8) = evA e_13 (.tmp 8)) ∧ (evA e (.tmp 9) = evA e_13 (.tmp 9)) ∧ (evA e (.tmp 10) = evA e_13 (.tmp 10)) ∧ m_3 = mem) ?_ ?_
            ·
              refine aw_seq ?_
              refine aw_text ?_
              refine al_ro' (ro_move s11_13) trivial rfl ?_
              refine al_ro' (ro_eql up_h ev_c) trivial rfl ?_
              refine al_end (fun e_15 he_15 => ?_)
              have s3_15 := ef 3 he_15 (u2 rfl s3_13)
              have s4_15 := ef 4 he_15 (u2 rfl s4_13)
              have s5_15 := ef 5 he_15 (u2 rfl s5_13)
              have s7_15 := ef 7 he_15 (u2 rfl s7_13)
              have s8_15 := ef 8 he_15 (u2 rfl s8_13)
              have s9_15 := ef 9 he_15 (u2 rfl s9_13)
              have s10_15 := ef 10 he_15 (u2 rfl s10_13)
              have s11_15 := ef 11 he_15 (u2 rfl s11_13)
              have s45_15 := ef 45 he_15 up_h
              clear he_15
              refine then_n ?_
              refine aw_case s45_15 (fun hq_16 => ?_) (fun hq_16 => ?_)
              · skip
                first
                | (cases hq_16; done) | ((first | replace hq_16 := bnt hq_16 | replace hq_16 := bnf hq_16 | replace hq_16 := bt hq_16 | replace hq_16 := bf hq_16 | replace hq_16 := bt' hq_16 | replace hq_16 := bf' hq_16 | skip); exfalso; omega) | (rw [hbe] at hq_16; cases hq_16; done)
                | ((first | replace hq_16 := bnt hq_16 | replace hq_16 := bnf hq_16 | replace hq_16 := bt hq_16 | replace hq_16 := bf hq_16 | replace hq_16 := bt' hq_16 | replace hq_16 := bf' hq_16 | skip)
                   refine aw_text ?_
                   refine al_ro' (ro_eq (ro_ld_ptr k16_ty24 rfl mo0_3 s3_15 (by first | exact Nat.le_of_ble_eq_true rfl | omega | (simp only [lnS] <;> omega) | (simp <;> omega))) (by first | (simp only [packA_t, packA_f, iE, bE, setAt, cellsA, Value.cells, map_vc, map_vn, Nat.reduceAdd, qS] <;> rfl) | rfl)) trivial rfl ?_
                   refine al_ro' (ro_fld_ptr k16_fl44_0 rfl (up_m rfl s5_15)) trivial rfl ?_
                   refine al_ro' (ro_eq (ro_ld_ptr k16_ty42 rfl mo2_3 up_h (by first | exact Nat.le_of_ble_eq_true rfl | omega | (simp only [lnS] <;> omega) | (simp <;> omega))) (by first | (simp only [packA_t, packA_f, iE, bE, setAt, cellsA, Value.cells, map_vc, map_vn, Nat.reduceAdd, qS] <;> rfl) | rfl)) trivial rfl ?_
                   refine al_ro' (ro_call (evL_cons (u2 rfl up_h) (evL_cons up_h evL_nil)) rfl (rStateErr_ok nm ps post sq) k16_hcf25) trivial rfl ?_
                   refine al_ro' (ro_assign up_h) trivial rfl ?_
                   refine al_end (fun e_17 he_17 => ?_)
                   have s3_17 := ef 3 he_17 (up_m rfl (u4 rfl s3_15))
                   have s4_17 := ef 4 he_17 (up_m rfl (u4 rfl s4_15))
                   have s5_17 := ef 5 he_17 (up_m rfl (u4 rfl s5_15))
                   have s7_17 := ef 7 he_17 (up_m rfl (u4 rfl s7_15))
                   have s8_17 := ef 8 he_17 (up_m rfl (u4 rfl s8_15))
                   have s9_17 := ef 9 he_17 (up_m rfl (u4 rfl s9_15))
                   have s10_17 := ef 10 he_17 (up_m rfl (u4 rfl s10_15))
                   have s11_17 := ef 11 he_17 up_h
                   clear he_17
                   refine then_n ⟨(s11_17).trans (by (refine avi ?_; unfold d1R; first | rw [if_pos (by assumption)] | rw [if_neg (by assumption)])), (s3_17).trans (s3_13).symm, (s4_17).trans (s4_13).symm, (s5_17).trans (s5_13).symm, (s7_17).trans (s7_13).symm, (s8_17).trans (s8_13).symm, (s9_17).trans (s9_13).symm, (s10_17).trans (s10_13).symm, rfl⟩)
              · skip
                first
                | (cases hq_16; done) | ((first | replace hq_16 := bnt hq_16 | replace hq_16 := bnf hq_16 | replace hq_16 := bt hq_16 | replace hq_16 := bf hq_16 | replace hq_16 := bt' hq_16 | replace hq_16 := bf' hq_16 | skip); exfalso; omega) | (rw [hbe] at hq_16; cases hq_16; done)
                | ((first | replace hq_16 := bnt hq_16 | replace hq_16 := bnf hq_16 | replace hq_16 := bt hq_16 | replace hq_16 := bf hq_16 | replace hq_16 := bt' hq_16 | replace hq_16 := bf' hq_16 | skip)
                   refine aw_skip ?_
                   refine then_n ⟨(s11_15).trans (by (refine avi ?_; unfold d1R; first | rw [if_pos (by assumption)] | rw [if_neg (by assumption)])), (s3_15).trans (s3_13).symm, (s4_15).trans (s4_13).symm, (s5_15).trans (s5_13).symm, (s7_15).trans (s7_13).symm, (s8_15).trans (s8_13).symm, (s9_15).trans (s9_13).symm, (s10_15).trans (s10_13).symm, rfl⟩)
            · rintro e_14 _ ⟨s11_14, k3_14, k4_14, k5_14, k7_14, k8_14, k9_14, k10_14, rfl⟩
              have s3_14 := k3_14.trans s3_13
              have s4_14 := k4_14.trans s4_13
              have s5_14 := k5_14.trans s5_13
              have s7_14 := k7_14.trans s7_13
              have s8_14 := k8_14.trans s8_13
              have s9_14 := k9_14.trans s9_13
              have s10_14 := k10_14.trans s10_13
              refine aw_seq ?_
              refine aw_cut (fun e mem => (evA e (.tmp 11) = .v (.int .i64 (d2R nm ps b d v post sq stop))) ∧ (evA e (.tmp 3) = evA e_14 (.tmp 3)) ∧ (evA e (.tmp 4) = evA e_14 (.tmp 4)) ∧ (evA e (.tmp 5) = evA e_14 (.tmp 5)) ∧ (evA e (.tmp 7) = evA e_14 (.tmp 7)) ∧ (evA e (.tmp 8) = evA e_14 (.tmp 8)) ∧ (evA e (.tmp 9) = evA e_14 (.tmp 9)) ∧ (evA e (.tmp 10) = evA e_14 (.tmp 10)) ∧ m_3 = mem) ?_ ?_
              ·
                refine aw_seq ?_
                refine aw_text ?_
                refine al_ro' (ro_move s11_14) trivial rfl ?_
                refine al_ro' (ro_eql up_h ev_c) trivial rfl ?_
                refine al_end (fun e_19 he_19 => ?_)
                have s3_19 := ef 3 he_19 (u2 rfl s3_14)
                have s4_19 := ef 4 he_19 (u2 rfl s4_14)
                have s5_19 := ef 5 he_19 (u2 rfl s5_14)
                have s7_19 := ef 7 he_19 (u2 rfl s7_14)
                have s8_19 := ef 8 he_19 (u2 rfl s8_14)
                have s9_19 := ef 9 he_19 (u2 rfl s9_14)
                have s10_19 := ef 10 he_19 (u2 rfl s10_14)
                have s11_19 := ef 11 he_19 (u2 rfl s11_14)
                have s51_19 := ef 51 he_19 up_h
                clear he_19
                refine then_n ?_
                refine aw_case s51_19 (fun hq_20 => ?_) (fun hq_20 => ?_)
                · skip
                  first
                  | (cases hq_20; done) | ((first | replace hq_20 := bnt hq_20 | replace hq_20 := bnf hq_20 | replace hq_20 := bt hq_20 | replace hq_20 := bf hq_20 | replace hq_20 := bt' hq_20 | replace hq_20 := bf' hq_20 | skip); exfalso; omega) | (rw [hbe] at hq_20; cases hq_20; done)
                  | ((first | replace hq_20 := bnt hq_20 | replace hq_20 := bnf hq_20 | replace hq_20 := bt hq_20 | replace hq_20 := bf hq_20 | replace hq_20 := bt' hq_20 | replace hq_20 := bf' hq_20 | skip)
                     refine aw_text ?_
                     refine al_ro' (ro_eq (ro_ld_ptr k16_ty24 rfl mo0_3 s3_19 (by first | exact Nat.le_of_ble_eq_true rfl | omega | (simp only [lnS] <;> omega) | (simp <;> omega))) (by first | (simp only [packA_t, packA_f, iE, bE, setAt, cellsA, Value.cells, map_vc, map_vn, Nat.reduceAdd, qS] <;> rfl) | rfl)) trivial rfl ?_
                     refine al_ro' (ro_fld_ptr k16_fl44_1 rfl (up_m rfl s5_19)) trivial rfl ?_
                     refine al_ro' (ro_eq (ro_ld_ptr k16_ty3 rfl mo2_3 up_h (by first | exact Nat.le_of_ble_eq_true rfl | omega | (simp only [lnS] <;> omega) | (simp <;> omega))) (by first | (simp only [packA_t, packA_f, iE, bE, setAt, cellsA, Value.cells, map_vc, map_vn, Nat.reduceAdd, qS] <;> rfl) | rfl)) trivial rfl ?_
                     refine al_ro' (ro_call (evL_cons (u2 rfl up_h) (evL_cons up_h evL_nil)) rfl (rStopErr_ok nm ps hp stop) k16_hcf26) trivial rfl ?_
                     refine al_ro' (ro_assign up_h) trivial rfl ?_
                     refine al_end (fun e_21 he_21 => ?_)
                     have s3_21 := ef 3 he_21 (up_m rfl (u4 rfl s3_19))
                     have s4_21 := ef 4 he_21 (up_m rfl (u4 rfl s4_19))
                     have s5_21 := ef 5 he_21 (up_m rfl (u4 rfl s5_19))
                     have s7_21 := ef 7 he_21 (up_m rfl (u4 rfl s7_19))
                     have s8_21 := ef 8 he_21 (up_m rfl (u4 rfl s8_19))
                     have s9_21 := ef 9 he_21 (up_m rfl (u4 rfl s9_19))
                     have s10_21 := ef 10 he_21 (up_m rfl (u4 rfl s10_19))
                     have s11_21 := ef 11 he_21 up_h
                     clear he_21
                     refine then_n ⟨(s11_21).trans (by (refine avi ?_; unfold d2R; first | rw [if_pos (by assumption)] | rw [if_neg (by assumption)])), (s3_21).trans (s3_14).symm, (s4_21).trans (s4_14).symm, (s5_21).trans (s5_14).symm, (s7_21).trans (s7_14).symm, (s8_21).trans (s8_14).symm, (s9_21).trans (s9_14).symm, (s10_21).trans (s10_14).symm, rfl⟩)
                · skip
                  first
                  | (cases hq_20; done) | ((first | replace hq_20 := bnt hq_20 | replace hq_20 := bnf hq_20 | replace hq_20 := bt hq_20 | replace hq_20 := bf hq_20 | replace hq_20 := bt' hq_20 | replace hq_20 := bf' hq_20 | skip); exfalso; omega) | (rw [hbe] at hq_20; cases hq_20; done)
                  | ((first | replace hq_20 := bnt hq_20 | replace hq_20 := bnf hq_20 | replace hq_20 := bt hq_20 | replace hq_20 := bf hq_20 | replace hq_20 := bt' hq_20 | replace hq_20 := bf' hq_20 | skip)
                     refine aw_skip ?_
                     refine then_n ⟨(s11_19).trans (by (refine avi ?_; unfold d2R; first | rw [if_pos (by assumption)] | rw [if_neg (by assumption)])), (s3_19).trans (s3_14).symm, (s4_19).trans (s4_14).symm, (s5_19).trans (s5_14).symm, (s7_19).trans (s7_14).symm, (s8_19).trans (s8_14).symm, (s9_19).trans (s9_14).symm, (s10_19).trans (s10_14).symm, rfl⟩)
              · rintro e_18 _ ⟨s11_18, k3_18, k4_18, k5_18, k7_18, k8_18, k9_18, k10_18, rfl⟩
                have s3_18 := k3_18.trans s3_14
                have s4_18 := k4_18.trans s4_14
                have s5_18 := k5_18.trans s5_14
                have s7_18 := k7_18.trans s7_14
                have s8_18 := k8_18.trans s8_14
                have s9_18 := k9_18.trans s9_14
                have s10_18 := k10_18.trans s10_14
                refine aw_seq ?_
                refine aw_cut (fun e mem => (evA e (.tmp 11) = .v (.int .i64 (runE nm ps b d v post sq stop))) ∧ (evA e (.tmp 3) = evA e_18 (.tmp 3)) ∧ (evA e (.tmp 4) = evA e_18 (.tmp 4)) ∧ (evA e (.tmp 5) = evA e_18 (.tmp 5)) ∧ (evA e (.tmp 7) = evA e_18 (.tmp 7)) ∧ (evA e (.tmp 8) = evA e_18 (.tmp 8)) ∧ (evA e (.tmp 9) = evA e_18 (.tmp 9)) ∧ (evA e (.tmp 10) = evA e_18 (.tmp 10)) ∧ m_3 = mem) ?_ ?_
                ·
                  refine aw_seq ?_
                  refine aw_cut (fun e mem => (evA e (.tmp 65) = .v (.bool (decide (d2R nm ps b d v post sq stop = 0 ∧ stop < post)))) ∧ (evA e (.tmp 3) = evA e_18 (.tmp 3)) ∧ (evA e (.tmp 4) = evA e_18 (.tmp 4)) ∧ (evA e (.tmp 5) = evA e_18 (.tmp 5)) ∧ (evA e (.tmp 7) = evA e_18 (.tmp 7)) ∧ (evA e (.tmp 8) = evA e_18 (.tmp 8)) ∧ (evA e (.tmp 9) = evA e_18 (.tmp 9)) ∧ (evA e (.tmp 10) = evA e_18 (.tmp 10)) ∧ (evA e (.tmp 11) = evA e_18 (.tmp 11)) ∧ m_3 = mem) ?_ ?_
                  ·
                    refine aw_text ?_
                    refine al_ro' (ro_move s11_18) trivial rfl ?_
                    refine al_ro' (ro_eql up_h ev_c) trivial rfl ?_
                    refine al_ro' (ro_move up_h) trivial rfl ?_
                    refine al_case up_h (fun hb_24 hq_24 => ?_) (fun hb_24 hq_24 => ?_)
                    · skip
                      first
                      | (cases hq_24; done) | ((first | replace hq_24 := bnt hq_24 | replace hq_24 := bnf hq_24 | replace hq_24 := bt hq_24 | replace hq_24 := bf hq_24 | replace hq_24 := bt' hq_24 | replace hq_24 := bf' hq_24 | skip); exfalso; omega) | (rw [hbe] at hq_24; cases hq_24; done)
                      | ((first | replace hq_24 := bnt hq_24 | replace hq_24 := bnf hq_24 | replace hq_24 := bt hq_24 | replace hq_24 := bf hq_24 | replace hq_24 := bt' hq_24 | replace hq_24 := bf' hq_24 | skip)
                         refine al_ro' (ro_fld_ptr k16_fl44_0 rfl (up_m rfl (u2 rfl s5_18))) ⟨_, rfl, hb_24⟩ rfl ?_
                         refine al_ro' (ro_fld_ptr k16_fl42_0 rfl up_h) ⟨_, rfl, (up_m rfl hb_24)⟩ rfl ?_
                         refine al_ro' (ro_eq (ro_ld_ptr k16_ty3 rfl mo2_3 up_h (by first | exact Nat.le_of_ble_eq_true rfl | omega | (simp only [lnS] <;> omega) | (simp <;> omega))) (by first | (simp only [packA_t, packA_f, iE, bE, setAt, cellsA, Value.cells, map_vc, map_vn, Nat.reduceAdd, qS] <;> rfl) | rfl)) ⟨_, rfl, (u2 rfl hb_24)⟩ rfl ?_
                         refine al_ro' (ro_fld_ptr k16_fl44_1 rfl (u2 rfl (u4 rfl s5_18))) ⟨_, rfl, (up_m rfl (u2 rfl hb_24))⟩ rfl ?_
                         refine al_ro' (ro_eq (ro_ld_ptr k16_ty3 rfl mo2_3 up_h (by first | exact Nat.le_of_ble_eq_true rfl | omega | (simp only [lnS] <;> omega) | (simp <;> omega))) (by first | (simp only [packA_t, packA_f, iE, bE, setAt, cellsA, Value.cells, map_vc, map_vn, Nat.reduceAdd, qS] <;> rfl) | rfl)) ⟨_, rfl, (u4 rfl hb_24)⟩ rfl ?_
                         refine al_ro' (ro_gtr (u2 rfl up_h) up_h) ⟨_, rfl, (up_m rfl (u4 rfl hb_24))⟩ rfl ?_
                         refine al_ro' (ro_pickT (u2 rfl (u4 rfl hb_24)) up_h) trivial rfl ?_
                         refine al_end (fun e_25 he_25 => ?_)
                         have s3_25 := ef 3 he_25 (u2 rfl (u8 rfl s3_18))
                         have s4_25 := ef 4 he_25 (u2 rfl (u8 rfl s4_18))
                         have s5_25 := ef 5 he_25 (u2 rfl (u8 rfl s5_18))
                         have s7_25 := ef 7 he_25 (u2 rfl (u8 rfl s7_18))
                         have s8_25 := ef 8 he_25 (u2 rfl (u8 rfl s8_18))
                         have s9_25 := ef 9 he_25 (u2 rfl (u8 rfl s9_18))
                         have s10_25 := ef 10 he_25 (u2 rfl (u8 rfl s10_18))
                         have s11_25 := ef 11 he_25 (u2 rfl (u8 rfl s11_18))
                         have s65_25 := ef 65 he_25 up_h
                         clear he_25
                         refine then_n ⟨(s65_25).trans (by (refine avb ?_; simp only [decide_eq_true_eq, Bool.false_eq_true, true_iff, false_iff]; omega)), (s3_25).trans (s3_18).symm, (s4_25).trans (s4_18).symm, (s5_25).trans (s5_18).symm, (s7_25).trans (s7_18).symm, (s8_25).trans (s8_18).symm, (s9_25).trans (s9_18).symm, (s10_25).trans (s10_18).symm, (s11_25).trans (s11_18).symm, rfl⟩)
                    · skip
                      first
                      | (cases hq_24; done) | ((first | replace hq_24 := bnt hq_24 | replace hq_24 := bnf hq_24 | replace hq_24 := bt hq_24 | replace hq_24 := bf hq_24 | replace hq_24 := bt' hq_24 | replace hq_24 := bf' hq_24 | skip); exfalso; omega) | (rw [hbe] at hq_24; cases hq_24; done)
                      | ((first | replace hq_24 := bnt hq_24 | replace hq_24 := bnf hq_24 | replace hq_24 := bt hq_24 | replace hq_24 := bf hq_24 | replace hq_24 := bt' hq_24 | replace hq_24 := bf' hq_24 | skip)
                         refine al_skip' ⟨_, rfl, .inl hb_24⟩ rfl ?_
                         refine al_skip' ⟨_, rfl, .inl (up_m rfl hb_24)⟩ rfl ?_
                         refine al_skip' ⟨_, rfl, .inl (u2 rfl hb_24)⟩ rfl ?_
                         refine al_skip' ⟨_, rfl, .inl (up_m rfl (u2 rfl hb_24))⟩ rfl ?_
                         refine al_skip' ⟨_, rfl, .inl (u4 rfl hb_24)⟩ rfl ?_
                         refine al_skip' ⟨_, rfl, .inl (up_m rfl (u4 rfl hb_24))⟩ rfl ?_
                         refine al_ro' (ro_pickF (u2 rfl (u4 rfl hb_24)) ev_c) trivial rfl ?_
                         refine al_end (fun e_26 he_26 => ?_)
                         have s3_26 := ef 3 he_26 (u2 rfl (u8 rfl s3_18))
                         have s4_26 := ef 4 he_26 (u2 rfl (u8 rfl s4_18))
                         have s5_26 := ef 5 he_26 (u2 rfl (u8 rfl s5_18))
                         have s7_26 := ef 7 he_26 (u2 rfl (u8 rfl s7_18))
                         have s8_26 := ef 8 he_26 (u2 rfl (u8 rfl s8_18))
                         have s9_26 := ef 9 he_26 (u2 rfl (u8 rfl s9_18))
                         have s10_26 := ef 10 he_26 (u2 rfl (u8 rfl s10_18))
                         have s11_26 := ef 11 he_26 (u2 rfl (u8 rfl s11_18))
                         have s65_26 := ef 65 he_26 up_h
                         clear he_26
                         refine then_n ⟨(s65_26).trans (by (refine avb ?_; simp only [decide_eq_true_eq, Bool.false_eq_true, true_iff, false_iff]; omega)), (s3_26).trans (s3_18).symm, (s4_26).trans (s4_18).symm, (s5_26).trans (s5_18).symm, (s7_26).trans (s7_18).symm, (s8_26).trans (s8_18).symm, (s9_26).trans (s9_18).symm, (s10_26).trans (s10_18).symm, (s11_26).trans (s11_18).symm, rfl⟩)
                  · rintro e_23 _ ⟨s65_23, k3_23, k4_23, k5_23, k7_23, k8_23, k9_23, k10_23, k11_23, rfl⟩
                    have s3_23 := k3_23.trans s3_18
                    have s4_23 := k4_23.trans s4_18
                    have s5_23 := k5_23.trans s5_18
                    have s7_23 := k7_23.trans s7_18
                    have s8_23 := k8_23.trans s8_18
                    have s9_23 := k9_23.trans s9_18
                    have s10_23 := k10_23.trans s10_18
                    have s11_23 := k11_23.trans s11_18
                    refine aw_case s65_23 (fun hq_27 => ?_) (fun hq_27 => ?_)
                    · skip
                      first
                      | (cases hq_27; done) | ((first | replace hq_27 := bnt hq_27 | replace hq_27 := bnf hq_27 | replace hq_27 := bt hq_27 | replace hq_27 := bf hq_27 | replace hq_27 := bt' hq_27 | replace hq_27 := bf' hq_27 | skip); exfalso; omega) | (rw [hbe] at hq_27; cases hq_27; done)
                      | ((first | replace hq_27 := bnt hq_27 | replace hq_27 := bnf hq_27 | replace hq_27 := bt hq_27 | replace hq_27 := bf hq_27 | replace hq_27 := bt' hq_27 | replace hq_27 := bf' hq_27 | skip)
                         refine aw_text ?_
                         refine al_ro' (ro_assign ev_c) trivial rfl ?_
                         refine al_end (fun e_28 he_28 => ?_)
                         have s3_28 := ef 3 he_28 (up_m rfl s3_23)
                         have s4_28 := ef 4 he_28 (up_m rfl s4_23)
                         have s5_28 := ef 5 he_28 (up_m rfl s5_23)
                         have s7_28 := ef 7 he_28 (up_m rfl s7_23)
                         have s8_28 := ef 8 he_28 (up_m rfl s8_23)
                         have s9_28 := ef 9 he_28 (up_m rfl s9_23)
                         have s10_28 := ef 10 he_28 (up_m rfl s10_23)
                         have s11_28 := ef 11 he_28 up_h
                         clear he_28
                         refine then_n ⟨(s11_28).trans (by (refine avi ?_; rw [runE_d]; first | rw [if_pos (by assumption)] | rw [if_neg (by assumption)])), (s3_28).trans (s3_18).symm, (s4_28).trans (s4_18).symm, (s5_28).trans (s5_18).symm, (s7_28).trans (s7_18).symm, (s8_28).trans (s8_18).symm, (s9_28).trans (s9_18).symm, (s10_28).trans (s10_18).symm, rfl⟩)
                    · skip
                      first
                      | (cases hq_27; done) | ((first | replace hq_27 := bnt hq_27 | replace hq_27 := bnf hq_27 | replace hq_27 := bt hq_27 | replace hq_27 := bf hq_27 | replace hq_27 := bt' hq_27 | replace hq_27 := bf' hq_27 | skip); exfalso; omega) | (rw [hbe] at hq_27; cases hq_27; done)
                      | ((first | replace hq_27 := bnt hq_27 | replace hq_27 := bnf hq_27 | replace hq_27 := bt hq_27 | replace hq_27 := bf hq_27 | replace hq_27 := bt' hq_27 | replace hq_27 := bf' hq_27 | skip)
                         refine aw_skip ?_
                         refine then_n ⟨(s11_23).trans (by (refine avi ?_; rw [runE_d]; first | rw [if_pos (by assumption)] | rw [if_neg (by assumption)])), (s3_23).trans (s3_18).symm, (s4_23).trans (s4_18).symm, (s5_23).trans (s5_18).symm, (s7_23).trans (s7_18).symm, (s8_23).trans (s8_18).symm, (s9_23).trans (s9_18).symm, (s10_23).trans (s10_18).symm, rfl⟩)
                · rintro e_22 _ ⟨s11_22, k3_22, k4_22, k5_22, k7_22, k8_22, k9_22, k10_22, rfl⟩
                  have s3_22 := k3_22.trans s3_18
                  have s4_22 := k4_22.trans s4_18
                  have s5_22 := k5_22.trans s5_18
                  have s7_22 := k7_22.trans s7_18
                  have s8_22 := k8_22.trans s8_18
                  have s9_22 := k9_22.trans s9_18
                  have s10_22 := k10_22.trans s10_18
                  refine aw_seq ?_
                  refine aw_seq ?_
                  refine aw_text ?_
                  refine al_ro' (ro_move s11_22) trivial rfl ?_
                  refine al_ro' (ro_neq up_h ev_c) trivial rfl ?_
                  refine al_end (fun e_29 he_29 => ?_)
                  have s3_29 := ef 3 he_29 (u2 rfl s3_22)
                  have s4_29 := ef 4 he_29 (u2 rfl s4_22)
                  have s5_29 := ef 5 he_29 (u2 rfl s5_22)
                  have s7_29 := ef 7 he_29 (u2 rfl s7_22)
                  have s8_29 := ef 8 he_29 (u2 rfl s8_22)
                  have s9_29 := ef 9 he_29 (u2 rfl s9_22)
                  have s10_29 := ef 10 he_29 (u2 rfl s10_22)
                  have s11_29 := ef 11 he_29 (u2 rfl s11_22)
                  have s67_29 := ef 67 he_29 up_h
                  clear he_29 s10_22 s11_22 s3_22 s4_22 s5_22 s7_22 s8_22 s9_22
                  refine then_n ?_
                  refine aw_case s67_29 (fun hq_30 => ?_) (fun hq_30 => ?_)
                  · skip
                    first
                    | (cases hq_30; done) | ((first | replace hq_30 := bnt hq_30 | replace hq_30 := bnf hq_30 | replace hq_30 := bt hq_30 | replace hq_30 := bf hq_30 | replace hq_30 := bt' hq_30 | replace hq_30 := bf' hq_30 | skip); exfalso; omega) | (rw [hbe] at hq_30; cases hq_30; done)
                    | ((first | replace hq_30 := bnt hq_30 | replace hq_30 := bnf hq_30 | replace hq_30 := bt hq_30 | replace hq_30 := bf hq_30 | replace hq_30 := bt' hq_30 | replace hq_30 := bf' hq_30 | skip)
                       (have hq : ¬ runE nm ps b d v post sq stop = 0 := (by assumption); have hz1 : (if runE nm ps b d v post sq stop = 0 then (runW ps b d stop post sq).1 else []).length = 0 := (by rw [if_neg hq]; rfl); have hz3 : (if runE nm ps b d v post sq stop = 0 then (runW ps b d stop post sq).2 else runE nm ps b d v post sq stop) = runE nm ps b d v post sq stop := (by rw [if_neg hq]); have hbe : true = true := rfl)
                       refine aw_seq ?_
                       refine aw_text ?_
                       refine al_ro' (ro_move s8_29) trivial rfl ?_
                       refine al_ro' (ro_move (up_m rfl s11_29)) trivial rfl ?_
                       refine al_ro' (ro_eql (up_m rfl up_h) up_h) trivial rfl ?_
                       refine al_ro' (ro_move up_h) trivial rfl ?_
                       refine al_case up_h (fun hb_31 hq_31 => ?_) (fun hb_31 hq_31 => ?_)
                       · skip
                         first
                         | (cases hq_31; done) | ((first | replace hq_31 := bnt hq_31 | replace hq_31 := bnf hq_31 | replace hq_31 := bt hq_31 | replace hq_31 := bf hq_31 | replace hq_31 := bt' hq_31 | replace hq_31 := bf' hq_31 | skip); exfalso; omega) | (rw [hbe] at hq_31; cases hq_31; done)
                         | ((first | replace hq_31 := bnt hq_31 | replace hq_31 := bnf hq_31 | replace hq_31 := bt hq_31 | replace hq_31 := bf hq_31 | replace hq_31 := bt' hq_31 | replace hq_31 := bf' hq_31 | skip)
                            refine al_ro' (ro_move (u4 rfl s10_29)) ⟨_, rfl, hb_31⟩ rfl ?_
                            refine al_ro' (ro_move (up_m rfl (u4 rfl s11_29))) ⟨_, rfl, (up_m rfl hb_31)⟩ rfl ?_
                            refine al_ro' (ro_eql (up_m rfl up_h) up_h) ⟨_, rfl, (u2 rfl hb_31)⟩ rfl ?_
                            refine al_ro' (ro_pickT (up_m rfl (u2 rfl hb_31)) up_h) trivial rfl ?_
                            refine al_ro' (ro_move up_h) trivial rfl ?_
                            refine al_case up_h (fun hb_32 hq_32 => ?_) (fun hb_32 hq_32 => ?_)
                            · skip
                              first
                              | (cases hq_32; done) | ((first | replace hq_32 := bnt hq_32 | replace hq_32 := bnf hq_32 | replace hq_32 := bt hq_32 | replace hq_32 := bf hq_32 | replace hq_32 := bt' hq_32 | replace hq_32 := bf' hq_32 | skip); exfalso; omega) | (rw [hbe] at hq_32; cases hq_32; done)
                              | ((first | replace hq_32 := bnt hq_32 | replace hq_32 := bnf hq_32 | replace hq_32 := bt hq_32 | replace hq_32 := bf hq_32 | replace hq_32 := bt' hq_32 | replace hq_32 := bf' hq_32 | skip)
                                 refine al_ro' (ro_move (up_m rfl (u8 rfl s7_29))) ⟨_, rfl, hb_32⟩ rfl ?_
                                 refine al_ro' (ro_not up_h) ⟨_, rfl, (up_m rfl hb_32)⟩ rfl ?_
                                 refine al_ro' (ro_pickT (u2 rfl hb_32) up_h) trivial rfl ?_
                                 refine al_ro' (ro_move up_h) trivial rfl ?_
                                 refine al_case up_h (fun hb_33 hq_33 => ?_) (fun hb_33 hq_33 => ?_)
                                 · skip
                                   first
                                   | (cases hq_33; done) | ((first | replace hq_33 := bnt hq_33 | replace hq_33 := bnf hq_33 | replace hq_33 := bt hq_33 | replace hq_33 := bf hq_33 | replace hq_33 := bt' hq_33 | replace hq_33 := bf' hq_33 | skip); exfalso; omega) | (rw [hbe] at hq_33; cases hq_33; done)
                                   | ((first | replace hq_33 := bnt hq_33 | replace hq_33 := bnf hq_33 | replace hq_33 := bt hq_33 | replace hq_33 := bf hq_33 | replace hq_33 := bt' hq_33 | replace hq_33 := bf' hq_33 | skip)
                                      refine al_ro' (ro_move (up_m rfl (u4 rfl (u8 rfl s9_29)))) ⟨_, rfl, hb_33⟩ rfl ?_
                                      refine al_ro' (ro_eq (ro_len_row up_h rfl k16_sl30.1) (by first | (simp only [lnS] <;> rfl) | rfl)) ⟨_, rfl, (up_m rfl hb_33)⟩ rfl ?_
                                      refine al_ro' (ro_eql up_h ev_c) ⟨_, rfl, (u2 rfl hb_33)⟩ rfl ?_
                                      refine al_ro' (ro_pickT (up_m rfl (u2 rfl hb_33)) up_h) trivial rfl ?_
                                      refine al_ro' (ro_assign up_h) trivial rfl ?_
                                      refine al_end (fun e_34 he_34 => ?_)
                                      have s6_34 := ef 6 he_34 up_h
                                      clear he_34 hb_31 hb_32 hb_33 s10_29 s11_29 s3_29 s4_29 s5_29 s67_29 s7_29 s8_29 s9_29
                                      refine then_n ?_
                                      refine aw_ret ?_
                                      refine then_r ?_
                                      refine ret1 (.inr rfl) (by kernel_rfl) (resV_tmp s6_34) (.ro _ rfl) ?_
                                      clear s6_34 mo2_3 mo1_3 mo0_3 ml_3
                                      (first | rfl | (simp [hq]; done) | (rw [if_pos hq]; simp; done) | (simp; done) | (refine avb ?_; simp only [decide_eq_true_eq, Bool.false_eq_true, true_iff, false_iff]; omega)))
                                 · skip
                                   first
                                   | (cases hq_33; done) | ((first | replace hq_33 := bnt hq_33 | replace hq_33 := bnf hq_33 | replace hq_33 := bt hq_33 | replace hq_33 := bf hq_33 | replace hq_33 := bt' hq_33 | replace hq_33 := bf' hq_33 | skip); exfalso; omega) | (rw [hbe] at hq_33; cases hq_33; done)
                                   | ((first | replace hq_33 := bnt hq_33 | replace hq_33 := bnf hq_33 | replace hq_33 := bt hq_33 | replace hq_33 := bf hq_33 | replace hq_33 := bt' hq_33 | replace hq_33 := bf' hq_33 | skip)
                                      refine al_skip' ⟨_, rfl, .inl hb_33⟩ rfl ?_
                                      refine al_skip' ⟨_, rfl, .inl (up_m rfl hb_33)⟩ rfl ?_
                                      refine al_skip' ⟨_, rfl, .inl (u2 rfl hb_33)⟩ rfl ?_
                                      refine al_ro' (ro_pickF (up_m rfl (u2 rfl hb_33)) ev_c) trivial rfl ?_
                                      refine al_ro' (ro_assign up_h) trivial rfl ?_
                                      refine al_end (fun e_35 he_35 => ?_)
                                      have s6_35 := ef 6 he_35 up_h
                                      clear he_35 hb_31 hb_32 hb_33 s10_29 s11_29 s3_29 s4_29 s5_29 s67_29 s7_29 s8_29 s9_29
                                      refine then_n ?_
                                      refine aw_ret ?_
                                      refine then_r ?_
                                      refine ret1 (.inr rfl) (by kernel_rfl) (resV_tmp s6_35) (.ro _ rfl) ?_
                                      clear s6_35 mo2_3 mo1_3 mo0_3 ml_3
                                      (first | rfl | (simp [hq]; done) | (rw [if_pos hq]; simp; done) | (simp; done) | (refine avb ?_; simp only [decide_eq_true_eq, Bool.false_eq_true, true_iff, false_iff]; omega))))
                            · skip
                              first
                              | (cases hq_32; done) | ((first | replace hq_32 := bnt hq_32 | replace hq_32 := bnf hq_32 | replace hq_32 := bt hq_32 | replace hq_32 := bf hq_32 | replace hq_32 := bt' hq_32 | replace hq_32 := bf' hq_32 | skip); exfalso; omega) | (rw [hbe] at hq_32; cases hq_32; done)
                              | ((first | replace hq_32 := bnt hq_32 | replace hq_32 := bnf hq_32 | replace hq_32 := bt hq_32 | replace hq_32 := bf hq_32 | replace hq_32 := bt' hq_32 | replace hq_32 := bf' hq_32 | skip)
                                 refine al_skip' ⟨_, rfl, .inl hb_32⟩ rfl ?_
                                 refine al_skip' ⟨_, rfl, .inl (up_m rfl hb_32)⟩ rfl ?_
                                 refine al_ro' (ro_pickF (u2 rfl hb_32) ev_c) trivial rfl ?_
                                 refine al_ro' (ro_move up_h) trivial rfl ?_
                                 refine al_skip' ⟨_, rfl, .inl up_h⟩ rfl ?_
                                 refine al_skip' ⟨_, rfl, .inl (up_m rfl up_h)⟩ rfl ?_
                                 refine al_skip' ⟨_, rfl, .inl (u2 rfl up_h)⟩ rfl ?_
                                 refine al_ro' (ro_pickF (up_m rfl (u2 rfl up_h)) ev_c) trivial rfl ?_
                                 refine al_ro' (ro_assign up_h) trivial rfl ?_
                                 refine al_end (fun e_36 he_36 => ?_)
                                 have s6_36 := ef 6 he_36 up_h
                                 clear he_36 hb_31 hb_32 s10_29 s11_29 s3_29 s4_29 s5_29 s67_29 s7_29 s8_29 s9_29
                                 refine then_n ?_
                                 refine aw_ret ?_
                                 refine then_r ?_
                                 refine ret1 (.inr rfl) (by kernel_rfl) (resV_tmp s6_36) (.ro _ rfl) ?_
                                 clear s6_36 mo2_3 mo1_3 mo0_3 ml_3
                                 (first | rfl | (simp [hq]; done) | (rw [if_pos hq]; simp; done) | (simp; done) | (refine avb ?_; simp only [decide_eq_true_eq, Bool.false_eq_true, true_iff, false_iff]; omega))))
                       · skip
                         first
                         | (cases hq_31; done) | ((first | replace hq_31 := bnt hq_31 | replace hq_31 := bnf hq_31 | replace hq_31 := bt hq_31 | replace hq_31 := bf hq_31 | replace hq_31 := bt' hq_31 | replace hq_31 := bf' hq_31 | skip); exfalso; omega) | (rw [hbe] at hq_31; cases hq_31; done)
                         | ((first | replace hq_31 := bnt hq_31 | replace hq_31 := bnf hq_31 | replace hq_31 := bt hq_31 | replace hq_31 := bf hq_31 | replace hq_31 := bt' hq_31 | replace hq_31 := bf' hq_31 | skip)
                            refine al_skip' ⟨_, rfl, .inl hb_31⟩ rfl ?_
                            refine al_skip' ⟨_, rfl, .inl (up_m rfl hb_31)⟩ rfl ?_
                            refine al_skip' ⟨_, rfl, .inl (u2 rfl hb_31)⟩ rfl ?_
                            refine al_ro' (ro_pickF (up_m rfl (u2 rfl hb_31)) ev_c) trivial rfl ?_
                            refine al_ro' (ro_move up_h) trivial rfl ?_
                            refine al_skip' ⟨_, rfl, .inl up_h⟩ rfl ?_
                            refine al_skip' ⟨_, rfl, .inl (up_m rfl up_h)⟩ rfl ?_
                            refine al_ro' (ro_pickF (u2 rfl up_h) ev_c) trivial rfl ?_
                            refine al_ro' (ro_move up_h) trivial rfl ?_
                            refine al_skip' ⟨_, rfl, .inl up_h⟩ rfl ?_
                            refine al_skip' ⟨_, rfl, .inl (up_m rfl up_h)⟩ rfl ?_
                            refine al_skip' ⟨_, rfl, .inl (u2 rfl up_h)⟩ rfl ?_
                            refine al_ro' (ro_pickF (up_m rfl (u2 rfl up_h)) ev_c) trivial rfl ?_
                            refine al_ro' (ro_assign up_h) trivial rfl ?_
                            refine al_end (fun e_37 he_37 => ?_)
                            have s6_37 := ef 6 he_37 up_h
                            clear he_37 hb_31 s10_29 s11_29 s3_29 s4_29 s5_29 s67_29 s7_29 s8_29 s9_29
                            refine then_n ?_
                            refine aw_ret ?_
                            refine then_r ?_
                            refine ret1 (.inr rfl) (by kernel_rfl) (resV_tmp s6_37) (.ro _ rfl) ?_
                            clear s6_37 mo2_3 mo1_3 mo0_3 ml_3
                            (first | rfl | (simp [hq]; done) | (rw [if_pos hq]; simp; done) | (simp; done) | (refine avb ?_; simp only [decide_eq_true_eq, Bool.false_eq_true, true_iff, false_iff]; omega))))
                  · skip
                    first
                    | (cases hq_30; done) | ((first | replace hq_30 := bnt hq_30 | replace hq_30 := bnf hq_30 | replace hq_30 := bt hq_30 | replace hq_30 := bf hq_30 | replace hq_30 := bt' hq_30 | replace hq_30 := bf' hq_30 | skip); exfalso; omega) | (rw [hbe] at hq_30; cases hq_30; done)
                    | ((first | replace hq_30 := bnt hq_30 | replace hq_30 := bnf hq_30 | replace hq_30 := bt hq_30 | replace hq_30 := bf hq_30 | replace hq_30 := bt' hq_30 | replace hq_30 := bf' hq_30 | skip)
                       (have hq : runE nm ps b d v post sq stop = 0 := (by assumption); have hz2 : (if runE nm ps b d v post sq stop = 0 then (runW ps b d stop post sq).2 else runE nm ps b d v post sq stop) = (runW ps b d stop post sq).2 := (by rw [if_pos hq]); have hbe : (decide (runE nm ps b d v post sq stop = 0 ∧ (runW ps b d stop post sq).2 = 0) == decide ((runW ps b d stop post sq).2 = 0)) = true := (by simp [hq]); have hr := runE_right hq; have hlw2 : (runW ps b d stop post sq).1.length ≤ 1000000000 := (by have := runW_len (b := b) (d := d) (sq := sq) hsh.2 hr.2.2.2.2.1.2.1 hr.2.2.1.1; omega); have hlw1 : (if runE nm ps b d v post sq stop = 0 then (runW ps b d stop post sq).1 else []).length ≤ 1000000000 := (by rw [if_pos hq]; exact hlw2))
                       refine aw_skip ?_
                       refine then_n ?_
                       refine aw_seq ?_
                       refine aw_text ?_
                       refine al_ro' (ro_eq (ro_ld_ptr k16_ty24 rfl mo0_3 s3_29 (by first | exact Nat.le_of_ble_eq_true rfl | omega | (simp only [lnS] <;> omega) | (simp <;> omega))) (by first | (simp only [packA_t, packA_f, iE, bE, setAt, cellsA, Value.cells, map_vc, map_vn, Nat.reduceAdd, qS] <;> rfl) | rfl)) trivial rfl ?_
                       refine al_ro' (ro_eq (ro_ld_ptr k16_ty26 rfl mo1_3 (up_m rfl s4_29) (by first | exact Nat.le_of_ble_eq_true rfl | omega | (simp only [lnS] <;> omega) | (simp <;> omega))) (by first | (simp only [packA_t, packA_f, iE, bE, setAt, cellsA, Value.cells, map_vc, map_vn, Nat.reduceAdd, qS] <;> rfl) | rfl)) trivial rfl ?_
                       refine al_ro' (ro_fld_ptr k16_fl44_0 rfl (u2 rfl s5_29)) trivial rfl ?_
                       refine al_ro' (ro_eq (ro_ld_ptr k16_ty42 rfl mo2_3 up_h (by first | exact Nat.le_of_ble_eq_true rfl | omega | (simp only [lnS] <;> omega) | (simp <;> omega))) (by first | (simp only [packA_t, packA_f, iE, bE, setAt, cellsA, Value.cells, map_vc, map_vn, Nat.reduceAdd, qS] <;> rfl) | rfl)) trivial rfl ?_
                       refine al_ro' (ro_fld_ptr k16_fl44_1 rfl (u4 rfl s5_29)) trivial rfl ?_
                       refine al_ro' (ro_eq (ro_ld_ptr k16_ty3 rfl mo2_3 up_h (by first | exact Nat.le_of_ble_eq_true rfl | omega | (simp only [lnS] <;> omega) | (simp <;> omega))) (by first | (simp only [packA_t, packA_f, iE, bE, setAt, cellsA, Value.cells, map_vc, map_vn, Nat.reduceAdd, qS] <;> rfl) | rfl)) trivial rfl ?_
                       refine al_ro' (ro_call (evL_cons (up_m rfl (u4 rfl up_h)) (evL_cons (u4 rfl up_h) (evL_cons (u2 rfl up_h) (evL_cons up_h evL_nil)))) rfl (rRunTo2_ok hq) k16_hcf27) trivial rfl ?_
                       refine al_ro' (ro_move up_h) trivial rfl ?_
                       refine al_ro' (ro_extract up_h rfl) trivial rfl ?_
                       refine al_ro' (ro_extract (up_m rfl up_h) rfl) trivial rfl ?_
                       refine al_ro' (ro_assign (up_m rfl up_h)) trivial rfl ?_
                       refine al_ro' (ro_assign (up_m rfl up_h)) trivial rfl ?_
                       refine al_end (fun e_38 he_38 => ?_)
                       have s7_38 := ef 7 he_38 (u4 rfl (u8 rfl s7_29))
                       have s8_38 := ef 8 he_38 (u4 rfl (u8 rfl s8_29))
                       have s9_38 := ef 9 he_38 (u4 rfl (u8 rfl s9_29))
                       have s10_38 := ef 10 he_38 (u4 rfl (u8 rfl s10_29))
                       have s12_38 := ef 12 he_38 (up_m rfl up_h)
                       have s13_38 := ef 13 he_38 up_h
                       clear he_38 s10_29 s11_29 s3_29 s4_29 s5_29 s67_29 s7_29 s8_29 s9_29
                       refine then_n ?_
                       refine aw_seq ?_
                       refine aw_text ?_
                       refine al_ro' (ro_move s8_38) trivial rfl ?_
                       refine al_ro' (ro_eql up_h ev_c) trivial rfl ?_
                       refine al_ro' (ro_move up_h) trivial rfl ?_
                       refine al_case up_h (fun hb_39 hq_39 => ?_) (fun hb_39 hq_39 => ?_)
                       · skip
                         first
                         | (cases hq_39; done) | ((first | replace hq_39 := bnt hq_39 | replace hq_39 := bnf hq_39 | replace hq_39 := bt hq_39 | replace hq_39 := bf hq_39 | replace hq_39 := bt' hq_39 | replace hq_39 := bf' hq_39 | skip); exfalso; omega) | (rw [hbe] at hq_39; cases hq_39; done)
                         | ((first | replace hq_39 := bnt hq_39 | replace hq_39 := bnf hq_39 | replace hq_39 := bt hq_39 | replace hq_39 := bf hq_39 | replace hq_39 := bt' hq_39 | replace hq_39 := bf' hq_39 | skip)
                            refine al_ro' (ro_move (up_m rfl (u2 rfl s7_38))) ⟨_, rfl, hb_39⟩ rfl ?_
                            refine al_ro' (ro_move (u4 rfl s13_38)) ⟨_, rfl, (up_m rfl hb_39)⟩ rfl ?_
                            refine al_ro' (ro_eql up_h ev_c) ⟨_, rfl, (u2 rfl hb_39)⟩ rfl ?_
                            refine al_ro' (ro_beql (k16_be4 _ _) (u2 rfl up_h) up_h) ⟨_, rfl, (up_m rfl (u2 rfl hb_39))⟩ rfl ?_
                            refine al_ro' (ro_pickT (u4 rfl hb_39) up_h) trivial rfl ?_
                            refine al_ro' (ro_move up_h) trivial rfl ?_
                            refine al_case up_h (fun hb_40 hq_40 => ?_) (fun hb_40 hq_40 => ?_)
                            · skip
                              first
                              | (cases hq_40; done) | ((first | replace hq_40 := bnt hq_40 | replace hq_40 := bnf hq_40 | replace hq_40 := bt hq_40 | replace hq_40 := bf hq_40 | replace hq_40 := bt' hq_40 | replace hq_40 := bf' hq_40 | skip); exfalso; omega) | (rw [hbe] at hq_40; cases hq_40; done)
                              | ((first | replace hq_40 := bnt hq_40 | replace hq_40 := bnf hq_40 | replace hq_40 := bt hq_40 | replace hq_40 := bf hq_40 | replace hq_40 := bt' hq_40 | replace hq_40 := bf' hq_40 | skip)
                                 refine al_ro' (ro_move (up_m rfl (u8 rfl s10_38))) ⟨_, rfl, hb_40⟩ rfl ?_
                                 refine al_ro' (ro_move (u2 rfl (u8 rfl s13_38))) ⟨_, rfl, (up_m rfl hb_40)⟩ rfl ?_
                                 refine al_ro' (ro_eql (up_m rfl up_h) up_h) ⟨_, rfl, (u2 rfl hb_40)⟩ rfl ?_
                                 refine al_ro' (ro_pickT (up_m rfl (u2 rfl hb_40)) up_h) trivial rfl ?_
                                 refine al_ro' (ro_move up_h) trivial rfl ?_
                                 refine al_case up_h (fun hb_41 hq_41 => ?_) (fun hb_41 hq_41 => ?_)
                                 · skip
                                   first
                                   | (cases hq_41; done) | ((first | replace hq_41 := bnt hq_41 | replace hq_41 := bnf hq_41 | replace hq_41 := bt hq_41 | replace hq_41 := bf hq_41 | replace hq_41 := bt' hq_41 | replace hq_41 := bf' hq_41 | skip); exfalso; omega) | (rw [hbe] at hq_41; cases hq_41; done)
                                   | ((first | replace hq_41 := bnt hq_41 | replace hq_41 := bnf hq_41 | replace hq_41 := bt hq_41 | replace hq_41 := bf hq_41 | replace hq_41 := bt' hq_41 | replace hq_41 := bf' hq_41 | skip)
                                      refine al_ro' (ro_move (u2 rfl (u4 rfl (u8 rfl s9_38)))) ⟨_, rfl, hb_41⟩ rfl ?_
                                      refine al_ro' (ro_move (up_m rfl (u2 rfl (u4 rfl (u8 rfl s12_38))))) ⟨_, rfl, (up_m rfl hb_41)⟩ rfl ?_
                                      refine al_ro' (ro_call (evL_cons (up_m rfl up_h) (evL_cons up_h evL_nil)) rfl (ints_ok _ _ hlw1 hlw2) k16_hcf22) ⟨_, rfl, (u2 rfl hb_41)⟩ rfl ?_
                                      refine al_ro' (ro_pickT (up_m rfl (u2 rfl hb_41)) up_h) trivial rfl ?_
                                      refine al_ro' (ro_assign up_h) trivial rfl ?_
                                      refine al_end (fun e_42 he_42 => ?_)
                                      have s6_42 := ef 6 he_42 up_h
                                      clear he_42 hb_39 hb_40 hb_41 s10_38 s12_38 s13_38 s7_38 s8_38 s9_38
                                      refine then_n ?_
                                      refine aw_ret ?_
                                      refine ret1 (.inr rfl) (by kernel_rfl) (resV_tmp s6_42) (.ro _ rfl) ?_
                                      clear s6_42 mo2_3 mo1_3 mo0_3 ml_3
                                      (first | rfl | (simp [hq]; done) | (rw [if_pos hq]; simp; done) | (simp; done) | (refine avb ?_; simp only [decide_eq_true_eq, Bool.false_eq_true, true_iff, false_iff]; omega)))
                                 · skip
                                   first
                                   | (cases hq_41; done) | ((first | replace hq_41 := bnt hq_41 | replace hq_41 := bnf hq_41 | replace hq_41 := bt hq_41 | replace hq_41 := bf hq_41 | replace hq_41 := bt' hq_41 | replace hq_41 := bf' hq_41 | skip); exfalso; omega) | (rw [hbe] at hq_41; cases hq_41; done)
                                   | ((first | replace hq_41 := bnt hq_41 | replace hq_41 := bnf hq_41 | replace hq_41 := bt hq_41 | replace hq_41 := bf hq_41 | replace hq_41 := bt' hq_41 | replace hq_41 := bf' hq_41 | skip)
                                      refine al_skip' ⟨_, rfl, .inl hb_41⟩ rfl ?_
                                      refine al_skip' ⟨_, rfl, .inl (up_m rfl hb_41)⟩ rfl ?_
                                      refine al_skip' ⟨_, rfl, .inl (u2 rfl hb_41)⟩ rfl ?_
                                      refine al_ro' (ro_pickF (up_m rfl (u2 rfl hb_41)) ev_c) trivial rfl ?_
                                      refine al_ro' (ro_assign up_h) trivial rfl ?_
                                      refine al_end (fun e_43 he_43 => ?_)
                                      have s6_43 := ef 6 he_43 up_h
                                      clear he_43 hb_39 hb_40 hb_41 s10_38 s12_38 s13_38 s7_38 s8_38 s9_38
                                      refine then_n ?_
                                      refine aw_ret ?_
                                      refine ret1 (.inr rfl) (by kernel_rfl) (resV_tmp s6_43) (.ro _ rfl) ?_
                                      clear s6_43 mo2_3 mo1_3 mo0_3 ml_3
                                      (first | rfl | (simp [hq]; done) | (rw [if_pos hq]; simp; done) | (simp; done) | (refine avb ?_; simp only [decide_eq_true_eq, Bool.false_eq_true, true_iff, false_iff]; omega))))
                            · skip
                              first
                              | (cases hq_40; done) | ((first | replace hq_40 := bnt hq_40 | replace hq_40 := bnf hq_40 | replace hq_40 := bt hq_40 | replace hq_40 := bf hq_40 | replace hq_40 := bt' hq_40 | replace hq_40 := bf' hq_40 | skip); exfalso; omega) | (rw [hbe] at hq_40; cases hq_40; done)
                              | ((first | replace hq_40 := bnt hq_40 | replace hq_40 := bnf hq_40 | replace hq_40 := bt hq_40 | replace hq_40 := bf hq_40 | replace hq_40 := bt' hq_40 | replace hq_40 := bf' hq_40 | skip)
                                 refine al_skip' ⟨_, rfl, .inl hb_40⟩ rfl ?_
                                 refine al_skip' ⟨_, rfl, .inl (up_m rfl hb_40)⟩ rfl ?_
                                 refine al_skip' ⟨_, rfl, .inl (u2 rfl hb_40)⟩ rfl ?_
                                 refine al_ro' (ro_pickF (up_m rfl (u2 rfl hb_40)) ev_c) trivial rfl ?_
                                 refine al_ro' (ro_move up_h) trivial rfl ?_
                                 refine al_skip' ⟨_, rfl, .inl up_h⟩ rfl ?_
                                 refine al_skip' ⟨_, rfl, .inl (up_m rfl up_h)⟩ rfl ?_
                                 refine al_skip' ⟨_, rfl, .inl (u2 rfl up_h)⟩ rfl ?_
                                 refine al_ro' (ro_pickF (up_m rfl (u2 rfl up_h)) ev_c) trivial rfl ?_
                                 refine al_ro' (ro_assign up_h) trivial rfl ?_
                                 refine al_end (fun e_44 he_44 => ?_)
                                 have s6_44 := ef 6 he_44 up_h
                                 clear he_44 hb_39 hb_40 s10_38 s12_38 s13_38 s7_38 s8_38 s9_38
                                 refine then_n ?_
                                 refine aw_ret ?_
                                 refine ret1 (.inr rfl) (by kernel_rfl) (resV_tmp s6_44) (.ro _ rfl) ?_
                                 clear s6_44 mo2_3 mo1_3 mo0_3 ml_3
                                 (first | rfl | (simp [hq]; done) | (rw [if_pos hq]; simp; done) | (simp; done) | (refine avb ?_; simp only [decide_eq_true_eq, Bool.false_eq_true, true_iff, false_iff]; omega))))
                       · skip
                         first
                         | (cases hq_39; done) | ((first | replace hq_39 := bnt hq_39 | replace hq_39 := bnf hq_39 | replace hq_39 := bt hq_39 | replace hq_39 := bf hq_39 | replace hq_39 := bt' hq_39 | replace hq_39 := bf' hq_39 | skip); exfalso; omega) | (rw [hbe] at hq_39; cases hq_39; done)
                         | ((first | replace hq_39 := bnt hq_39 | replace hq_39 := bnf hq_39 | replace hq_39 := bt hq_39 | replace hq_39 := bf hq_39 | replace hq_39 := bt' hq_39 | replace hq_39 := bf' hq_39 | skip)
                            refine al_skip' ⟨_, rfl, .inl hb_39⟩ rfl ?_
                            refine al_skip' ⟨_, rfl, .inl (up_m rfl hb_39)⟩ rfl ?_
                            refine al_skip' ⟨_, rfl, .inl (u2 rfl hb_39)⟩ rfl ?_
                            refine al_skip' ⟨_, rfl, .inl (up_m rfl (u2 rfl hb_39))⟩ rfl ?_
                            refine al_ro' (ro_pickF (u4 rfl hb_39) ev_c) trivial rfl ?_
                            refine al_ro' (ro_move up_h) trivial rfl ?_
                            refine al_skip' ⟨_, rfl, .inl up_h⟩ rfl ?_
                            refine al_skip' ⟨_, rfl, .inl (up_m rfl up_h)⟩ rfl ?_
                            refine al_skip' ⟨_, rfl, .inl (u2 rfl up_h)⟩ rfl ?_
                            refine al_ro' (ro_pickF (up_m rfl (u2 rfl up_h)) ev_c) trivial rfl ?_
                            refine al_ro' (ro_move up_h) trivial rfl ?_
                            refine al_skip' ⟨_, rfl, .inl up_h⟩ rfl ?_
                            refine al_skip' ⟨_, rfl, .inl (up_m rfl up_h)⟩ rfl ?_
                            refine al_skip' ⟨_, rfl, .inl (u2 rfl up_h)⟩ rfl ?_
                            refine al_ro' (ro_pickF (up_m rfl (u2 rfl up_h)) ev_c) trivial rfl ?_
                            refine al_ro' (ro_assign up_h) trivial rfl ?_
                            refine al_end (fun e_45 he_45 => ?_)
                            have s6_45 := ef 6 he_45 up_h
                            clear he_45 hb_39 s10_38 s12_38 s13_38 s7_38 s8_38 s9_38
                            refine then_n ?_
                            refine aw_ret ?_
                            refine ret1 (.inr rfl) (by kernel_rfl) (resV_tmp s6_45) (.ro _ rfl) ?_
                            clear s6_45 mo2_3 mo1_3 mo0_3 ml_3
                            (first | rfl | (simp [hq]; done) | (rw [if_pos hq]; simp; done) | (simp; done) | (refine avb ?_; simp only [decide_eq_true_eq, Bool.false_eq_true, true_iff, false_iff]; omega))))))
end Go.Proofs.Ytelgkjekpcfffaa
