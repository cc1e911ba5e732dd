/- The law of chapter 5 on tracks. No conditions on a program. -/
import Derived.Test.YtelgkjekpcfffaaK12
namespace Go.Proofs.Ytelgkjekpcfffaa
open Go Go.RowKit Go.Proofs
set_option linter.unusedSimpArgs false
set_option linter.unusedVariables false
theorem k13_hcf15 : ∀ args w, (callFunc 15 args).run Try.prog w = .ok (.enter 15 args) w := fun _ _ => by kernel_rfl
theorem k13_hcf16 : ∀ args w, (callFunc 16 args).run Try.prog w = .ok (.enter 16 args) w := fun _ _ => by kernel_rfl
theorem k13_hcf18 : ∀ args w, (callFunc 18 args).run Try.prog w = .ok (.enter 18 args) w := fun _ _ => by kernel_rfl
theorem k13_hcf22 : ∀ args w, (callFunc 22 args).run Try.prog w = .ok (.enter 22 args) w := fun _ _ => by kernel_rfl
theorem k13_hcf32 : ∀ args w, (callFunc 32 args).run Try.prog w = .ok (.enter 32 args) w := fun _ _ => by kernel_rfl
theorem k13_hcf33 : ∀ args w, (callFunc 33 args).run Try.prog w = .ok (.enter 33 args) w := fun _ _ => by kernel_rfl
theorem k13_hcf34 : ∀ args w, (callFunc 34 args).run Try.prog w = .ok (.enter 34 args) w := fun _ _ => by kernel_rfl
theorem k13_hcf35 : ∀ args w, (callFunc 35 args).run Try.prog w = .ok (.enter 35 args) w := fun _ _ => by kernel_rfl
theorem k13_hcf36 : ∀ args w, (callFunc 36 args).run Try.prog w = .ok (.enter 36 args) w := fun _ _ => by kernel_rfl
theorem k13_hcf37 : ∀ args w, (callFunc 37 args).run Try.prog w = .ok (.enter 37 args) w := fun _ _ => by kernel_rfl
theorem k13_hcf38 : ∀ args w, (callFunc 38 args).run Try.prog w = .ok (.enter 38 args) w := fun _ _ => by kernel_rfl
theorem k13_hcf39 : ∀ args w, (callFunc 39 args).run Try.prog w = .ok (.enter 39 args) w := fun _ _ => by kernel_rfl
theorem k13_sl30 : SlIs Try.prog 30 3 1 8 (.int .i64 0) := ⟨by kernel_rfl, by kernel_rfl, by kernel_rfl⟩
theorem k13_ty24 : TyIs Try.prog 24 true 2 := ⟨by kernel_rfl, by kernel_rfl⟩
theorem k13_ty26 : TyIs Try.prog 26 true 3 := ⟨by kernel_rfl, by kernel_rfl⟩

set_option maxRecDepth 100000 in
set_option maxHeartbeats 4000000 in
theorem brakeTracks_ok (nm : ByteArray) (ps : List Piece) (b d v : Int) : FnOk Try.prog 6 [trA nm ps, syA b d v] (fun q => q = bA true) := by
  refine fnOk_of (fn := Try.f6) 94 (by kernel_rfl) rfl (by kernel_rfl) (Nat.le_of_ble_eq_true rfl) ?_
  intro e_0 m_0 hA hm_0
  have s0_0 : evA e_0 (.tmp 0) = _ := hA 0 _ rfl
  have s1_0 : evA e_0 (.tmp 1) = _ := hA 1 _ rfl
  have ml_0 : m_0.length = 0 := by rw [hm_0]; rfl
  clear hA hm_0
  refine aw_seq ?_
  refine aw_text ?_
  refine al_stm (st_box s0_0 rfl ml_0) trivial rfl (fun m_1 hm_1 => ?_)
  have mo0_1 := m_push hm_1 ml_0
  (try simp only [packA_t, packA_f, iE, bE, setAt, cellsA, Value.cells, map_vc, map_vn, Nat.reduceAdd, qS] at mo0_1)
  have ml_1 := m_push_l hm_1 ml_0
  have ml_1 : _ = 1 := ml_1
  clear hm_1
  refine al_stm (st_box (up_m rfl s1_0) rfl ml_1) trivial rfl (fun m_2 hm_2 => ?_)
  have mo1_2 := m_push hm_2 ml_1
  (try simp only [packA_t, packA_f, iE, bE, setAt, cellsA, Value.cells, map_vc, map_vn, Nat.reduceAdd, qS] at mo1_2)
  have mo0_2 := m_push_o hm_2 mo0_1
  have ml_2 := m_push_l hm_2 ml_1
  have ml_2 : _ = 2 := ml_2
  clear hm_2 mo0_1
  refine al_ro' (ro_assign ev_c) trivial rfl ?_
  refine al_end (fun e_3 he_3 => ?_)
  have s2_3 : evA e_3 (.tmp 2) = _ := (congrArg (fun q => evA q (.tmp 2)) he_3).trans (up_m rfl (up_m rfl up_h))
  have s3_3 : evA e_3 (.tmp 3) = _ := (congrArg (fun q => evA q (.tmp 3)) he_3).trans (up_m rfl up_h)
  clear he_3 s0_0 s1_0
  refine then_n ?_
  refine aw_seq ?_
  refine aw_seq ?_
  refine aw_text ?_
  refine al_ro' (ro_call evL_nil rfl (awake_ok) k13_hcf15) trivial rfl ?_
  refine al_ro' (ro_not up_h) trivial rfl ?_
  refine al_end (fun e_4 he_4 => ?_)
  have s2_4 : evA e_4 (.tmp 2) = _ := (congrArg (fun q => evA q (.tmp 2)) he_4).trans (up_m rfl (up_m rfl s2_3))
  have s3_4 : evA e_4 (.tmp 3) = _ := (congrArg (fun q => evA q (.tmp 3)) he_4).trans (up_m rfl (up_m rfl s3_3))
  have s15_4 : evA e_4 (.tmp 15) = _ := (congrArg (fun q => evA q (.tmp 15)) he_4).trans up_h
  clear he_4 s2_3 s3_3
  refine then_n ?_
  refine aw_case s15_4 (fun hq_5 => ?_) (fun hq_5 => ?_)
  · first
    | (cases hq_5; done) | ((first | replace hq_5 := bnt hq_5 | replace hq_5 := bnf hq_5 | replace hq_5 := bt hq_5 | replace hq_5 := bf hq_5 | replace hq_5 := bt' hq_5 | replace hq_5 := bf' hq_5 | skip); exfalso; omega)
    | ((first | replace hq_5 := bnt hq_5 | replace hq_5 := bnf hq_5 | replace hq_5 := bt hq_5 | replace hq_5 := bf hq_5 | replace hq_5 := bt' hq_5 | replace hq_5 := bf' hq_5 | skip)
       refine aw_seq ?_
       refine aw_text ?_
       refine al_ro' (ro_assign ev_c) trivial rfl ?_
       refine al_end (fun e_6 he_6 => ?_)
       have s4_6 : evA e_6 (.tmp 4) = _ := (congrArg (fun q => evA q (.tmp 4)) he_6).trans up_h
       clear he_6 s15_4 s2_4 s3_4
       refine then_n ?_
       refine aw_ret ?_
       refine then_r ?_
       refine ret1 (.inr rfl) (by kernel_rfl) (resV_tmp s4_6) (.ro _ rfl) ?_
       clear s4_6 mo1_2 mo0_2 ml_2
       first | rfl | (simp; done) | (simp_all; done) | omega)
  · first
    | (cases hq_5; done) | ((first | replace hq_5 := bnt hq_5 | replace hq_5 := bnf hq_5 | replace hq_5 := bt hq_5 | replace hq_5 := bf hq_5 | replace hq_5 := bt' hq_5 | replace hq_5 := bf' hq_5 | skip); exfalso; omega)
    | ((first | replace hq_5 := bnt hq_5 | replace hq_5 := bnf hq_5 | replace hq_5 := bt hq_5 | replace hq_5 := bf hq_5 | replace hq_5 := bt' hq_5 | replace hq_5 := bf' hq_5 | skip)
       refine aw_skip ?_
       refine then_n ?_
       refine aw_seq ?_
       refine aw_seq ?_
       refine aw_text ?_
       refine al_ro' (ro_eq (ro_ld_ptr k13_ty24 rfl mo0_2 s2_4 (by first | exact Nat.le_of_ble_eq_true rfl | omega | (simp only [lnS] <;> omega) | (simp <;> omega))) (by first | (simp only [packA_t, packA_f, iE, bE, setAt, cellsA, Value.cells, map_vc, map_vn, Nat.reduceAdd, qS] <;> rfl) | rfl)) trivial rfl ?_
       refine al_ro' (ro_call (evL_cons up_h evL_nil) rfl (short_ok nm ps) k13_hcf16) trivial rfl ?_
       refine al_ro' (ro_not up_h) trivial rfl ?_
       refine al_end (fun e_7 he_7 => ?_)
       have s2_7 : evA e_7 (.tmp 2) = _ := (congrArg (fun q => evA q (.tmp 2)) he_7).trans (up_m rfl (up_m rfl (up_m rfl s2_4)))
       have s3_7 : evA e_7 (.tmp 3) = _ := (congrArg (fun q => evA q (.tmp 3)) he_7).trans (up_m rfl (up_m rfl (up_m rfl s3_4)))
       have s18_7 : evA e_7 (.tmp 18) = _ := (congrArg (fun q => evA q (.tmp 18)) he_7).trans up_h
       clear he_7 s15_4 s2_4 s3_4
       refine then_n ?_
       refine aw_case s18_7 (fun hq_8 => ?_) (fun hq_8 => ?_)
       · first
         | (cases hq_8; done) | ((first | replace hq_8 := bnt hq_8 | replace hq_8 := bnf hq_8 | replace hq_8 := bt hq_8 | replace hq_8 := bf hq_8 | replace hq_8 := bt' hq_8 | replace hq_8 := bf' hq_8 | skip); exfalso; omega)
         | ((first | replace hq_8 := bnt hq_8 | replace hq_8 := bnf hq_8 | replace hq_8 := bt hq_8 | replace hq_8 := bf hq_8 | replace hq_8 := bt' hq_8 | replace hq_8 := bf' hq_8 | skip)
            refine aw_seq ?_
            refine aw_text ?_
            refine al_ro' (ro_assign ev_c) trivial rfl ?_
            refine al_end (fun e_9 he_9 => ?_)
            have s4_9 : evA e_9 (.tmp 4) = _ := (congrArg (fun q => evA q (.tmp 4)) he_9).trans up_h
            clear he_9 s18_7 s2_7 s3_7
            refine then_n ?_
            refine aw_ret ?_
            refine then_r ?_
            refine ret1 (.inr rfl) (by kernel_rfl) (resV_tmp s4_9) (.ro _ rfl) ?_
            clear s4_9 mo1_2 mo0_2 ml_2
            first | rfl | (simp; done) | (simp_all; done) | omega)
       · first
         | (cases hq_8; done) | ((first | replace hq_8 := bnt hq_8 | replace hq_8 := bnf hq_8 | replace hq_8 := bt hq_8 | replace hq_8 := bf hq_8 | replace hq_8 := bt' hq_8 | replace hq_8 := bf' hq_8 | skip); exfalso; omega)
         | ((first | replace hq_8 := bnt hq_8 | replace hq_8 := bnf hq_8 | replace hq_8 := bt hq_8 | replace hq_8 := bf hq_8 | replace hq_8 := bt' hq_8 | replace hq_8 := bf' hq_8 | skip)
            (have hsh : nm.size ≤ 30 ∧ ps.length ≤ 14 := (by assumption); have hs : nm.size ≤ 1000000000 := (by omega); have hp : ps.length ≤ 1000000000 := (by omega))
            refine aw_skip ?_
            refine then_n ?_
            refine aw_seq ?_
            refine aw_text ?_
            refine al_ro' (ro_eq (ro_ld_ptr k13_ty24 rfl mo0_2 s2_7 (by first | exact Nat.le_of_ble_eq_true rfl | omega | (simp only [lnS] <;> omega) | (simp <;> omega))) (by first | (simp only [packA_t, packA_f, iE, bE, setAt, cellsA, Value.cells, map_vc, map_vn, Nat.reduceAdd, qS] <;> rfl) | rfl)) trivial rfl ?_
            refine al_ro' (ro_call (evL_cons up_h evL_nil) rfl (rCopy_ok nm ps hp) k13_hcf18) trivial rfl ?_
            refine al_ro' (ro_call (evL_cons up_h evL_nil) rfl (checkTrack_ok nm ps hs hp) k13_hcf32) trivial rfl ?_
            refine al_ro' (ro_move up_h) trivial rfl ?_
            refine al_ro' (ro_extract up_h rfl) trivial rfl ?_
            refine al_ro' (ro_extract (up_m rfl up_h) rfl) trivial rfl ?_
            refine al_ro' (ro_assign (up_m rfl up_h)) trivial rfl ?_
            refine al_ro' (ro_assign (up_m rfl up_h)) trivial rfl ?_
            refine al_end (fun e_10 he_10 => ?_)
            have s2_10 : evA e_10 (.tmp 2) = _ := (congrArg (fun q => evA q (.tmp 2)) he_10).trans (up_m rfl (up_m rfl (up_m rfl (up_m rfl (up_m rfl (up_m rfl (up_m rfl (up_m rfl s2_7))))))))
            have s3_10 : evA e_10 (.tmp 3) = _ := (congrArg (fun q => evA q (.tmp 3)) he_10).trans (up_m rfl (up_m rfl (up_m rfl (up_m rfl (up_m rfl (up_m rfl (up_m rfl (up_m rfl s3_7))))))))
            have s5_10 : evA e_10 (.tmp 5) = _ := (congrArg (fun q => evA q (.tmp 5)) he_10).trans (up_m rfl up_h)
            have s6_10 : evA e_10 (.tmp 6) = _ := (congrArg (fun q => evA q (.tmp 6)) he_10).trans up_h
            clear he_10 s18_7 s2_7 s3_7
            refine then_n ?_
            refine aw_seq ?_
            refine aw_text ?_
            refine al_ro' (ro_eq (ro_ld_ptr k13_ty26 rfl mo1_2 s3_10 (by first | exact Nat.le_of_ble_eq_true rfl | omega | (simp only [lnS] <;> omega) | (simp <;> omega))) (by first | (simp only [packA_t, packA_f, iE, bE, setAt, cellsA, Value.cells, map_vc, map_vn, Nat.reduceAdd, qS] <;> rfl) | rfl)) trivial rfl ?_
            refine al_ro' (ro_call (evL_cons up_h evL_nil) rfl (checkSystem_ok b d v) k13_hcf33) trivial rfl ?_
            refine al_ro' (ro_assign up_h) trivial rfl ?_
            refine al_end (fun e_11 he_11 => ?_)
            have s2_11 : evA e_11 (.tmp 2) = _ := (congrArg (fun q => evA q (.tmp 2)) he_11).trans (up_m rfl (up_m rfl (up_m rfl s2_10)))
            have s3_11 : evA e_11 (.tmp 3) = _ := (congrArg (fun q => evA q (.tmp 3)) he_11).trans (up_m rfl (up_m rfl (up_m rfl s3_10)))
            have s5_11 : evA e_11 (.tmp 5) = _ := (congrArg (fun q => evA q (.tmp 5)) he_11).trans (up_m rfl (up_m rfl (up_m rfl s5_10)))
            have s6_11 : evA e_11 (.tmp 6) = _ := (congrArg (fun q => evA q (.tmp 6)) he_11).trans (up_m rfl (up_m rfl (up_m rfl s6_10)))
            have s7_11 : evA e_11 (.tmp 7) = _ := (congrArg (fun q => evA q (.tmp 7)) he_11).trans up_h
            clear he_11 s2_10 s3_10 s5_10 s6_10
            refine then_n ?_
            refine aw_seq ?_
            refine aw_text ?_
            refine al_ro' (ro_eq (ro_ld_ptr k13_ty24 rfl mo0_2 s2_11 (by first | exact Nat.le_of_ble_eq_true rfl | omega | (simp only [lnS] <;> omega) | (simp <;> omega))) (by first | (simp only [packA_t, packA_f, iE, bE, setAt, cellsA, Value.cells, map_vc, map_vn, Nat.reduceAdd, qS] <;> rfl) | rfl)) trivial rfl ?_
            refine al_ro' (ro_call (evL_cons up_h evL_nil) rfl (rCopy_ok nm ps hp) k13_hcf18) trivial rfl ?_
            refine al_ro' (ro_call (evL_cons up_h evL_nil) rfl (placesOf_ok nm ps hs hp) k13_hcf34) trivial rfl ?_
            refine al_ro' (ro_move up_h) trivial rfl ?_
            refine al_ro' (ro_extract up_h rfl) trivial rfl ?_
            refine al_ro' (ro_extract (up_m rfl up_h) rfl) trivial rfl ?_
            refine al_ro' (ro_assign (up_m rfl up_h)) trivial rfl ?_
            refine al_ro' (ro_assign (up_m rfl up_h)) trivial rfl ?_
            refine al_end (fun e_12 he_12 => ?_)
            have s2_12 : evA e_12 (.tmp 2) = _ := (congrArg (fun q => evA q (.tmp 2)) he_12).trans (up_m rfl (up_m rfl (up_m rfl (up_m rfl (up_m rfl (up_m rfl (up_m rfl (up_m rfl s2_11))))))))
            have s3_12 : evA e_12 (.tmp 3) = _ := (congrArg (fun q => evA q (.tmp 3)) he_12).trans (up_m rfl (up_m rfl (up_m rfl (up_m rfl (up_m rfl (up_m rfl (up_m rfl (up_m rfl s3_11))))))))
            have s5_12 : evA e_12 (.tmp 5) = _ := (congrArg (fun q => evA q (.tmp 5)) he_12).trans (up_m rfl (up_m rfl (up_m rfl (up_m rfl (up_m rfl (up_m rfl (up_m rfl (up_m rfl s5_11))))))))
            have s6_12 : evA e_12 (.tmp 6) = _ := (congrArg (fun q => evA q (.tmp 6)) he_12).trans (up_m rfl (up_m rfl (up_m rfl (up_m rfl (up_m rfl (up_m rfl (up_m rfl (up_m rfl s6_11))))))))
            have s7_12 : evA e_12 (.tmp 7) = _ := (congrArg (fun q => evA q (.tmp 7)) he_12).trans (up_m rfl (up_m rfl (up_m rfl (up_m rfl (up_m rfl (up_m rfl (up_m rfl (up_m rfl s7_11))))))))
            have s8_12 : evA e_12 (.tmp 8) = _ := (congrArg (fun q => evA q (.tmp 8)) he_12).trans (up_m rfl up_h)
            have s9_12 : evA e_12 (.tmp 9) = _ := (congrArg (fun q => evA q (.tmp 9)) he_12).trans up_h
            clear he_12 s2_11 s3_11 s5_11 s6_11 s7_11
            refine then_n ?_
            refine aw_seq ?_
            refine aw_text ?_
            refine al_ro' (ro_eq (ro_ld_ptr k13_ty24 rfl mo0_2 s2_12 (by first | exact Nat.le_of_ble_eq_true rfl | omega | (simp only [lnS] <;> omega) | (simp <;> omega))) (by first | (simp only [packA_t, packA_f, iE, bE, setAt, cellsA, Value.cells, map_vc, map_vn, Nat.reduceAdd, qS] <;> rfl) | rfl)) trivial rfl ?_
            refine al_ro' (ro_call (evL_cons up_h evL_nil) rfl (rCopy_ok nm ps hp) k13_hcf18) trivial rfl ?_
            refine al_ro' (ro_call (evL_cons up_h evL_nil) rfl (limitsAt_ok nm ps hs hp) k13_hcf35) trivial rfl ?_
            refine al_ro' (ro_move up_h) trivial rfl ?_
            refine al_ro' (ro_extract up_h rfl) trivial rfl ?_
            refine al_ro' (ro_extract (up_m rfl up_h) rfl) trivial rfl ?_
            refine al_ro' (ro_assign (up_m rfl up_h)) trivial rfl ?_
            refine al_ro' (ro_assign (up_m rfl up_h)) trivial rfl ?_
            refine al_end (fun e_13 he_13 => ?_)
            have s2_13 : evA e_13 (.tmp 2) = _ := (congrArg (fun q => evA q (.tmp 2)) he_13).trans (up_m rfl (up_m rfl (up_m rfl (up_m rfl (up_m rfl (up_m rfl (up_m rfl (up_m rfl s2_12))))))))
            have s3_13 : evA e_13 (.tmp 3) = _ := (congrArg (fun q => evA q (.tmp 3)) he_13).trans (up_m rfl (up_m rfl (up_m rfl (up_m rfl (up_m rfl (up_m rfl (up_m rfl (up_m rfl s3_12))))))))
            have s5_13 : evA e_13 (.tmp 5) = _ := (congrArg (fun q => evA q (.tmp 5)) he_13).trans (up_m rfl (up_m rfl (up_m rfl (up_m rfl (up_m rfl (up_m rfl (up_m rfl (up_m rfl s5_12))))))))
            have s6_13 : evA e_13 (.tmp 6) = _ := (congrArg (fun q => evA q (.tmp 6)) he_13).trans (up_m rfl (up_m rfl (up_m rfl (up_m rfl (up_m rfl (up_m rfl (up_m rfl (up_m rfl s6_12))))))))
            have s7_13 : evA e_13 (.tmp 7) = _ := (congrArg (fun q => evA q (.tmp 7)) he_13).trans (up_m rfl (up_m rfl (up_m rfl (up_m rfl (up_m rfl (up_m rfl (up_m rfl (up_m rfl s7_12))))))))
            have s8_13 : evA e_13 (.tmp 8) = _ := (congrArg (fun q => evA q (.tmp 8)) he_13).trans (up_m rfl (up_m rfl (up_m rfl (up_m rfl (up_m rfl (up_m rfl (up_m rfl (up_m rfl s8_12))))))))
            have s9_13 : evA e_13 (.tmp 9) = _ := (congrArg (fun q => evA q (.tmp 9)) he_13).trans (up_m rfl (up_m rfl (up_m rfl (up_m rfl (up_m rfl (up_m rfl (up_m rfl (up_m rfl s9_12))))))))
            have s10_13 : evA e_13 (.tmp 10) = _ := (congrArg (fun q => evA q (.tmp 10)) he_13).trans (up_m rfl up_h)
            have s11_13 : evA e_13 (.tmp 11) = _ := (congrArg (fun q => evA q (.tmp 11)) he_13).trans up_h
            clear he_13 s2_12 s3_12 s5_12 s6_12 s7_12 s8_12 s9_12
            refine then_n ?_
            refine aw_seq ?_
            refine aw_text ?_
            refine al_ro' (ro_eq (ro_ld_ptr k13_ty24 rfl mo0_2 s2_13 (by first | exact Nat.le_of_ble_eq_true rfl | omega | (simp only [lnS] <;> omega) | (simp <;> omega))) (by first | (simp only [packA_t, packA_f, iE, bE, setAt, cellsA, Value.cells, map_vc, map_vn, Nat.reduceAdd, qS] <;> rfl) | rfl)) trivial rfl ?_
            refine al_ro' (ro_call (evL_cons up_h evL_nil) rfl (rCheckTrack_ok nm ps hs hp) k13_hcf36) trivial rfl ?_
            refine al_ro' (ro_move up_h) trivial rfl ?_
            refine al_ro' (ro_extract up_h rfl) trivial rfl ?_
            refine al_ro' (ro_extract (up_m rfl up_h) rfl) trivial rfl ?_
            refine al_ro' (ro_assign (up_m rfl up_h)) trivial rfl ?_
            refine al_ro' (ro_assign (up_m rfl up_h)) trivial rfl ?_
            refine al_end (fun e_14 he_14 => ?_)
            have s2_14 : evA e_14 (.tmp 2) = _ := (congrArg (fun q => evA q (.tmp 2)) he_14).trans (up_m rfl (up_m rfl (up_m rfl (up_m rfl (up_m rfl (up_m rfl (up_m rfl s2_13)))))))
            have s3_14 : evA e_14 (.tmp 3) = _ := (congrArg (fun q => evA q (.tmp 3)) he_14).trans (up_m rfl (up_m rfl (up_m rfl (up_m rfl (up_m rfl (up_m rfl (up_m rfl s3_13)))))))
            have s5_14 : evA e_14 (.tmp 5) = _ := (congrArg (fun q => evA q (.tmp 5)) he_14).trans (up_m rfl (up_m rfl (up_m rfl (up_m rfl (up_m rfl (up_m rfl (up_m rfl s5_13)))))))
            have s6_14 : evA e_14 (.tmp 6) = _ := (congrArg (fun q => evA q (.tmp 6)) he_14).trans (up_m rfl (up_m rfl (up_m rfl (up_m rfl (up_m rfl (up_m rfl (up_m rfl s6_13)))))))
            have s7_14 : evA e_14 (.tmp 7) = _ := (congrArg (fun q => evA q (.tmp 7)) he_14).trans (up_m rfl (up_m rfl (up_m rfl (up_m rfl (up_m rfl (up_m rfl (up_m rfl s7_13)))))))
            have s8_14 : evA e_14 (.tmp 8) = _ := (congrArg (fun q => evA q (.tmp 8)) he_14).trans (up_m rfl (up_m rfl (up_m rfl (up_m rfl (up_m rfl (up_m rfl (up_m rfl s8_13)))))))
            have s9_14 : evA e_14 (.tmp 9) = _ := (congrArg (fun q => evA q (.tmp 9)) he_14).trans (up_m rfl (up_m rfl (up_m rfl (up_m rfl (up_m rfl (up_m rfl (up_m rfl s9_13)))))))
            have s10_14 : evA e_14 (.tmp 10) = _ := (congrArg (fun q => evA q (.tmp 10)) he_14).trans (up_m rfl (up_m rfl (up_m rfl (up_m rfl (up_m rfl (up_m rfl (up_m rfl s10_13)))))))
            have s11_14 : evA e_14 (.tmp 11) = _ := (congrArg (fun q => evA q (.tmp 11)) he_14).trans (up_m rfl (up_m rfl (up_m rfl (up_m rfl (up_m rfl (up_m rfl (up_m rfl s11_13)))))))
            have s12_14 : evA e_14 (.tmp 12) = _ := (congrArg (fun q => evA q (.tmp 12)) he_14).trans (up_m rfl up_h)
            have s13_14 : evA e_14 (.tmp 13) = _ := (congrArg (fun q => evA q (.tmp 13)) he_14).trans up_h
            clear he_14 s10_13 s11_13 s2_13 s3_13 s5_13 s6_13 s7_13 s8_13 s9_13
            refine then_n ?_
            refine aw_seq ?_
            refine aw_seq ?_
            refine aw_text ?_
            refine al_ro' (ro_move s6_14) trivial rfl ?_
            refine al_ro' (ro_move (up_m rfl s13_14)) trivial rfl ?_
            refine al_ro' (ro_neq (up_m rfl up_h) up_h) trivial rfl ?_
            refine al_ro' (ro_move up_h) trivial rfl ?_
            refine al_case up_h (fun hb_15 hq_15 => ?_) (fun hb_15 hq_15 => ?_)
            · first
              | (cases hq_15; done) | ((first | replace hq_15 := bnt hq_15 | replace hq_15 := bnf hq_15 | replace hq_15 := bt hq_15 | replace hq_15 := bf hq_15 | replace hq_15 := bt' hq_15 | replace hq_15 := bf' hq_15 | skip); exfalso; omega)
              | ((first | replace hq_15 := bnt hq_15 | replace hq_15 := bnf hq_15 | replace hq_15 := bt hq_15 | replace hq_15 := bf hq_15 | replace hq_15 := bt' hq_15 | replace hq_15 := bf' hq_15 | skip)
                 refine al_skip' ⟨_, rfl, .inl hb_15⟩ rfl ?_
                 refine al_skip' ⟨_, rfl, .inl (up_m rfl hb_15)⟩ rfl ?_
                 refine al_skip' ⟨_, rfl, .inl (up_m rfl (up_m rfl hb_15))⟩ rfl ?_
                 refine al_ro' (ro_pickT (up_m rfl (up_m rfl (up_m rfl hb_15))) ev_c) trivial rfl ?_
                 refine al_ro' (ro_move up_h) trivial rfl ?_
                 refine al_skip' ⟨_, rfl, .inl up_h⟩ rfl ?_
                 refine al_skip' ⟨_, rfl, .inl (up_m rfl up_h)⟩ rfl ?_
                 refine al_skip' ⟨_, rfl, .inl (up_m rfl (up_m rfl up_h))⟩ rfl ?_
                 refine al_skip' ⟨_, rfl, .inl (up_m rfl (up_m rfl (up_m rfl up_h)))⟩ rfl ?_
                 refine al_ro' (ro_pickT (up_m rfl (up_m rfl (up_m rfl (up_m rfl up_h)))) ev_c) trivial rfl ?_
                 refine al_end (fun e_16 he_16 => ?_)
                 have s2_16 : evA e_16 (.tmp 2) = _ := (congrArg (fun q => evA q (.tmp 2)) he_16).trans (up_m rfl (up_m rfl (up_m rfl (up_m rfl (up_m rfl (up_m rfl (up_m rfl (up_m rfl (up_m rfl (up_m rfl (up_m rfl (up_m rfl (up_m rfl (up_m rfl s2_14))))))))))))))
                 have s8_16 : evA e_16 (.tmp 8) = _ := (congrArg (fun q => evA q (.tmp 8)) he_16).trans (up_m rfl (up_m rfl (up_m rfl (up_m rfl (up_m rfl (up_m rfl (up_m rfl (up_m rfl (up_m rfl (up_m rfl (up_m rfl (up_m rfl (up_m rfl (up_m rfl s8_14))))))))))))))
                 have s9_16 : evA e_16 (.tmp 9) = _ := (congrArg (fun q => evA q (.tmp 9)) he_16).trans (up_m rfl (up_m rfl (up_m rfl (up_m rfl (up_m rfl (up_m rfl (up_m rfl (up_m rfl (up_m rfl (up_m rfl (up_m rfl (up_m rfl (up_m rfl (up_m rfl s9_14))))))))))))))
                 have s10_16 : evA e_16 (.tmp 10) = _ := (congrArg (fun q => evA q (.tmp 10)) he_16).trans (up_m rfl (up_m rfl (up_m rfl (up_m rfl (up_m rfl (up_m rfl (up_m rfl (up_m rfl (up_m rfl (up_m rfl (up_m rfl (up_m rfl (up_m rfl (up_m rfl s10_14))))))))))))))
                 have s11_16 : evA e_16 (.tmp 11) = _ := (congrArg (fun q => evA q (.tmp 11)) he_16).trans (up_m rfl (up_m rfl (up_m rfl (up_m rfl (up_m rfl (up_m rfl (up_m rfl (up_m rfl (up_m rfl (up_m rfl (up_m rfl (up_m rfl (up_m rfl (up_m rfl s11_14))))))))))))))
                 have s13_16 : evA e_16 (.tmp 13) = _ := (congrArg (fun q => evA q (.tmp 13)) he_16).trans (up_m rfl (up_m rfl (up_m rfl (up_m rfl (up_m rfl (up_m rfl (up_m rfl (up_m rfl (up_m rfl (up_m rfl (up_m rfl (up_m rfl (up_m rfl (up_m rfl s13_14))))))))))))))
                 have s57_16 : evA e_16 (.tmp 57) = _ := (congrArg (fun q => evA q (.tmp 57)) he_16).trans up_h
                 clear he_16 hb_15 s10_14 s11_14 s12_14 s13_14 s2_14 s3_14 s5_14 s6_14 s7_14 s8_14 s9_14
                 refine then_n ?_
                 refine aw_true s57_16 ?_
                 refine aw_seq ?_
                 refine aw_text ?_
                 refine al_ro' (ro_assign ev_c) trivial rfl ?_
                 refine al_end (fun e_18 he_18 => ?_)
                 have s4_18 : evA e_18 (.tmp 4) = _ := (congrArg (fun q => evA q (.tmp 4)) he_18).trans up_h
                 clear he_18 s10_16 s11_16 s13_16 s2_16 s57_16 s8_16 s9_16
                 refine then_n ?_
                 refine aw_ret ?_
                 refine then_r ?_
                 refine ret1 (.inr rfl) (by kernel_rfl) (resV_tmp s4_18) (.ro _ rfl) ?_
                 clear s4_18 mo1_2 mo0_2 ml_2
                 first | rfl | (simp; done) | (simp_all; done) | omega)
            · first
              | (cases hq_15; done) | ((first | replace hq_15 := bnt hq_15 | replace hq_15 := bnf hq_15 | replace hq_15 := bt hq_15 | replace hq_15 := bf hq_15 | replace hq_15 := bt' hq_15 | replace hq_15 := bf' hq_15 | skip); exfalso; omega)
              | ((first | replace hq_15 := bnt hq_15 | replace hq_15 := bnf hq_15 | replace hq_15 := bt hq_15 | replace hq_15 := bf hq_15 | replace hq_15 := bt' hq_15 | replace hq_15 := bf' hq_15 | skip)
                 refine al_ro' (ro_move (up_m rfl (up_m rfl (up_m rfl (up_m rfl s5_14))))) ⟨_, rfl, hb_15⟩ rfl ?_
                 refine al_ro' (ro_move (up_m rfl (up_m rfl (up_m rfl (up_m rfl (up_m rfl s12_14)))))) ⟨_, rfl, (up_m rfl hb_15)⟩ rfl ?_
                 refine al_ro' (ro_neq (up_m rfl up_h) up_h) ⟨_, rfl, (up_m rfl (up_m rfl hb_15))⟩ rfl ?_
                 refine al_ro' (ro_pickF (up_m rfl (up_m rfl (up_m rfl hb_15))) up_h) trivial rfl ?_
                 refine al_ro' (ro_move up_h) trivial rfl ?_
                 refine al_case up_h (fun hb_19 hq_19 => ?_) (fun hb_19 hq_19 => ?_)
                 · first
                   | (cases hq_19; done) | ((first | replace hq_19 := bnt hq_19 | replace hq_19 := bnf hq_19 | replace hq_19 := bt hq_19 | replace hq_19 := bf hq_19 | replace hq_19 := bt' hq_19 | replace hq_19 := bf' hq_19 | skip); exfalso; omega)
                   | ((first | replace hq_19 := bnt hq_19 | replace hq_19 := bnf hq_19 | replace hq_19 := bt hq_19 | replace hq_19 := bf hq_19 | replace hq_19 := bt' hq_19 | replace hq_19 := bf' hq_19 | skip)
                      refine al_skip' ⟨_, rfl, .inl hb_19⟩ rfl ?_
                      refine al_skip' ⟨_, rfl, .inl (up_m rfl hb_19)⟩ rfl ?_
                      refine al_skip' ⟨_, rfl, .inl (up_m rfl (up_m rfl hb_19))⟩ rfl ?_
                      refine al_skip' ⟨_, rfl, .inl (up_m rfl (up_m rfl (up_m rfl hb_19)))⟩ rfl ?_
                      refine al_ro' (ro_pickT (up_m rfl (up_m rfl (up_m rfl (up_m rfl hb_19)))) ev_c) trivial rfl ?_
                      refine al_end (fun e_20 he_20 => ?_)
                      have s2_20 : evA e_20 (.tmp 2) = _ := (congrArg (fun q => evA q (.tmp 2)) he_20).trans (up_m rfl (up_m rfl (up_m rfl (up_m rfl (up_m rfl (up_m rfl (up_m rfl (up_m rfl (up_m rfl (up_m rfl (up_m rfl (up_m rfl (up_m rfl (up_m rfl s2_14))))))))))))))
                      have s8_20 : evA e_20 (.tmp 8) = _ := (congrArg (fun q => evA q (.tmp 8)) he_20).trans (up_m rfl (up_m rfl (up_m rfl (up_m rfl (up_m rfl (up_m rfl (up_m rfl (up_m rfl (up_m rfl (up_m rfl (up_m rfl (up_m rfl (up_m rfl (up_m rfl s8_14))))))))))))))
                      have s9_20 : evA e_20 (.tmp 9) = _ := (congrArg (fun q => evA q (.tmp 9)) he_20).trans (up_m rfl (up_m rfl (up_m rfl (up_m rfl (up_m rfl (up_m rfl (up_m rfl (up_m rfl (up_m rfl (up_m rfl (up_m rfl (up_m rfl (up_m rfl (up_m rfl s9_14))))))))))))))
                      have s10_20 : evA e_20 (.tmp 10) = _ := (congrArg (fun q => evA q (.tmp 10)) he_20).trans (up_m rfl (up_m rfl (up_m rfl (up_m rfl (up_m rfl (up_m rfl (up_m rfl (up_m rfl (up_m rfl (up_m rfl (up_m rfl (up_m rfl (up_m rfl (up_m rfl s10_14))))))))))))))
                      have s11_20 : evA e_20 (.tmp 11) = _ := (congrArg (fun q => evA q (.tmp 11)) he_20).trans (up_m rfl (up_m rfl (up_m rfl (up_m rfl (up_m rfl (up_m rfl (up_m rfl (up_m rfl (up_m rfl (up_m rfl (up_m rfl (up_m rfl (up_m rfl (up_m rfl s11_14))))))))))))))
                      have s13_20 : evA e_20 (.tmp 13) = _ := (congrArg (fun q => evA q (.tmp 13)) he_20).trans (up_m rfl (up_m rfl (up_m rfl (up_m rfl (up_m rfl (up_m rfl (up_m rfl (up_m rfl (up_m rfl (up_m rfl (up_m rfl (up_m rfl (up_m rfl (up_m rfl s13_14))))))))))))))
                      have s57_20 : evA e_20 (.tmp 57) = _ := (congrArg (fun q => evA q (.tmp 57)) he_20).trans up_h
                      clear he_20 hb_15 hb_19 s10_14 s11_14 s12_14 s13_14 s2_14 s3_14 s5_14 s6_14 s7_14 s8_14 s9_14
                      refine then_n ?_
                      refine aw_true s57_20 ?_
                      refine aw_seq ?_
                      refine aw_text ?_
                      refine al_ro' (ro_assign ev_c) trivial rfl ?_
                      refine al_end (fun e_22 he_22 => ?_)
                      have s4_22 : evA e_22 (.tmp 4) = _ := (congrArg (fun q => evA q (.tmp 4)) he_22).trans up_h
                      clear he_22 s10_20 s11_20 s13_20 s2_20 s57_20 s8_20 s9_20
                      refine then_n ?_
                      refine aw_ret ?_
                      refine then_r ?_
                      refine ret1 (.inr rfl) (by kernel_rfl) (resV_tmp s4_22) (.ro _ rfl) ?_
                      clear s4_22 mo1_2 mo0_2 ml_2
                      first | rfl | (simp; done) | (simp_all; done) | omega)
                 · first
                   | (cases hq_19; done) | ((first | replace hq_19 := bnt hq_19 | replace hq_19 := bnf hq_19 | replace hq_19 := bt hq_19 | replace hq_19 := bf hq_19 | replace hq_19 := bt' hq_19 | replace hq_19 := bf' hq_19 | skip); exfalso; omega)
                   | ((first | replace hq_19 := bnt hq_19 | replace hq_19 := bnf hq_19 | replace hq_19 := bt hq_19 | replace hq_19 := bf hq_19 | replace hq_19 := bt' hq_19 | replace hq_19 := bf' hq_19 | skip)
                      refine al_ro' (ro_move (up_m rfl (up_m rfl (up_m rfl (up_m rfl (up_m rfl (up_m rfl (up_m rfl (up_m rfl (up_m rfl s7_14)))))))))) ⟨_, rfl, hb_19⟩ rfl ?_
                      refine al_ro' (ro_eq (ro_ld_ptr k13_ty26 rfl mo1_2 (up_m rfl (up_m rfl (up_m rfl (up_m rfl (up_m rfl (up_m rfl (up_m rfl (up_m rfl (up_m rfl (up_m rfl s3_14)))))))))) (by first | exact Nat.le_of_ble_eq_true rfl | omega | (simp only [lnS] <;> omega) | (simp <;> omega))) (by first | (simp only [packA_t, packA_f, iE, bE, setAt, cellsA, Value.cells, map_vc, map_vn, Nat.reduceAdd, qS] <;> rfl) | rfl)) ⟨_, rfl, (up_m rfl hb_19)⟩ rfl ?_
                      refine al_ro' (ro_call (evL_cons up_h evL_nil) rfl (rCheckSystem_ok b d v) k13_hcf37) ⟨_, rfl, (up_m rfl (up_m rfl hb_19))⟩ rfl ?_
                      refine al_ro' (ro_neq (up_m rfl (up_m rfl up_h)) up_h) ⟨_, rfl, (up_m rfl (up_m rfl (up_m rfl hb_19)))⟩ rfl ?_
                      refine al_ro' (ro_pickF (up_m rfl (up_m rfl (up_m rfl (up_m rfl hb_19)))) up_h) trivial rfl ?_
                      refine al_end (fun e_23 he_23 => ?_)
                      have s2_23 : evA e_23 (.tmp 2) = _ := (congrArg (fun q => evA q (.tmp 2)) he_23).trans (up_m rfl (up_m rfl (up_m rfl (up_m rfl (up_m rfl (up_m rfl (up_m rfl (up_m rfl (up_m rfl (up_m rfl (up_m rfl (up_m rfl (up_m rfl (up_m rfl s2_14))))))))))))))
                      have s8_23 : evA e_23 (.tmp 8) = _ := (congrArg (fun q => evA q (.tmp 8)) he_23).trans (up_m rfl (up_m rfl (up_m rfl (up_m rfl (up_m rfl (up_m rfl (up_m rfl (up_m rfl (up_m rfl (up_m rfl (up_m rfl (up_m rfl (up_m rfl (up_m rfl s8_14))))))))))))))
                      have s9_23 : evA e_23 (.tmp 9) = _ := (congrArg (fun q => evA q (.tmp 9)) he_23).trans (up_m rfl (up_m rfl (up_m rfl (up_m rfl (up_m rfl (up_m rfl (up_m rfl (up_m rfl (up_m rfl (up_m rfl (up_m rfl (up_m rfl (up_m rfl (up_m rfl s9_14))))))))))))))
                      have s10_23 : evA e_23 (.tmp 10) = _ := (congrArg (fun q => evA q (.tmp 10)) he_23).trans (up_m rfl (up_m rfl (up_m rfl (up_m rfl (up_m rfl (up_m rfl (up_m rfl (up_m rfl (up_m rfl (up_m rfl (up_m rfl (up_m rfl (up_m rfl (up_m rfl s10_14))))))))))))))
                      have s11_23 : evA e_23 (.tmp 11) = _ := (congrArg (fun q => evA q (.tmp 11)) he_23).trans (up_m rfl (up_m rfl (up_m rfl (up_m rfl (up_m rfl (up_m rfl (up_m rfl (up_m rfl (up_m rfl (up_m rfl (up_m rfl (up_m rfl (up_m rfl (up_m rfl s11_14))))))))))))))
                      have s13_23 : evA e_23 (.tmp 13) = _ := (congrArg (fun q => evA q (.tmp 13)) he_23).trans (up_m rfl (up_m rfl (up_m rfl (up_m rfl (up_m rfl (up_m rfl (up_m rfl (up_m rfl (up_m rfl (up_m rfl (up_m rfl (up_m rfl (up_m rfl (up_m rfl s13_14))))))))))))))
                      have s57_23 : evA e_23 (.tmp 57) = _ := (congrArg (fun q => evA q (.tmp 57)) he_23).trans up_h
                      clear he_23 hb_15 hb_19 s10_14 s11_14 s12_14 s13_14 s2_14 s3_14 s5_14 s6_14 s7_14 s8_14 s9_14
                      refine then_n ?_
                      refine aw_case s57_23 (fun hq_24 => ?_) (fun hq_24 => ?_)
                      · first
                        | (cases hq_24; done) | ((first | replace hq_24 := bnt hq_24 | replace hq_24 := bnf hq_24 | replace hq_24 := bt hq_24 | replace hq_24 := bf hq_24 | replace hq_24 := bt' hq_24 | replace hq_24 := bf' hq_24 | skip); exfalso; omega)
                        | ((first | replace hq_24 := bnt hq_24 | replace hq_24 := bnf hq_24 | replace hq_24 := bt hq_24 | replace hq_24 := bf hq_24 | replace hq_24 := bt' hq_24 | replace hq_24 := bf' hq_24 | skip)
                           refine aw_seq ?_
                           refine aw_text ?_
                           refine al_ro' (ro_assign ev_c) trivial rfl ?_
                           refine al_end (fun e_25 he_25 => ?_)
                           have s4_25 : evA e_25 (.tmp 4) = _ := (congrArg (fun q => evA q (.tmp 4)) he_25).trans up_h
                           clear he_25 s10_23 s11_23 s13_23 s2_23 s57_23 s8_23 s9_23
                           refine then_n ?_
                           refine aw_ret ?_
                           refine then_r ?_
                           refine ret1 (.inr rfl) (by kernel_rfl) (resV_tmp s4_25) (.ro _ rfl) ?_
                           clear s4_25 mo1_2 mo0_2 ml_2
                           first | rfl | (simp; done) | (simp_all; done) | omega)
                      · first
                        | (cases hq_24; done) | ((first | replace hq_24 := bnt hq_24 | replace hq_24 := bnf hq_24 | replace hq_24 := bt hq_24 | replace hq_24 := bf hq_24 | replace hq_24 := bt' hq_24 | replace hq_24 := bf' hq_24 | skip); exfalso; omega)
                        | ((first | replace hq_24 := bnt hq_24 | replace hq_24 := bnf hq_24 | replace hq_24 := bt hq_24 | replace hq_24 := bf hq_24 | replace hq_24 := bt' hq_24 | replace hq_24 := bf' hq_24 | skip)
                           refine aw_skip ?_
                           refine then_n ?_
                           refine aw_seq ?_
                           refine aw_seq ?_
                           refine aw_text ?_
                           refine al_ro' (ro_move s13_23) trivial rfl ?_
                           refine al_ro' (ro_neq up_h ev_c) trivial rfl ?_
                           refine al_end (fun e_26 he_26 => ?_)
                           have s2_26 : evA e_26 (.tmp 2) = _ := (congrArg (fun q => evA q (.tmp 2)) he_26).trans (up_m rfl (up_m rfl s2_23))
                           have s8_26 : evA e_26 (.tmp 8) = _ := (congrArg (fun q => evA q (.tmp 8)) he_26).trans (up_m rfl (up_m rfl s8_23))
                           have s9_26 : evA e_26 (.tmp 9) = _ := (congrArg (fun q => evA q (.tmp 9)) he_26).trans (up_m rfl (up_m rfl s9_23))
                           have s10_26 : evA e_26 (.tmp 10) = _ := (congrArg (fun q => evA q (.tmp 10)) he_26).trans (up_m rfl (up_m rfl s10_23))
                           have s11_26 : evA e_26 (.tmp 11) = _ := (congrArg (fun q => evA q (.tmp 11)) he_26).trans (up_m rfl (up_m rfl s11_23))
                           have s13_26 : evA e_26 (.tmp 13) = _ := (congrArg (fun q => evA q (.tmp 13)) he_26).trans (up_m rfl (up_m rfl s13_23))
                           have s59_26 : evA e_26 (.tmp 59) = _ := (congrArg (fun q => evA q (.tmp 59)) he_26).trans up_h
                           clear he_26 s10_23 s11_23 s13_23 s2_23 s57_23 s8_23 s9_23
                           refine then_n ?_
                           refine aw_case s59_26 (fun hq_27 => ?_) (fun hq_27 => ?_)
                           · first
                             | (cases hq_27; done) | ((first | replace hq_27 := bnt hq_27 | replace hq_27 := bnf hq_27 | replace hq_27 := bt hq_27 | replace hq_27 := bf hq_27 | replace hq_27 := bt' hq_27 | replace hq_27 := bf' hq_27 | skip); exfalso; omega)
                             | ((first | replace hq_27 := bnt hq_27 | replace hq_27 := bnf hq_27 | replace hq_27 := bt hq_27 | replace hq_27 := bf hq_27 | replace hq_27 := bt' hq_27 | replace hq_27 := bf' hq_27 | skip)
                                (have hq : ¬ (chk nm ps).2 = 0 := (by assumption); have hz1 : (if (chk nm ps).2 = 0 then plW ps ps.length else []).length = 0 := (by rw [if_neg hq]; rfl); have hz2 : (if (chk nm ps).2 = 0 then liW ps (ps.length + 1) else []).length = 0 := (by rw [if_neg hq]; rfl))
                                refine aw_seq ?_
                                refine aw_text ?_
                                refine al_ro' (ro_move s9_26) trivial rfl ?_
                                refine al_ro' (ro_move (up_m rfl s13_26)) trivial rfl ?_
                                refine al_ro' (ro_eql (up_m rfl up_h) up_h) trivial rfl ?_
                                refine al_ro' (ro_move up_h) trivial rfl ?_
                                refine al_case up_h (fun hb_28 hq_28 => ?_) (fun hb_28 hq_28 => ?_)
                                · first
                                  | (cases hq_28; done) | ((first | replace hq_28 := bnt hq_28 | replace hq_28 := bnf hq_28 | replace hq_28 := bt hq_28 | replace hq_28 := bf hq_28 | replace hq_28 := bt' hq_28 | replace hq_28 := bf' hq_28 | skip); exfalso; omega)
                                  | ((first | replace hq_28 := bnt hq_28 | replace hq_28 := bnf hq_28 | replace hq_28 := bt hq_28 | replace hq_28 := bf hq_28 | replace hq_28 := bt' hq_28 | replace hq_28 := bf' hq_28 | skip)
                                     refine al_ro' (ro_move (up_m rfl (up_m rfl (up_m rfl (up_m rfl s11_26))))) ⟨_, rfl, hb_28⟩ rfl ?_
                                     refine al_ro' (ro_move (up_m rfl (up_m rfl (up_m rfl (up_m rfl (up_m rfl s13_26)))))) ⟨_, rfl, (up_m rfl hb_28)⟩ rfl ?_
                                     refine al_ro' (ro_eql (up_m rfl up_h) up_h) ⟨_, rfl, (up_m rfl (up_m rfl hb_28))⟩ rfl ?_
                                     refine al_ro' (ro_pickT (up_m rfl (up_m rfl (up_m rfl hb_28))) up_h) trivial rfl ?_
                                     refine al_ro' (ro_move up_h) trivial rfl ?_
                                     refine al_case up_h (fun hb_29 hq_29 => ?_) (fun hb_29 hq_29 => ?_)
                                     · first
                                       | (cases hq_29; done) | ((first | replace hq_29 := bnt hq_29 | replace hq_29 := bnf hq_29 | replace hq_29 := bt hq_29 | replace hq_29 := bf hq_29 | replace hq_29 := bt' hq_29 | replace hq_29 := bf' hq_29 | skip); exfalso; omega)
                                       | ((first | replace hq_29 := bnt hq_29 | replace hq_29 := bnf hq_29 | replace hq_29 := bt hq_29 | replace hq_29 := bf hq_29 | replace hq_29 := bt' hq_29 | replace hq_29 := bf' hq_29 | skip)
                                          refine al_ro' (ro_move (up_m rfl (up_m rfl (up_m rfl (up_m rfl (up_m rfl (up_m rfl (up_m rfl (up_m rfl (up_m rfl s8_26)))))))))) ⟨_, rfl, hb_29⟩ rfl ?_
                                          refine al_ro' (ro_eq (ro_len_row up_h rfl k13_sl30.1) (by first | (simp only [lnS] <;> rfl) | rfl)) ⟨_, rfl, (up_m rfl hb_29)⟩ rfl ?_
                                          refine al_ro' (ro_move (up_m rfl (up_m rfl (up_m rfl (up_m rfl (up_m rfl (up_m rfl (up_m rfl (up_m rfl (up_m rfl (up_m rfl (up_m rfl s10_26)))))))))))) ⟨_, rfl, (up_m rfl (up_m rfl hb_29))⟩ rfl ?_
                                          refine al_ro' (ro_eq (ro_len_row up_h rfl k13_sl30.1) (by first | (simp only [lnS] <;> rfl) | rfl)) ⟨_, rfl, (up_m rfl (up_m rfl (up_m rfl hb_29)))⟩ rfl ?_
                                          first | (refine al_ro' (ro_add' (up_m rfl (up_m rfl up_h)) up_h ?_) ⟨_, rfl, (up_m rfl (up_m rfl (up_m rfl (up_m rfl hb_29))))⟩ rfl ?_; · (unfold In64; omega)) | refine al_ro' (ro_add (up_m rfl (up_m rfl up_h)) up_h) ⟨_, rfl, (up_m rfl (up_m rfl (up_m rfl (up_m rfl hb_29))))⟩ rfl ?_
                                          refine al_ro' (ro_eql up_h ev_c) ⟨_, rfl, (up_m rfl (up_m rfl (up_m rfl (up_m rfl (up_m rfl hb_29)))))⟩ rfl ?_
                                          refine al_ro' (ro_pickT (up_m rfl (up_m rfl (up_m rfl (up_m rfl (up_m rfl (up_m rfl hb_29)))))) up_h) trivial rfl ?_
                                          refine al_ro' (ro_assign up_h) trivial rfl ?_
                                          refine al_end (fun e_30 he_30 => ?_)
                                          have s4_30 : evA e_30 (.tmp 4) = _ := (congrArg (fun q => evA q (.tmp 4)) he_30).trans up_h
                                          clear he_30 hb_28 hb_29 s10_26 s11_26 s13_26 s2_26 s59_26 s8_26 s9_26
                                          refine then_n ?_
                                          refine aw_ret ?_
                                          refine then_r ?_
                                          refine ret1 (.inr rfl) (by kernel_rfl) (resV_tmp s4_30) (.ro _ rfl) ?_
                                          clear s4_30 mo1_2 mo0_2 ml_2
                                          first | rfl | (simp; done) | (simp_all; done) | omega)
                                     · first
                                       | (cases hq_29; done) | ((first | replace hq_29 := bnt hq_29 | replace hq_29 := bnf hq_29 | replace hq_29 := bt hq_29 | replace hq_29 := bf hq_29 | replace hq_29 := bt' hq_29 | replace hq_29 := bf' hq_29 | skip); exfalso; omega)
                                       | ((first | replace hq_29 := bnt hq_29 | replace hq_29 := bnf hq_29 | replace hq_29 := bt hq_29 | replace hq_29 := bf hq_29 | replace hq_29 := bt' hq_29 | replace hq_29 := bf' hq_29 | skip)
                                          refine al_skip' ⟨_, rfl, .inl hb_29⟩ rfl ?_
                                          refine al_skip' ⟨_, rfl, .inl (up_m rfl hb_29)⟩ rfl ?_
                                          refine al_skip' ⟨_, rfl, .inl (up_m rfl (up_m rfl hb_29))⟩ rfl ?_
                                          refine al_skip' ⟨_, rfl, .inl (up_m rfl (up_m rfl (up_m rfl hb_29)))⟩ rfl ?_
                                          refine al_skip' ⟨_, rfl, .inl (up_m rfl (up_m rfl (up_m rfl (up_m rfl hb_29))))⟩ rfl ?_
                                          refine al_skip' ⟨_, rfl, .inl (up_m rfl (up_m rfl (up_m rfl (up_m rfl (up_m rfl hb_29)))))⟩ rfl ?_
                                          refine al_ro' (ro_pickF (up_m rfl (up_m rfl (up_m rfl (up_m rfl (up_m rfl (up_m rfl hb_29)))))) ev_c) trivial rfl ?_
                                          refine al_ro' (ro_assign up_h) trivial rfl ?_
                                          refine al_end (fun e_31 he_31 => ?_)
                                          have s4_31 : evA e_31 (.tmp 4) = _ := (congrArg (fun q => evA q (.tmp 4)) he_31).trans up_h
                                          clear he_31 hb_28 hb_29 s10_26 s11_26 s13_26 s2_26 s59_26 s8_26 s9_26
                                          refine then_n ?_
                                          refine aw_ret ?_
                                          refine then_r ?_
                                          refine ret1 (.inr rfl) (by kernel_rfl) (resV_tmp s4_31) (.ro _ rfl) ?_
                                          clear s4_31 mo1_2 mo0_2 ml_2
                                          first | rfl | (simp; done) | (simp_all; done) | omega))
                                · first
                                  | (cases hq_28; done) | ((first | replace hq_28 := bnt hq_28 | replace hq_28 := bnf hq_28 | replace hq_28 := bt hq_28 | replace hq_28 := bf hq_28 | replace hq_28 := bt' hq_28 | replace hq_28 := bf' hq_28 | skip); exfalso; omega)
                                  | ((first | replace hq_28 := bnt hq_28 | replace hq_28 := bnf hq_28 | replace hq_28 := bt hq_28 | replace hq_28 := bf hq_28 | replace hq_28 := bt' hq_28 | replace hq_28 := bf' hq_28 | skip)
                                     refine al_skip' ⟨_, rfl, .inl hb_28⟩ rfl ?_
                                     refine al_skip' ⟨_, rfl, .inl (up_m rfl hb_28)⟩ rfl ?_
                                     refine al_skip' ⟨_, rfl, .inl (up_m rfl (up_m rfl hb_28))⟩ rfl ?_
                                     refine al_ro' (ro_pickF (up_m rfl (up_m rfl (up_m rfl hb_28))) ev_c) trivial rfl ?_
                                     refine al_ro' (ro_move up_h) trivial rfl ?_
                                     refine al_skip' ⟨_, rfl, .inl up_h⟩ rfl ?_
                                     refine al_skip' ⟨_, rfl, .inl (up_m rfl up_h)⟩ rfl ?_
                                     refine al_skip' ⟨_, rfl, .inl (up_m rfl (up_m rfl up_h))⟩ rfl ?_
                                     refine al_skip' ⟨_, rfl, .inl (up_m rfl (up_m rfl (up_m rfl up_h)))⟩ rfl ?_
                                     refine al_skip' ⟨_, rfl, .inl (up_m rfl (up_m rfl (up_m rfl (up_m rfl up_h))))⟩ rfl ?_
                                     refine al_skip' ⟨_, rfl, .inl (up_m rfl (up_m rfl (up_m rfl (up_m rfl (up_m rfl up_h)))))⟩ rfl ?_
                                     refine al_ro' (ro_pickF (up_m rfl (up_m rfl (up_m rfl (up_m rfl (up_m rfl (up_m rfl up_h)))))) ev_c) trivial rfl ?_
                                     refine al_ro' (ro_assign up_h) trivial rfl ?_
                                     refine al_end (fun e_32 he_32 => ?_)
                                     have s4_32 : evA e_32 (.tmp 4) = _ := (congrArg (fun q => evA q (.tmp 4)) he_32).trans up_h
                                     clear he_32 hb_28 s10_26 s11_26 s13_26 s2_26 s59_26 s8_26 s9_26
                                     refine then_n ?_
                                     refine aw_ret ?_
                                     refine then_r ?_
                                     refine ret1 (.inr rfl) (by kernel_rfl) (resV_tmp s4_32) (.ro _ rfl) ?_
                                     clear s4_32 mo1_2 mo0_2 ml_2
                                     first | rfl | (simp; done) | (simp_all; done) | omega))
                           · first
                             | (cases hq_27; done) | ((first | replace hq_27 := bnt hq_27 | replace hq_27 := bnf hq_27 | replace hq_27 := bt hq_27 | replace hq_27 := bf hq_27 | replace hq_27 := bt' hq_27 | replace hq_27 := bf' hq_27 | skip); exfalso; omega)
                             | ((first | replace hq_27 := bnt hq_27 | replace hq_27 := bnf hq_27 | replace hq_27 := bt hq_27 | replace hq_27 := bf hq_27 | replace hq_27 := bt' hq_27 | replace hq_27 := bf' hq_27 | skip)
                                (have hq : (chk nm ps).2 = 0 := (by assumption); have hR := chk_right hq)
                                refine aw_skip ?_
                                refine then_n ?_
                                refine aw_seq ?_
                                refine aw_text ?_
                                refine al_ro' (ro_move s9_26) trivial rfl ?_
                                refine al_ro' (ro_eql up_h ev_c) trivial rfl ?_
                                refine al_ro' (ro_move up_h) trivial rfl ?_
                                refine al_case up_h (fun hb_33 hq_33 => ?_) (fun hb_33 hq_33 => ?_)
                                · first
                                  | (cases hq_33; done) | ((first | replace hq_33 := bnt hq_33 | replace hq_33 := bnf hq_33 | replace hq_33 := bt hq_33 | replace hq_33 := bf hq_33 | replace hq_33 := bt' hq_33 | replace hq_33 := bf' hq_33 | skip); exfalso; omega)
                                  | ((first | replace hq_33 := bnt hq_33 | replace hq_33 := bnf hq_33 | replace hq_33 := bt hq_33 | replace hq_33 := bf hq_33 | replace hq_33 := bt' hq_33 | replace hq_33 := bf' hq_33 | skip)
                                     refine al_ro' (ro_move (up_m rfl (up_m rfl (up_m rfl s8_26)))) ⟨_, rfl, hb_33⟩ rfl ?_
                                     refine al_ro' (ro_eq (ro_ld_ptr k13_ty24 rfl mo0_2 (up_m rfl (up_m rfl (up_m rfl (up_m rfl s2_26)))) (by first | exact Nat.le_of_ble_eq_true rfl | omega | (simp only [lnS] <;> omega) | (simp <;> omega))) (by first | (simp only [packA_t, packA_f, iE, bE, setAt, cellsA, Value.cells, map_vc, map_vn, Nat.reduceAdd, qS] <;> rfl) | rfl)) ⟨_, rfl, (up_m rfl hb_33)⟩ rfl ?_
                                     refine al_ro' (ro_call (evL_cons up_h evL_nil) rfl (rPlaces_ok nm ps hR.1 (by have := hR.2; omega)) k13_hcf38) ⟨_, rfl, (up_m rfl (up_m rfl hb_33))⟩ rfl ?_
                                     refine al_ro' (ro_call (evL_cons (up_m rfl (up_m rfl up_h)) (evL_cons up_h evL_nil)) rfl (ints_ok _ _ (by rw [if_pos hq, plW_len]; omega) (by rw [plW_len]; omega)) k13_hcf22) ⟨_, rfl, (up_m rfl (up_m rfl (up_m rfl hb_33)))⟩ rfl ?_
                                     refine al_ro' (ro_pickT (up_m rfl (up_m rfl (up_m rfl (up_m rfl hb_33)))) up_h) trivial rfl ?_
                                     refine al_ro' (ro_move up_h) trivial rfl ?_
                                     refine al_case up_h (fun hb_34 hq_34 => ?_) (fun hb_34 hq_34 => ?_)
                                     · first
                                       | (cases hq_34; done) | ((first | replace hq_34 := bnt hq_34 | replace hq_34 := bnf hq_34 | replace hq_34 := bt hq_34 | replace hq_34 := bf hq_34 | replace hq_34 := bt' hq_34 | replace hq_34 := bf' hq_34 | skip); exfalso; omega)
                                       | ((first | replace hq_34 := bnt hq_34 | replace hq_34 := bnf hq_34 | replace hq_34 := bt hq_34 | replace hq_34 := bf hq_34 | replace hq_34 := bt' hq_34 | replace hq_34 := bf' hq_34 | skip)
                                          refine al_ro' (ro_move (up_m rfl (up_m rfl (up_m rfl (up_m rfl (up_m rfl (up_m rfl (up_m rfl (up_m rfl (up_m rfl s11_26)))))))))) ⟨_, rfl, hb_34⟩ rfl ?_
                                          refine al_ro' (ro_eql up_h ev_c) ⟨_, rfl, (up_m rfl hb_34)⟩ rfl ?_
                                          refine al_ro' (ro_pickT (up_m rfl (up_m rfl hb_34)) up_h) trivial rfl ?_
                                          refine al_ro' (ro_move up_h) trivial rfl ?_
                                          refine al_case up_h (fun hb_35 hq_35 => ?_) (fun hb_35 hq_35 => ?_)
                                          · first
                                            | (cases hq_35; done) | ((first | replace hq_35 := bnt hq_35 | replace hq_35 := bnf hq_35 | replace hq_35 := bt hq_35 | replace hq_35 := bf hq_35 | replace hq_35 := bt' hq_35 | replace hq_35 := bf' hq_35 | skip); exfalso; omega)
                                            | ((first | replace hq_35 := bnt hq_35 | replace hq_35 := bnf hq_35 | replace hq_35 := bt hq_35 | replace hq_35 := bf hq_35 | replace hq_35 := bt' hq_35 | replace hq_35 := bf' hq_35 | skip)
                                               refine al_ro' (ro_move (up_m rfl (up_m rfl (up_m rfl (up_m rfl (up_m rfl (up_m rfl (up_m rfl (up_m rfl (up_m rfl (up_m rfl (up_m rfl (up_m rfl (up_m rfl s10_26)))))))))))))) ⟨_, rfl, hb_35⟩ rfl ?_
                                               refine al_ro' (ro_eq (ro_ld_ptr k13_ty24 rfl mo0_2 (up_m rfl (up_m rfl (up_m rfl (up_m rfl (up_m rfl (up_m rfl (up_m rfl (up_m rfl (up_m rfl (up_m rfl (up_m rfl (up_m rfl (up_m rfl (up_m rfl s2_26)))))))))))))) (by first | exact Nat.le_of_ble_eq_true rfl | omega | (simp only [lnS] <;> omega) | (simp <;> omega))) (by first | (simp only [packA_t, packA_f, iE, bE, setAt, cellsA, Value.cells, map_vc, map_vn, Nat.reduceAdd, qS] <;> rfl) | rfl)) ⟨_, rfl, (up_m rfl hb_35)⟩ rfl ?_
                                               refine al_ro' (ro_call (evL_cons up_h evL_nil) rfl (rLimitsAt_ok nm ps hR.1 (by have := hR.2; omega) (by have := hR.2; omega)) k13_hcf39) ⟨_, rfl, (up_m rfl (up_m rfl hb_35))⟩ rfl ?_
                                               refine al_ro' (ro_call (evL_cons (up_m rfl (up_m rfl up_h)) (evL_cons up_h evL_nil)) rfl (ints_ok _ _ (by rw [if_pos hq, liW_len]; omega) (by rw [liW_len]; omega)) k13_hcf22) ⟨_, rfl, (up_m rfl (up_m rfl (up_m rfl hb_35)))⟩ rfl ?_
                                               refine al_ro' (ro_pickT (up_m rfl (up_m rfl (up_m rfl (up_m rfl hb_35)))) up_h) trivial rfl ?_
                                               refine al_ro' (ro_assign up_h) trivial rfl ?_
                                               refine al_end (fun e_36 he_36 => ?_)
                                               have s4_36 : evA e_36 (.tmp 4) = _ := (congrArg (fun q => evA q (.tmp 4)) he_36).trans up_h
                                               clear he_36 hb_33 hb_34 hb_35 s10_26 s11_26 s13_26 s2_26 s59_26 s8_26 s9_26
                                               refine then_n ?_
                                               refine aw_ret ?_
                                               refine ret1 (.inr rfl) (by kernel_rfl) (resV_tmp s4_36) (.ro _ rfl) ?_
                                               clear s4_36 mo1_2 mo0_2 ml_2
                                               first | rfl | (simp; done) | (simp_all; done) | omega)
                                          · first
                                            | (cases hq_35; done) | ((first | replace hq_35 := bnt hq_35 | replace hq_35 := bnf hq_35 | replace hq_35 := bt hq_35 | replace hq_35 := bf hq_35 | replace hq_35 := bt' hq_35 | replace hq_35 := bf' hq_35 | skip); exfalso; omega)
                                            | ((first | replace hq_35 := bnt hq_35 | replace hq_35 := bnf hq_35 | replace hq_35 := bt hq_35 | replace hq_35 := bf hq_35 | replace hq_35 := bt' hq_35 | replace hq_35 := bf' hq_35 | skip)
                                               refine al_skip' ⟨_, rfl, .inl hb_35⟩ rfl ?_
                                               refine al_skip' ⟨_, rfl, .inl (up_m rfl hb_35)⟩ rfl ?_
                                               refine al_skip' ⟨_, rfl, .inl (up_m rfl (up_m rfl hb_35))⟩ rfl ?_
                                               refine al_skip' ⟨_, rfl, .inl (up_m rfl (up_m rfl (up_m rfl hb_35)))⟩ rfl ?_
                                               refine al_ro' (ro_pickF (up_m rfl (up_m rfl (up_m rfl (up_m rfl hb_35)))) ev_c) trivial rfl ?_
                                               refine al_ro' (ro_assign up_h) trivial rfl ?_
                                               refine al_end (fun e_37 he_37 => ?_)
                                               have s4_37 : evA e_37 (.tmp 4) = _ := (congrArg (fun q => evA q (.tmp 4)) he_37).trans up_h
                                               clear he_37 hb_33 hb_34 hb_35 s10_26 s11_26 s13_26 s2_26 s59_26 s8_26 s9_26
                                               refine then_n ?_
                                               refine aw_ret ?_
                                               refine ret1 (.inr rfl) (by kernel_rfl) (resV_tmp s4_37) (.ro _ rfl) ?_
                                               clear s4_37 mo1_2 mo0_2 ml_2
                                               first | rfl | (simp; done) | (simp_all; done) | omega))
                                     · first
                                       | (cases hq_34; done) | ((first | replace hq_34 := bnt hq_34 | replace hq_34 := bnf hq_34 | replace hq_34 := bt hq_34 | replace hq_34 := bf hq_34 | replace hq_34 := bt' hq_34 | replace hq_34 := bf' hq_34 | skip); exfalso; omega)
                                       | ((first | replace hq_34 := bnt hq_34 | replace hq_34 := bnf hq_34 | replace hq_34 := bt hq_34 | replace hq_34 := bf hq_34 | replace hq_34 := bt' hq_34 | replace hq_34 := bf' hq_34 | skip)
                                          refine al_skip' ⟨_, rfl, .inl hb_34⟩ rfl ?_
                                          refine al_skip' ⟨_, rfl, .inl (up_m rfl hb_34)⟩ rfl ?_
                                          refine al_ro' (ro_pickF (up_m rfl (up_m rfl hb_34)) ev_c) trivial rfl ?_
                                          refine al_ro' (ro_move up_h) trivial rfl ?_
                                          refine al_skip' ⟨_, rfl, .inl up_h⟩ rfl ?_
                                          refine al_skip' ⟨_, rfl, .inl (up_m rfl up_h)⟩ rfl ?_
                                          refine al_skip' ⟨_, rfl, .inl (up_m rfl (up_m rfl up_h))⟩ rfl ?_
                                          refine al_skip' ⟨_, rfl, .inl (up_m rfl (up_m rfl (up_m rfl up_h)))⟩ rfl ?_
                                          refine al_ro' (ro_pickF (up_m rfl (up_m rfl (up_m rfl (up_m rfl up_h)))) ev_c) trivial rfl ?_
                                          refine al_ro' (ro_assign up_h) trivial rfl ?_
                                          refine al_end (fun e_38 he_38 => ?_)
                                          have s4_38 : evA e_38 (.tmp 4) = _ := (congrArg (fun q => evA q (.tmp 4)) he_38).trans up_h
                                          clear he_38 hb_33 hb_34 s10_26 s11_26 s13_26 s2_26 s59_26 s8_26 s9_26
                                          refine then_n ?_
                                          refine aw_ret ?_
                                          refine ret1 (.inr rfl) (by kernel_rfl) (resV_tmp s4_38) (.ro _ rfl) ?_
                                          clear s4_38 mo1_2 mo0_2 ml_2
                                          first | rfl | (simp; done) | (simp_all; done) | omega))
                                · first
                                  | (cases hq_33; done) | ((first | replace hq_33 := bnt hq_33 | replace hq_33 := bnf hq_33 | replace hq_33 := bt hq_33 | replace hq_33 := bf hq_33 | replace hq_33 := bt' hq_33 | replace hq_33 := bf' hq_33 | skip); exfalso; omega)
                                  | ((first | replace hq_33 := bnt hq_33 | replace hq_33 := bnf hq_33 | replace hq_33 := bt hq_33 | replace hq_33 := bf hq_33 | replace hq_33 := bt' hq_33 | replace hq_33 := bf' hq_33 | skip)
                                     refine al_skip' ⟨_, rfl, .inl hb_33⟩ rfl ?_
                                     refine al_skip' ⟨_, rfl, .inl (up_m rfl hb_33)⟩ rfl ?_
                                     refine al_skip' ⟨_, rfl, .inl (up_m rfl (up_m rfl hb_33))⟩ rfl ?_
                                     refine al_skip' ⟨_, rfl, .inl (up_m rfl (up_m rfl (up_m rfl hb_33)))⟩ rfl ?_
                                     refine al_ro' (ro_pickF (up_m rfl (up_m rfl (up_m rfl (up_m rfl hb_33)))) ev_c) trivial rfl ?_
                                     refine al_ro' (ro_move up_h) trivial rfl ?_
                                     refine al_skip' ⟨_, rfl, .inl up_h⟩ rfl ?_
                                     refine al_skip' ⟨_, rfl, .inl (up_m rfl up_h)⟩ rfl ?_
                                     refine al_ro' (ro_pickF (up_m rfl (up_m rfl up_h)) ev_c) trivial rfl ?_
                                     refine al_ro' (ro_move up_h) trivial rfl ?_
                                     refine al_skip' ⟨_, rfl, .inl up_h⟩ rfl ?_
                                     refine al_skip' ⟨_, rfl, .inl (up_m rfl up_h)⟩ rfl ?_
                                     refine al_skip' ⟨_, rfl, .inl (up_m rfl (up_m rfl up_h))⟩ rfl ?_
                                     refine al_skip' ⟨_, rfl, .inl (up_m rfl (up_m rfl (up_m rfl up_h)))⟩ rfl ?_
                                     refine al_ro' (ro_pickF (up_m rfl (up_m rfl (up_m rfl (up_m rfl up_h)))) ev_c) trivial rfl ?_
                                     refine al_ro' (ro_assign up_h) trivial rfl ?_
                                     refine al_end (fun e_39 he_39 => ?_)
                                     have s4_39 : evA e_39 (.tmp 4) = _ := (congrArg (fun q => evA q (.tmp 4)) he_39).trans up_h
                                     clear he_39 hb_33 s10_26 s11_26 s13_26 s2_26 s59_26 s8_26 s9_26
                                     refine then_n ?_
                                     refine aw_ret ?_
                                     refine ret1 (.inr rfl) (by kernel_rfl) (resV_tmp s4_39) (.ro _ rfl) ?_
                                     clear s4_39 mo1_2 mo0_2 ml_2
                                     first | rfl | (simp; done) | (simp_all; done) | omega)))))))
end Go.Proofs.Ytelgkjekpcfffaa
