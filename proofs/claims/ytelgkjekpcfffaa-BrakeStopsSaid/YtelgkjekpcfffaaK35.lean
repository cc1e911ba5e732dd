/- Contracts of chapter 5: StopsOf, GreatestAt, FirstUnsafe. No conditions on a program. -/
import Derived.Test.YtelgkjekpcfffaaK34
import Derived.Test.YtelgkjekpcfffaaK10
import Derived.Test.YtelgkjekpcfffaaK18
import Derived.Test.YtelgkjekpcfffaaK25
namespace Go.Proofs.Ytelgkjekpcfffaa
open Go Go.RowKit Go.Proofs
set_option linter.unusedSimpArgs false
set_option linter.unusedVariables false
theorem k35_az103 : (Try.prog.info? 103).bind (·.zero) = some (.agg #[.string ByteArray.empty, .slice none 0 0, .int .i64 0, .int .i64 0, .int .i64 0]) := by kernel_rfl
theorem k35_az3 : (Try.prog.info? 3).bind (·.zero) = some (.int .i64 0) := by kernel_rfl
theorem k35_bz42 : (Try.prog.info? 42).bind (·.zero) = some (.agg #[.int .i64 0, .int .i64 0]) := by kernel_rfl
theorem k35_bu42 : Try.prog.underlying 42 = some (.struct (fsOf Try.prog 42)) := by kernel_rfl
theorem k35_bp42 : ∀ w, ((fsOf Try.prog 42).mapM fun f => Prod.mk f.offset <$> sizeOf f.type : Sem (Array (Nat × Nat))).run Try.prog w = .ok (#[(0, 1), (1, 1)]) w := fun _ => by kernel_rfl
theorem k35_fl103_0 : FldIs Try.prog 103 0 0 true 2 := by unfold FldIs; kernel_rfl
theorem k35_fl42_0 : FldIs Try.prog 42 0 0 false 1 := by unfold FldIs; kernel_rfl
theorem k35_fl42_1 : FldIs Try.prog 42 1 1 false 1 := by unfold FldIs; kernel_rfl
theorem k35_hcf62 : ∀ args w, (callFunc 62 args).run Try.prog w = .ok (.enter 62 args) w := fun _ _ => by kernel_rfl
theorem k35_hcf63 : ∀ args w, (callFunc 63 args).run Try.prog w = .ok (.enter 63 args) w := fun _ _ => by kernel_rfl
theorem k35_hcf64 : ∀ args w, (callFunc 64 args).run Try.prog w = .ok (.enter 64 args) w := fun _ _ => by kernel_rfl
theorem k35_hcf68 : ∀ args w, (callFunc 68 args).run Try.prog w = .ok (.enter 68 args) w := fun _ _ => by kernel_rfl
theorem k35_hcf72 : ∀ args w, (callFunc 72 args).run Try.prog w = .ok (.enter 72 args) w := fun _ _ => by kernel_rfl
theorem k35_hcf74 : ∀ args w, (callFunc 74 args).run Try.prog w = .ok (.enter 74 args) w := fun _ _ => by kernel_rfl
theorem k35_hcf77 : ∀ args w, (callFunc 77 args).run Try.prog w = .ok (.enter 77 args) w := fun _ _ => by kernel_rfl
theorem k35_hcf81 : ∀ args w, (callFunc 81 args).run Try.prog w = .ok (.enter 81 args) w := fun _ _ => by kernel_rfl
theorem k35_hcf86 : ∀ args w, (callFunc 86 args).run Try.prog w = .ok (.enter 86 args) w := fun _ _ => by kernel_rfl
theorem k35_hcf87 : ∀ args w, (callFunc 87 args).run Try.prog w = .ok (.enter 87 args) w := fun _ _ => by kernel_rfl
theorem k35_hcf98 : ∀ args w, (callFunc 98 args).run Try.prog w = .ok (.enter 98 args) w := fun _ _ => by kernel_rfl
theorem k35_sl133 : SlIs Try.prog 133 31 1 8 (.int .i64 0) := ⟨by kernel_rfl, by kernel_rfl, by kernel_rfl⟩
theorem k35_sl30 : SlIs Try.prog 30 3 1 8 (.int .i64 0) := ⟨by kernel_rfl, by kernel_rfl, by kernel_rfl⟩
theorem k35_sz103 : (Try.prog.info? 103).map (·.size) = some 5 := by kernel_rfl
theorem k35_sz3 : (Try.prog.info? 3).map (·.size) = some 1 := by kernel_rfl
theorem k35_ty101 : TyIs Try.prog 101 true 2 := ⟨by kernel_rfl, by kernel_rfl⟩
theorem k35_ty103 : TyIs Try.prog 103 true 5 := ⟨by kernel_rfl, by kernel_rfl⟩
theorem k35_ty24 : TyIs Try.prog 24 true 2 := ⟨by kernel_rfl, by kernel_rfl⟩
theorem k35_ty26 : TyIs Try.prog 26 true 3 := ⟨by kernel_rfl, by kernel_rfl⟩
theorem k35_ty3 : TyIs Try.prog 3 false 1 := ⟨by kernel_rfl, by kernel_rfl⟩
theorem k35_ty42 : TyIs Try.prog 42 true 2 := ⟨by kernel_rfl, by kernel_rfl⟩

section
variable (nm : ByteArray) (ps : List Piece) (hs : nm.size ≤ 1000000000) (hp : ps.length ≤ 1000000000) (b d v : Int)
include hs hp
set_option maxRecDepth 100000 in
set_option maxHeartbeats 4000000 in
theorem stopsOf_ok (post sq : Int) : FnOk Try.prog 43 [trA nm ps, syA b d v, .agg [iA post, iA sq]] (fun q => q = .tuple [.row 1 ((if stE nm ps b d v post sq = 0 then rcW ps b d post sq else []).map iE), iA (stE nm ps b d v post sq)]) := by
  refine fnOk_of (fn := Try.f43) 28 (by kernel_rfl) rfl (by kernel_rfl) (Nat.le_of_ble_eq_true rfl) ?_
  intro e_0 m_0 hA hm_0
  have s0_0 : evA e_0 (.tmp 0) = _ := hA 0 _ rfl
  have s1_0 : evA e_0 (.tmp 1) = _ := hA 1 _ rfl
  have s2_0 : evA e_0 (.tmp 2) = _ := hA 2 _ rfl
  have ml_0 : m_0.length = 0 := by rw [hm_0]; rfl
  clear hA hm_0
  refine aw_seq ?_
  refine aw_text (by kernel_rfl) ?_
  refine al_stm (st_box s0_0 rfl ml_0) trivial rfl (fun m_1 hm_1 => ?_)
  have mo0_1 := m_push hm_1 ml_0
  (try simp only [packA_t, packA_f, iE, bE, setAt, cellsA, Value.cells, map_vc, map_vn, Nat.reduceAdd, qS] at mo0_1)
  have ml_1 := m_push_l hm_1 ml_0
  have ml_1 : _ = 1 := ml_1
  clear hm_1
  refine al_stm (st_box (up_m rfl s1_0) rfl ml_1) trivial rfl (fun m_2 hm_2 => ?_)
  have mo1_2 := m_push hm_2 ml_1
  (try simp only [packA_t, packA_f, iE, bE, setAt, cellsA, Value.cells, map_vc, map_vn, Nat.reduceAdd, qS] at mo1_2)
  have mo0_2 := m_push_o hm_2 mo0_1
  have ml_2 := m_push_l hm_2 ml_1
  have ml_2 : _ = 2 := ml_2
  clear hm_2 mo0_1
  refine al_stm (st_box (u2 rfl s2_0) rfl ml_2) trivial rfl (fun m_3 hm_3 => ?_)
  have mo2_3 := m_push hm_3 ml_2
  (try simp only [packA_t, packA_f, iE, bE, setAt, cellsA, Value.cells, map_vc, map_vn, Nat.reduceAdd, qS] at mo2_3)
  have mo1_3 := m_push_o hm_3 mo1_2
  have mo0_3 := m_push_o hm_3 mo0_2
  have ml_3 := m_push_l hm_3 ml_2
  have ml_3 : _ = 3 := ml_3
  clear hm_3 mo1_2 mo0_2
  refine al_ro' (ro_assign ev_c) trivial rfl ?_
  refine al_ro' (ro_assign ev_c) trivial rfl ?_
  refine al_end (fun e_4 he_4 => ?_)
  have s3_4 := ef 3 he_4 (u4 rfl up_h)
  have s4_4 := ef 4 he_4 (up_m rfl (u2 rfl up_h))
  have s5_4 := ef 5 he_4 (u2 rfl up_h)
  clear he_4 s0_0 s1_0 s2_0
  refine then_n ?_
  refine aw_seq ?_
  refine aw_text (by kernel_rfl) ?_
  refine al_ro' (ro_eq (ro_ld_ptr k35_ty24 rfl mo0_3 s3_4 (by first | exact Nat.le_of_ble_eq_true rfl | omega | (simp only [lnS] <;> omega) | (simp <;> omega))) (by first | (simp only [packA_t, packA_f, iE, bE, setAt, cellsA, Value.cells, map_vc, map_vn, Nat.reduceAdd, qS] <;> rfl) | rfl)) trivial rfl ?_
  refine al_ro' (ro_eq (ro_ld_ptr k35_ty26 rfl mo1_3 (up_m rfl s4_4) (by first | exact Nat.le_of_ble_eq_true rfl | omega | (simp only [lnS] <;> omega) | (simp <;> omega))) (by first | (simp only [packA_t, packA_f, iE, bE, setAt, cellsA, Value.cells, map_vc, map_vn, Nat.reduceAdd, qS] <;> rfl) | rfl)) trivial rfl ?_
  refine al_ro' (ro_call (evL_cons (up_m rfl up_h) (evL_cons up_h evL_nil)) rfl (openRide_ok nm ps hs hp b d v) k35_hcf62) trivial rfl ?_
  refine al_ro' (ro_move up_h) trivial rfl ?_
  refine al_ro' (ro_extract up_h rfl) trivial rfl ?_
  refine al_ro' (ro_extract (up_m rfl up_h) rfl) trivial rfl ?_
  refine al_stm (st_alloc k35_az103 rfl ml_3) trivial rfl (fun m_5 hm_5 => ?_)
  have mo3_5 := m_push hm_5 ml_3
  (try simp only [packA_t, packA_f, iE, bE, setAt, cellsA, Value.cells, map_vc, map_vn, Nat.reduceAdd, qS] at mo3_5)
  have mo2_5 := m_push_o hm_5 mo2_3
  have mo1_5 := m_push_o hm_5 mo1_3
  have mo0_5 := m_push_o hm_5 mo0_3
  have ml_5 := m_push_l hm_5 ml_3
  have ml_5 : _ = 4 := ml_5
  clear hm_5 mo2_3 mo1_3 mo0_3
  refine al_stm (st_store up_h (u2 rfl up_h) rfl rfl mo3_5 k35_sz103 rfl (by first | exact Nat.le_of_ble_eq_true rfl | omega | (simp only [lnS] <;> omega) | (simp <;> omega))) trivial rfl (fun m_6 hm_6 => ?_)
  have mo3_6 := m_set hm_6 mo3_5
  (try simp only [packA_t, packA_f, iE, bE, setAt, cellsA, Value.cells, map_vc, map_vn, Nat.reduceAdd, qS] at mo3_6)
  have mo2_6 := m_set_o hm_6 mo2_5 (by decide)
  have mo1_6 := m_set_o hm_6 mo1_5 (by decide)
  have mo0_6 := m_set_o hm_6 mo0_5 (by decide)
  have ml_6 := m_set_l hm_6 ml_5
  clear hm_6 mo3_5 mo2_5 mo1_5 mo0_5
  refine al_ro' (ro_assign (up_n (up_m rfl up_h))) trivial rfl ?_
  refine al_end (fun e_7 he_7 => ?_)
  have s5_7 := ef 5 he_7 (up_m rfl (up_n (up_m rfl (u2 rfl (u4 rfl s5_4)))))
  have s8_7 := ef 8 he_7 (up_m rfl (up_n up_h))
  have s9_7 := ef 9 he_7 up_h
  clear he_7 s3_4 s4_4 s5_4
  refine then_n ?_
  refine aw_seq ?_
  refine aw_seq ?_
  refine aw_text (by kernel_rfl) ?_
  refine al_ro' (ro_move s9_7) trivial rfl ?_
  refine al_ro' (ro_eq (ro_ld_ptr k35_ty103 rfl mo3_6 (up_m rfl s8_7) (by first | exact Nat.le_of_ble_eq_true rfl | omega | (simp only [lnS] <;> omega) | (simp <;> omega))) (by first | (simp only [packA_t, packA_f, iE, bE, setAt, cellsA, Value.cells, map_vc, map_vn, Nat.reduceAdd, qS] <;> rfl) | rfl)) trivial rfl ?_
  refine al_ro' (ro_eq (ro_ld_ptr k35_ty42 rfl mo2_6 (u2 rfl s5_7) (by first | exact Nat.le_of_ble_eq_true rfl | omega | (simp only [lnS] <;> omega) | (simp <;> omega))) (by first | (simp only [packA_t, packA_f, iE, bE, setAt, cellsA, Value.cells, map_vc, map_vn, Nat.reduceAdd, qS] <;> rfl) | rfl)) trivial rfl ?_
  refine al_ro' (ro_call (evL_cons (up_m rfl up_h) (evL_cons up_h evL_nil)) rfl (stateErr_ok nm ps hp b d v post sq) k35_hcf81) trivial rfl ?_
  refine al_ro' (ro_lit k35_sl133 (evP_cons (up_m rfl (u2 rfl up_h)) (evP_cons up_h evP_nil)) rfl rfl rfl rfl) trivial rfl ?_
  refine al_ro' (ro_call (evL_cons up_h evL_nil) rfl (first_ok [_, _] (by simp)) k35_hcf63) trivial rfl ?_
  refine al_ro' (ro_assign up_h) trivial rfl ?_
  refine al_end (fun e_8 he_8 => ?_)
  have s5_8 := ef 5 he_8 (up_m rfl (u2 rfl (u4 rfl s5_7)))
  have s8_8 := ef 8 he_8 (up_m rfl (u2 rfl (u4 rfl s8_7)))
  have s9_8 := ef 9 he_8 up_h
  clear he_8 s5_7 s8_7 s9_7
  refine then_n ?_
  refine aw_seq ?_
  refine aw_text (by kernel_rfl) ?_
  refine al_ro' (ro_move s9_8) trivial rfl ?_
  refine al_ro' (ro_neq up_h ev_c) trivial rfl ?_
  refine al_end (fun e_9 he_9 => ?_)
  have s5_9 := ef 5 he_9 (u2 rfl s5_8)
  have s8_9 := ef 8 he_9 (u2 rfl s8_8)
  have s9_9 := ef 9 he_9 (u2 rfl s9_8)
  have s23_9 := ef 23 he_9 up_h
  clear he_9 s5_8 s8_8 s9_8
  refine then_n ?_
  refine aw_case s23_9 (fun hq_10 => ?_) (fun hq_10 => ?_)
  · (first | replace hq_10 := bnt hq_10 | replace hq_10 := bnf hq_10 | replace hq_10 := bt hq_10 | replace hq_10 := bf hq_10 | replace hq_10 := bt' hq_10 | replace hq_10 := bf' hq_10 | skip)
    first
    | (cases hq_10; done) | (exfalso; omega)
    | (
       refine aw_seq ?_
       refine aw_text (by kernel_rfl) ?_
       refine al_ro' (ro_move s9_9) trivial rfl ?_
       refine al_ro' (ro_assign ev_c) trivial rfl ?_
       refine al_ro' (ro_assign (up_m rfl up_h)) trivial rfl ?_
       refine al_end (fun e_11 he_11 => ?_)
       have s6_11 := ef 6 he_11 (up_m rfl up_h)
       have s7_11 := ef 7 he_11 up_h
       clear he_11 s23_9 s5_9 s8_9 s9_9
       refine then_n ?_
       refine aw_ret ?_
       refine then_r ?_
       refine ret2 (.inr rfl) (by kernel_rfl) (resV_tmp s6_11) (resV_tmp s7_11) (.nil 1) (.ro _ rfl) ?_
       clear s6_11 s7_11 mo3_6 mo2_6 mo1_6 mo0_6 ml_6
       (have hq : ¬ stE nm ps b d v post sq = 0 := (by assumption); rw [if_neg hq]; rfl))
  · (first | replace hq_10 := bnt hq_10 | replace hq_10 := bnf hq_10 | replace hq_10 := bt hq_10 | replace hq_10 := bf hq_10 | replace hq_10 := bt' hq_10 | replace hq_10 := bf' hq_10 | skip)
    first
    | (cases hq_10; done) | (exfalso; omega)
    | (
       (have hq : stE nm ps b d v post sq = 0 := (by assumption); have hR := stE_right hq)
       refine aw_skip ?_
       refine then_n ?_
       refine aw_seq ?_
       refine aw_text (by kernel_rfl) ?_
       refine al_ro' (ro_eq (ro_ld_ptr k35_ty103 rfl mo3_6 s8_9 (by first | exact Nat.le_of_ble_eq_true rfl | omega | (simp only [lnS] <;> omega) | (simp <;> omega))) (by first | (simp only [packA_t, packA_f, iE, bE, setAt, cellsA, Value.cells, map_vc, map_vn, Nat.reduceAdd, qS] <;> rfl) | rfl)) trivial rfl ?_
       refine al_ro' (ro_eq (ro_ld_ptr k35_ty42 rfl mo2_6 (up_m rfl s5_9) (by first | exact Nat.le_of_ble_eq_true rfl | omega | (simp only [lnS] <;> omega) | (simp <;> omega))) (by first | (simp only [packA_t, packA_f, iE, bE, setAt, cellsA, Value.cells, map_vc, map_vn, Nat.reduceAdd, qS] <;> rfl) | rfl)) trivial rfl ?_
       refine al_ro' (ro_call (evL_cons (up_m rfl up_h) (evL_cons up_h evL_nil)) rfl (reached_ok nm ps hR.1 b d v hR.2.1 post sq hR.2.2.1 hR.2.2.2) k35_hcf86) trivial rfl ?_
       refine al_ro' (ro_assign up_h) trivial rfl ?_
       refine al_ro' (ro_assign ev_c) trivial rfl ?_
       refine al_end (fun e_12 he_12 => ?_)
       have s6_12 := ef 6 he_12 (up_m rfl up_h)
       have s7_12 := ef 7 he_12 up_h
       clear he_12 s23_9 s5_9 s8_9 s9_9
       refine then_n ?_
       refine aw_ret ?_
       refine ret2 (.inr rfl) (by kernel_rfl) (resV_tmp s6_12) (resV_tmp s7_12) (.ro _ rfl) (.ro _ rfl) ?_
       clear s6_12 s7_12 mo3_6 mo2_6 mo1_6 mo0_6 ml_6
       (rw [hq, if_pos rfl]))
end
set_option maxRecDepth 100000 in
set_option maxHeartbeats 4000000 in
theorem run_none_ok (nm : ByteArray) (ps : List Piece) (hok : trackR ps) (b d v : Int) (hb : sysR b d v) (post sq stop : Int) (h0 : 0 ≤ post) (h1 : post ≤ stop) (h2 : stop < ps.length) (hc : cuA ps b stop post.toNat = -1) :
    FnOk Try.prog 72 [riA nm ps b d v, .agg [iA post, iA sq], iA stop] (fun q => q = .tuple [.row 1 ((runW ps b d stop post sq).1.map iE), iA (runW ps b d stop post sq).2]) := by
  obtain ⟨q1, q2, q3⟩ := hok
  obtain ⟨r1, r2, r3, r4⟩ := hb
  have hcl := bwL_len ps b 0 (stop + 1).toNat
  have hc' : (bwL ps b 0 (stop + 1).toNat).getD post.toNat default = -1 := hc
  refine fnOk_of (fn := Try.f72) 62 (by kernel_rfl) rfl (by kernel_rfl) (Nat.le_of_ble_eq_true rfl) ?_
  intro e_0 m_0 hA hm_0
  have s0_0 : evA e_0 (.tmp 0) = _ := hA 0 _ rfl
  have s1_0 : evA e_0 (.tmp 1) = _ := hA 1 _ rfl
  have s2_0 : evA e_0 (.tmp 2) = _ := hA 2 _ rfl
  have ml_0 : m_0.length = 0 := by rw [hm_0]; rfl
  clear hA hm_0
  refine aw_seq ?_
  refine aw_text (by kernel_rfl) ?_
  refine al_stm (st_box s0_0 rfl ml_0) trivial rfl (fun m_1 hm_1 => ?_)
  have mo0_1 := m_push hm_1 ml_0
  (try simp only [packA_t, packA_f, iE, bE, setAt, cellsA, Value.cells, map_vc, map_vn, Nat.reduceAdd, qS, one_iE, app_m] at mo0_1)
  have ml_1 := m_push_l hm_1 ml_0
  have ml_1 : _ = 1 := ml_1
  clear hm_1
  refine al_stm (st_box (up_m rfl s1_0) rfl ml_1) trivial rfl (fun m_2 hm_2 => ?_)
  have mo1_2 := m_push hm_2 ml_1
  (try simp only [packA_t, packA_f, iE, bE, setAt, cellsA, Value.cells, map_vc, map_vn, Nat.reduceAdd, qS, one_iE, app_m] at mo1_2)
  have mo0_2 := m_push_o hm_2 mo0_1
  have ml_2 := m_push_l hm_2 ml_1
  have ml_2 : _ = 2 := ml_2
  clear hm_2 mo0_1
  refine al_ro' (ro_assign ev_c) trivial rfl ?_
  refine al_ro' (ro_assign ev_c) trivial rfl ?_
  refine al_end (fun e_3 he_3 => ?_)
  have s2_3 := ef 2 he_3 (u4 rfl s2_0)
  have s3_3 := ef 3 he_3 (up_m rfl (u2 rfl up_h))
  have s4_3 := ef 4 he_3 (u2 rfl up_h)
  clear he_3 s0_0 s1_0 s2_0
  refine then_n ?_
  refine aw_seq ?_
  refine aw_text (by kernel_rfl) ?_
  refine al_ro' (ro_eq (ro_ld_ptr k35_ty103 rfl mo0_2 s3_3 (by first | exact Nat.le_of_ble_eq_true rfl | omega | (simp only [lnS] <;> omega) | (simp <;> omega))) (by first | (simp only [packA_t, packA_f, iE, bE, setAt, cellsA, Value.cells, map_vc, map_vn, Nat.reduceAdd, qS, one_iE, app_m] <;> rfl) | rfl)) trivial rfl ?_
  refine al_ro' (ro_move (up_m rfl s2_3)) trivial rfl ?_
  refine al_ro' (ro_call (evL_cons (up_m rfl up_h) (evL_cons up_h evL_nil)) rfl (curve_ok nm ps ⟨q1, q2, q3⟩ b d v ⟨r1, r2, r3, r4⟩ stop (by omega) h2) k35_hcf74) trivial rfl ?_
  refine al_ro' (ro_assign up_h) trivial rfl ?_
  refine al_end (fun e_4 he_4 => ?_)
  have s2_4 := ef 2 he_4 (u4 rfl s2_3)
  have s3_4 := ef 3 he_4 (u4 rfl s3_3)
  have s4_4 := ef 4 he_4 (u4 rfl s4_3)
  have s8_4 := ef 8 he_4 up_h
  clear he_4 s2_3 s3_3 s4_3
  refine then_n ?_
  refine aw_seq ?_
  refine aw_seq ?_
  refine aw_text (by kernel_rfl) ?_
  refine al_ro' (ro_move s8_4) trivial rfl ?_
  refine al_ro' (ro_fld_ptr k35_fl42_0 rfl (up_m rfl s4_4)) trivial rfl ?_
  refine al_ro' (ro_eq (ro_ld_ptr k35_ty3 rfl mo1_2 up_h (by first | exact Nat.le_of_ble_eq_true rfl | omega | (simp only [lnS] <;> omega) | (simp <;> omega))) (by first | (simp only [packA_t, packA_f, iE, bE, setAt, cellsA, Value.cells, map_vc, map_vn, Nat.reduceAdd, qS, one_iE, app_m] <;> rfl) | rfl)) trivial rfl ?_
  refine al_ro' (ro_eq (ro_ix k35_sl30 (u2 rfl up_h) up_h (by first | decide | omega | (simp <;> omega)) (by first | (refine idx_map ?_; first | omega | (simp only [lnS]; omega)) | (refine idx_mapI ?_; first | omega | (simp only [lnS]; omega)) | (refine idx_mapN ?_; first | omega | (simp only [lnS]; omega)) | rfl)) (by first | (simp only [packA_t, packA_f, iE, bE, setAt, cellsA, Value.cells, map_vc, map_vn, Nat.reduceAdd, qS, one_iE, app_m] <;> rfl) | rfl)) trivial rfl ?_
  refine al_ro' (ro_eq (ro_ld_ref k35_ty3 rfl up_h (by first | exact Nat.le_of_ble_eq_true rfl | omega | (simp only [lnS] <;> omega) | (simp <;> omega))) (by first | (simp only [packA_t, packA_f, iE, bE, setAt, cellsA, Value.cells, map_vc, map_vn, Nat.reduceAdd, qS, one_iE, app_m] <;> rfl) | rfl)) trivial rfl ?_
  refine al_ro' (ro_assign up_h) trivial rfl ?_
  refine al_end (fun e_5 he_5 => ?_)
  have s2_5 := ef 2 he_5 (u2 rfl (u4 rfl s2_4))
  have s3_5 := ef 3 he_5 (u2 rfl (u4 rfl s3_4))
  have s4_5 := ef 4 he_5 (u2 rfl (u4 rfl s4_4))
  have s8_5 := ef 8 he_5 (u2 rfl (u4 rfl s8_4))
  have s9_5 := ef 9 he_5 up_h
  clear he_5 s2_4 s3_4 s4_4 s8_4
  refine then_n ?_
  refine aw_seq ?_
  refine aw_cut (fun e mem => (evA e (.tmp 28) = .v (.bool true)) ∧ (evA e (.tmp 2) = evA e_5 (.tmp 2)) ∧ (evA e (.tmp 3) = evA e_5 (.tmp 3)) ∧ (evA e (.tmp 4) = evA e_5 (.tmp 4)) ∧ (evA e (.tmp 8) = evA e_5 (.tmp 8)) ∧ m_2 = mem) ?_ ?_
  ·
    refine aw_text (by kernel_rfl) ?_
    refine al_ro' (ro_move s9_5) trivial rfl ?_
    refine al_ro' (ro_eql up_h ev_c) trivial rfl ?_
    refine al_ro' (ro_move up_h) trivial rfl ?_
    refine al_case up_h (fun hb_7 hq_7 => ?_) (fun hb_7 hq_7 => ?_)
    · (first | replace hq_7 := bnt hq_7 | replace hq_7 := bnf hq_7 | replace hq_7 := bt hq_7 | replace hq_7 := bf hq_7 | replace hq_7 := bt' hq_7 | replace hq_7 := bf' hq_7 | skip)
      first
      | (cases hq_7; done) | (exfalso; omega)
      | (
         refine al_skip' ⟨_, rfl, .inl hb_7⟩ rfl ?_
         refine al_skip' ⟨_, rfl, .inl (up_m rfl hb_7)⟩ rfl ?_
         refine al_skip' ⟨_, rfl, .inl (u2 rfl hb_7)⟩ rfl ?_
         refine al_skip' ⟨_, rfl, .inl (up_m rfl (u2 rfl hb_7))⟩ rfl ?_
         refine al_ro' (ro_pickT (u4 rfl hb_7) ev_c) trivial rfl ?_
         refine al_end (fun e_8 he_8 => ?_)
         have s2_8 := ef 2 he_8 (u8 rfl s2_5)
         have s3_8 := ef 3 he_8 (u8 rfl s3_5)
         have s4_8 := ef 4 he_8 (u8 rfl s4_5)
         have s8_8 := ef 8 he_8 (u8 rfl s8_5)
         have s28_8 := ef 28 he_8 up_h
         clear he_8
         refine then_n ⟨(s28_8).trans (by (first | rfl | (refine avb ?_; simp only [decide_eq_true_eq, true_iff, false_iff, Bool.false_eq_true, iff_true]; first | trivial | omega))), (s2_8).trans (s2_5).symm, (s3_8).trans (s3_5).symm, (s4_8).trans (s4_5).symm, (s8_8).trans (s8_5).symm, rfl⟩)
    · (first | replace hq_7 := bnt hq_7 | replace hq_7 := bnf hq_7 | replace hq_7 := bt hq_7 | replace hq_7 := bf hq_7 | replace hq_7 := bt' hq_7 | replace hq_7 := bf' hq_7 | skip)
      first
      | (cases hq_7; done) | (exfalso; omega)
      | (
         refine al_ro' (ro_fld_ptr k35_fl42_1 rfl (up_m rfl (u2 rfl s4_5))) ⟨_, rfl, hb_7⟩ rfl ?_
         refine al_ro' (ro_eq (ro_ld_ptr k35_ty3 rfl mo1_2 up_h (by first | exact Nat.le_of_ble_eq_true rfl | omega | (simp only [lnS] <;> omega) | (simp <;> omega))) (by first | (simp only [packA_t, packA_f, iE, bE, setAt, cellsA, Value.cells, map_vc, map_vn, Nat.reduceAdd, qS, one_iE, app_m] <;> rfl) | rfl)) ⟨_, rfl, (up_m rfl hb_7)⟩ rfl ?_
         refine al_ro' (ro_move (up_m rfl (u4 rfl s9_5))) ⟨_, rfl, (u2 rfl hb_7)⟩ rfl ?_
         refine al_ro' (ro_gtr (up_m rfl up_h) up_h) ⟨_, rfl, (up_m rfl (u2 rfl hb_7))⟩ rfl ?_
         refine al_ro' (ro_pickF (u4 rfl hb_7) up_h) trivial rfl ?_
         refine al_end (fun e_9 he_9 => ?_)
         have s2_9 := ef 2 he_9 (u8 rfl s2_5)
         have s3_9 := ef 3 he_9 (u8 rfl s3_5)
         have s4_9 := ef 4 he_9 (u8 rfl s4_5)
         have s8_9 := ef 8 he_9 (u8 rfl s8_5)
         have s28_9 := ef 28 he_9 up_h
         clear he_9
         refine then_n ⟨(s28_9).trans (by (first | rfl | (refine avb ?_; simp only [decide_eq_true_eq, true_iff, false_iff, Bool.false_eq_true, iff_true]; first | trivial | omega))), (s2_9).trans (s2_5).symm, (s3_9).trans (s3_5).symm, (s4_9).trans (s4_5).symm, (s8_9).trans (s8_5).symm, rfl⟩)
  · rintro e_6 _ ⟨s28_6, k2_6, k3_6, k4_6, k8_6, rfl⟩
    have s2_6 := k2_6.trans s2_5
    have s3_6 := k3_6.trans s3_5
    have s4_6 := k4_6.trans s4_5
    have s8_6 := k8_6.trans s8_5
    refine aw_case s28_6 (fun hq_10 => ?_) (fun hq_10 => ?_)
    · (first | replace hq_10 := bnt hq_10 | replace hq_10 := bnf hq_10 | replace hq_10 := bt hq_10 | replace hq_10 := bf hq_10 | replace hq_10 := bt' hq_10 | replace hq_10 := bf' hq_10 | skip)
      first
      | (cases hq_10; done) | (exfalso; omega)
      | (
         refine aw_seq ?_
         refine aw_text (by kernel_rfl) ?_
         refine al_ro' (ro_assign ev_c) trivial rfl ?_
         refine al_ro' (ro_assign ev_c) trivial rfl ?_
         refine al_end (fun e_11 he_11 => ?_)
         have s6_11 := ef 6 he_11 (up_m rfl up_h)
         have s7_11 := ef 7 he_11 up_h
         clear he_11 s28_6 s2_6 s3_6 s4_6 s8_6
         refine then_n ?_
         refine aw_ret ?_
         refine then_r ?_
         refine ret2 (.inr rfl) (by kernel_rfl) (resV_tmp s6_11) (resV_tmp s7_11) (.nil 1) (.ro _ rfl) ?_
         clear s6_11 s7_11 mo1_2 mo0_2 ml_2
         (rw [runW, if_pos (.inl hc')]; rfl))
    · (first | replace hq_10 := bnt hq_10 | replace hq_10 := bnf hq_10 | replace hq_10 := bt hq_10 | replace hq_10 := bf hq_10 | replace hq_10 := bt' hq_10 | replace hq_10 := bf' hq_10 | skip)
      first
      | (cases hq_10; done) | (exfalso; omega)
      | (
         refine aw_skip ?_
         refine then_n ?_
         refine aw_seq ?_
         refine aw_text (by kernel_rfl) ?_
         refine al_ro' (ro_fld_ptr k35_fl42_1 rfl s4_6) trivial rfl ?_
         refine al_ro' (ro_eq (ro_ld_ptr k35_ty3 rfl mo1_2 up_h (by first | exact Nat.le_of_ble_eq_true rfl | omega | (simp only [lnS] <;> omega) | (simp <;> omega))) (by first | (simp only [packA_t, packA_f, iE, bE, setAt, cellsA, Value.cells, map_vc, map_vn, Nat.reduceAdd, qS, one_iE, app_m] <;> rfl) | rfl)) trivial rfl ?_
         refine al_stm (st_lit k35_sl30 ml_2 (evP_cons up_h evP_nil) rfl rfl rfl rfl) trivial rfl (fun m_12 hm_12 => ?_)
         have mo2_12 := m_push hm_12 ml_2
         (try simp only [packA_t, packA_f, iE, bE, setAt, cellsA, Value.cells, map_vc, map_vn, Nat.reduceAdd, qS, one_iE, app_m] at mo2_12)
         have mo1_12 := m_push_o hm_12 mo1_2
         have mo0_12 := m_push_o hm_12 mo0_2
         have ml_12 := m_push_l hm_12 ml_2
         have ml_12 : _ = 3 := ml_12
         clear hm_12 mo1_2 mo0_2
         refine al_ro' (ro_assign up_h) trivial rfl ?_
         refine al_end (fun e_13 he_13 => ?_)
         have s2_13 := ef 2 he_13 (u4 rfl s2_6)
         have s3_13 := ef 3 he_13 (u4 rfl s3_6)
         have s4_13 := ef 4 he_13 (u4 rfl s4_6)
         have s8_13 := ef 8 he_13 (u4 rfl s8_6)
         have s10_13 := ef 10 he_13 up_h
         clear he_13 s28_6 s2_6 s3_6 s4_6 s8_6
         refine then_n ?_
         refine aw_seq ?_
         refine aw_seq ?_
         refine aw_text (by kernel_rfl) ?_
         refine al_ro' (ro_fld_ptr k35_fl42_0 rfl s4_13) trivial rfl ?_
         refine al_ro' (ro_eq (ro_ld_ptr k35_ty3 rfl mo1_12 up_h (by first | exact Nat.le_of_ble_eq_true rfl | omega | (simp only [lnS] <;> omega) | (simp <;> omega))) (by first | (simp only [packA_t, packA_f, iE, bE, setAt, cellsA, Value.cells, map_vc, map_vn, Nat.reduceAdd, qS, one_iE, app_m] <;> rfl) | rfl)) trivial rfl ?_
         refine al_ro' (ro_assign up_h) trivial rfl ?_
         refine al_end (fun e_14 he_14 => ?_)
         have s2_14 := ef 2 he_14 (up_m rfl (u2 rfl s2_13))
         have s3_14 := ef 3 he_14 (up_m rfl (u2 rfl s3_13))
         have s8_14 := ef 8 he_14 (up_m rfl (u2 rfl s8_13))
         have s10_14 := ef 10 he_14 (up_m rfl (u2 rfl s10_13))
         have s11_14 := ef 11 he_14 up_h
         clear he_14 s10_13 s2_13 s3_13 s4_13 s8_13
         refine then_n ?_
         refine aw_block ?_
         fail "STOPPED loop 1 has no relation")
/-- The square of a stop's curve. -/
def tpA (ps : List Piece) (b post : Int) (s : Nat) : Int := cuA ps b (s : Int) post.toNat
def gaS (ps : List Piece) (b d post : Int) (m : Int) (s : Nat) : Int := if (runW ps b d (s : Int) post (tpA ps b post s)).2 = 0 then max m (tpA ps b post s) else m
def gaF (ps : List Piece) (b d post : Int) (l : List Nat) : Int := l.foldl (gaS ps b d post) (-1)
def gaW (ps : List Piece) (b d post : Int) : Int := gaF ps b d post (stL ps post)
theorem gaF_next {ps : List Piece} {b d post : Int} {l : List Nat} {i s : Nat} (h : l[i]? = some s) : gaF ps b d post (l.take (i + 1)) = gaS ps b d post (gaF ps b d post (l.take i)) s := by
  unfold gaF
  rw [List.take_add_one, h]
  simp [List.foldl_append]
theorem tpA_bound {ps : List Piece} (hok : trackR ps) (b post : Int) (s : Nat) (hs : s < ps.length) (hp : 0 ≤ post ∧ post ≤ s) : -1 ≤ tpA ps b post s ∧ tpA ps b post s ≤ 20000000000 := by
  unfold tpA cuA
  rw [bwL_at _ _ _ (by omega)]
  have := bwD_bound hok.1 (b := b) (post := ((s : Int) + 1).toNat) (sq := 0) (by omega) (((s : Int) + 1).toNat - post.toNat)
  omega
theorem runTp_ok (nm : ByteArray) (ps : List Piece) (hok : trackR ps) (b d v : Int) (hb : sysR b d v) (post : Int) (s : Nat) (h0 : 0 ≤ post) (h1 : post ≤ s) (h2 : s < ps.length) :
    FnOk Try.prog 72 [riA nm ps b d v, .agg [iA post, iA (tpA ps b post s)], iA (s : Int)] (fun q => q = .tuple [.row 1 ((runW ps b d (s : Int) post (tpA ps b post s)).1.map iE), iA (runW ps b d (s : Int) post (tpA ps b post s)).2]) := by
  have hb1 := tpA_bound hok b post s h2 ⟨h0, h1⟩
  by_cases hc : tpA ps b post s = -1
  · exact run_none_ok nm ps hok b d v hb post _ _ h0 h1 (by omega) hc
  · exact run_ok nm ps hok b d v hb post _ _ h0 h1 (by omega) ⟨by omega, hb1.2⟩
def gaE (nm : ByteArray) (ps : List Piece) (b d v post : Int) : Int := firstE [firstE [(chk nm ps).2, sysE b d v], unlessE (withinB post 0 ps.length) 6]
theorem gaE_right {nm : ByteArray} {ps : List Piece} {b d v post : Int} (h : gaE nm ps b d v post = 0) : trackR ps ∧ sysR b d v ∧ (0 ≤ post ∧ post ≤ ps.length) := by
  obtain ⟨h1, h2, h3⟩ := ride_right h
  have a1 := unlessE_zero (firstE_cons h3).1 (by decide)
  simp only [withinB, Bool.and_eq_true, decide_eq_true_eq] at a1
  exact ⟨h1, h2, a1⟩
set_option maxRecDepth 100000 in
set_option maxHeartbeats 4000000 in
theorem greatestAt_ok (nm : ByteArray) (ps : List Piece) (hs : nm.size ≤ 1000000000) (hp : ps.length ≤ 1000000000) (b d v post : Int) : FnOk Try.prog 44 [trA nm ps, syA b d v, iA post] (fun q => q = .tuple [iA (if gaE nm ps b d v post = 0 then (if gaW ps b d post = -1 then 0 else gaW ps b d post) else 0), iA (if gaE nm ps b d v post = 0 then (if gaW ps b d post = -1 then 12 else 0) else gaE nm ps b d v post)]) := by
  refine fnOk_of (fn := Try.f44) 60 (by kernel_rfl) rfl (by kernel_rfl) (Nat.le_of_ble_eq_true rfl) ?_
  intro e_0 m_0 hA hm_0
  have s0_0 : evA e_0 (.tmp 0) = _ := hA 0 _ rfl
  have s1_0 : evA e_0 (.tmp 1) = _ := hA 1 _ rfl
  have s2_0 : evA e_0 (.tmp 2) = _ := hA 2 _ rfl
  have ml_0 : m_0.length = 0 := by rw [hm_0]; rfl
  clear hA hm_0
  refine aw_seq ?_
  refine aw_text (by kernel_rfl) ?_
  refine al_stm (st_box s0_0 rfl ml_0) trivial rfl (fun m_1 hm_1 => ?_)
  have mo0_1 := m_push hm_1 ml_0
  (try simp only [packA_t, packA_f, iE, bE, setAt, cellsA, Value.cells, map_vc, map_vn, Nat.reduceAdd, qS] at mo0_1)
  have ml_1 := m_push_l hm_1 ml_0
  have ml_1 : _ = 1 := ml_1
  clear hm_1
  refine al_stm (st_box (up_m rfl s1_0) rfl ml_1) trivial rfl (fun m_2 hm_2 => ?_)
  have mo1_2 := m_push hm_2 ml_1
  (try simp only [packA_t, packA_f, iE, bE, setAt, cellsA, Value.cells, map_vc, map_vn, Nat.reduceAdd, qS] at mo1_2)
  have mo0_2 := m_push_o hm_2 mo0_1
  have ml_2 := m_push_l hm_2 ml_1
  have ml_2 : _ = 2 := ml_2
  clear hm_2 mo0_1
  refine al_stm (st_box (u2 rfl s2_0) rfl ml_2) trivial rfl (fun m_3 hm_3 => ?_)
  have mo2_3 := m_push hm_3 ml_2
  (try simp only [packA_t, packA_f, iE, bE, setAt, cellsA, Value.cells, map_vc, map_vn, Nat.reduceAdd, qS] at mo2_3)
  have mo1_3 := m_push_o hm_3 mo1_2
  have mo0_3 := m_push_o hm_3 mo0_2
  have ml_3 := m_push_l hm_3 ml_2
  have ml_3 : _ = 3 := ml_3
  clear hm_3 mo1_2 mo0_2
  refine al_ro' (ro_assign ev_c) trivial rfl ?_
  refine al_ro' (ro_assign ev_c) trivial rfl ?_
  refine al_end (fun e_4 he_4 => ?_)
  have s3_4 := ef 3 he_4 (u4 rfl up_h)
  have s4_4 := ef 4 he_4 (up_m rfl (u2 rfl up_h))
  have s5_4 := ef 5 he_4 (u2 rfl up_h)
  clear he_4 s0_0 s1_0 s2_0
  refine then_n ?_
  refine aw_seq ?_
  refine aw_text (by kernel_rfl) ?_
  refine al_ro' (ro_eq (ro_ld_ptr k35_ty24 rfl mo0_3 s3_4 (by first | exact Nat.le_of_ble_eq_true rfl | omega | (simp only [lnS] <;> omega) | (simp <;> omega))) (by first | (simp only [packA_t, packA_f, iE, bE, setAt, cellsA, Value.cells, map_vc, map_vn, Nat.reduceAdd, qS] <;> rfl) | rfl)) trivial rfl ?_
  refine al_ro' (ro_eq (ro_ld_ptr k35_ty26 rfl mo1_3 (up_m rfl s4_4) (by first | exact Nat.le_of_ble_eq_true rfl | omega | (simp only [lnS] <;> omega) | (simp <;> omega))) (by first | (simp only [packA_t, packA_f, iE, bE, setAt, cellsA, Value.cells, map_vc, map_vn, Nat.reduceAdd, qS] <;> rfl) | rfl)) trivial rfl ?_
  refine al_ro' (ro_call (evL_cons (up_m rfl up_h) (evL_cons up_h evL_nil)) rfl (openRide_ok nm ps hs hp b d v) k35_hcf62) trivial rfl ?_
  refine al_ro' (ro_move up_h) trivial rfl ?_
  refine al_ro' (ro_extract up_h rfl) trivial rfl ?_
  refine al_ro' (ro_extract (up_m rfl up_h) rfl) trivial rfl ?_
  refine al_stm (st_alloc k35_az103 rfl ml_3) trivial rfl (fun m_5 hm_5 => ?_)
  have mo3_5 := m_push hm_5 ml_3
  (try simp only [packA_t, packA_f, iE, bE, setAt, cellsA, Value.cells, map_vc, map_vn, Nat.reduceAdd, qS] at mo3_5)
  have mo2_5 := m_push_o hm_5 mo2_3
  have mo1_5 := m_push_o hm_5 mo1_3
  have mo0_5 := m_push_o hm_5 mo0_3
  have ml_5 := m_push_l hm_5 ml_3
  have ml_5 : _ = 4 := ml_5
  clear hm_5 mo2_3 mo1_3 mo0_3
  refine al_stm (st_store up_h (u2 rfl up_h) rfl rfl mo3_5 k35_sz103 rfl (by first | exact Nat.le_of_ble_eq_true rfl | omega | (simp only [lnS] <;> omega) | (simp <;> omega))) trivial rfl (fun m_6 hm_6 => ?_)
  have mo3_6 := m_set hm_6 mo3_5
  (try simp only [packA_t, packA_f, iE, bE, setAt, cellsA, Value.cells, map_vc, map_vn, Nat.reduceAdd, qS] at mo3_6)
  have mo2_6 := m_set_o hm_6 mo2_5 (by decide)
  have mo1_6 := m_set_o hm_6 mo1_5 (by decide)
  have mo0_6 := m_set_o hm_6 mo0_5 (by decide)
  have ml_6 := m_set_l hm_6 ml_5
  clear hm_6 mo3_5 mo2_5 mo1_5 mo0_5
  refine al_ro' (ro_assign (up_n (up_m rfl up_h))) trivial rfl ?_
  refine al_end (fun e_7 he_7 => ?_)
  have s5_7 := ef 5 he_7 (up_m rfl (up_n (up_m rfl (u2 rfl (u4 rfl s5_4)))))
  have s8_7 := ef 8 he_7 (up_m rfl (up_n up_h))
  have s9_7 := ef 9 he_7 up_h
  clear he_7 s3_4 s4_4 s5_4
  refine then_n ?_
  refine aw_seq ?_
  refine aw_seq ?_
  refine aw_draw 9 (by kernel_rfl) (by kernel_rfl) (by kernel_rfl) (by kernel_rfl) ?_
  refine ds_ro' (ro_move s9_7) trivial rfl ?_
  refine ds_ro' (ro_eq (ro_ld_ptr k35_ty3 rfl mo2_6 (up_m rfl s5_7) (by first | exact Nat.le_of_ble_eq_true rfl | omega | (simp only [lnS] <;> omega) | (simp <;> omega))) (by first | (simp only [packA_t, packA_f, iE, bE, setAt, cellsA, Value.cells, map_vc, map_vn, Nat.reduceAdd, qS] <;> rfl) | rfl)) trivial rfl ?_
  refine ds_ro' (ro_fld_ptr k35_fl103_0 rfl (u2 rfl s8_7)) trivial rfl ?_
  refine ds_ro' (ro_eq (ro_ld_ptr k35_ty101 rfl mo3_6 up_h (by first | exact Nat.le_of_ble_eq_true rfl | omega | (simp only [lnS] <;> omega) | (simp <;> omega))) (by first | (simp only [packA_t, packA_f, iE, bE, setAt, cellsA, Value.cells, map_vc, map_vn, Nat.reduceAdd, qS] <;> rfl) | rfl)) trivial rfl ?_
  refine ds_ro' (ro_call (evL_cons up_h evL_nil) rfl (last_ok nm ps) k35_hcf68) trivial rfl ?_
  refine ds_ro' (ro_call (evL_cons (up_m rfl (u2 rfl up_h)) (evL_cons ev_c (evL_cons up_h evL_nil))) rfl (within_ok _ _ _) k35_hcf77) trivial rfl ?_
  refine ds_ro' (ro_call (evL_cons up_h (evL_cons ev_c evL_nil)) rfl (unless_ok _ _) k35_hcf64) trivial rfl ?_
  refine ds_ro' (ro_lit k35_sl133 (evP_cons (u2 rfl (u4 rfl up_h)) (evP_cons up_h evP_nil)) rfl rfl rfl rfl) trivial rfl ?_
  refine ds_ro' (ro_call (evL_cons up_h evL_nil) rfl (first_ok [_, _] (by simp)) k35_hcf63) trivial rfl ?_
  refine ds_nil ?_
  refine al_ro' (ro_assign up_h) trivial rfl ?_
  refine al_end (fun e_8 he_8 => ?_)
  have s5_8 := ef 5 he_8 (u2 rfl (u8 rfl s5_7))
  have s8_8 := ef 8 he_8 (u2 rfl (u8 rfl s8_7))
  have s9_8 := ef 9 he_8 up_h
  clear he_8 s5_7 s8_7 s9_7
  refine then_n ?_
  refine aw_seq ?_
  refine aw_text (by kernel_rfl) ?_
  refine al_ro' (ro_move s9_8) trivial rfl ?_
  refine al_ro' (ro_neq up_h ev_c) trivial rfl ?_
  refine al_end (fun e_9 he_9 => ?_)
  have s5_9 := ef 5 he_9 (u2 rfl s5_8)
  have s8_9 := ef 8 he_9 (u2 rfl s8_8)
  have s9_9 := ef 9 he_9 (u2 rfl s9_8)
  have s31_9 := ef 31 he_9 up_h
  clear he_9 s5_8 s8_8 s9_8
  refine then_n ?_
  refine aw_case s31_9 (fun hq_10 => ?_) (fun hq_10 => ?_)
  · (first | replace hq_10 := bnt hq_10 | replace hq_10 := bnf hq_10 | replace hq_10 := bt hq_10 | replace hq_10 := bf hq_10 | replace hq_10 := bt' hq_10 | replace hq_10 := bf' hq_10 | skip)
    first
    | (cases hq_10; done) | (exfalso; omega)
    | (
       refine aw_seq ?_
       refine aw_text (by kernel_rfl) ?_
       refine al_ro' (ro_move s9_9) trivial rfl ?_
       refine al_ro' (ro_assign ev_c) trivial rfl ?_
       refine al_ro' (ro_assign (up_m rfl up_h)) trivial rfl ?_
       refine al_end (fun e_11 he_11 => ?_)
       have s6_11 := ef 6 he_11 (up_m rfl up_h)
       have s7_11 := ef 7 he_11 up_h
       clear he_11 s31_9 s5_9 s8_9 s9_9
       refine then_n ?_
       refine aw_ret ?_
       refine then_r ?_
       refine ret2 (.inr rfl) (by kernel_rfl) (resV_tmp s6_11) (resV_tmp s7_11) (.ro _ rfl) (.ro _ rfl) ?_
       clear s6_11 s7_11 mo3_6 mo2_6 mo1_6 mo0_6 ml_6
       (have hn : ¬ gaE nm ps b d v post = 0 := (by assumption); rw [if_neg hn, if_neg hn]; rfl))
  · (first | replace hq_10 := bnt hq_10 | replace hq_10 := bnf hq_10 | replace hq_10 := bt hq_10 | replace hq_10 := bf hq_10 | replace hq_10 := bt' hq_10 | replace hq_10 := bf' hq_10 | skip)
    first
    | (cases hq_10; done) | (exfalso; omega)
    | (
       (have hq : gaE nm ps b d v post = 0 := (by assumption); have hR := gaE_right hq)
       refine aw_skip ?_
       refine then_n ?_
       refine aw_seq ?_
       refine aw_text (by kernel_rfl) ?_
       refine al_stm (st_alloc k35_az3 rfl ml_6) trivial rfl (fun m_12 hm_12 => ?_)
       have mo4_12 := m_push hm_12 ml_6
       (try simp only [packA_t, packA_f, iE, bE, setAt, cellsA, Value.cells, map_vc, map_vn, Nat.reduceAdd, qS] at mo4_12)
       have mo3_12 := m_push_o hm_12 mo3_6
       have mo2_12 := m_push_o hm_12 mo2_6
       have mo1_12 := m_push_o hm_12 mo1_6
       have mo0_12 := m_push_o hm_12 mo0_6
       have ml_12 := m_push_l hm_12 ml_6
       have ml_12 : _ = 5 := ml_12
       clear hm_12 mo3_6 mo2_6 mo1_6 mo0_6
       refine al_stm (st_store up_h ev_c rfl rfl mo4_12 k35_sz3 rfl (by first | exact Nat.le_of_ble_eq_true rfl | omega | (simp only [lnS] <;> omega) | (simp <;> omega))) trivial rfl (fun m_13 hm_13 => ?_)
       have mo4_13 := m_set hm_13 mo4_12
       (try simp only [packA_t, packA_f, iE, bE, setAt, cellsA, Value.cells, map_vc, map_vn, Nat.reduceAdd, qS] at mo4_13)
       have mo3_13 := m_set_o hm_13 mo3_12 (by decide)
       have mo2_13 := m_set_o hm_13 mo2_12 (by decide)
       have mo1_13 := m_set_o hm_13 mo1_12 (by decide)
       have mo0_13 := m_set_o hm_13 mo0_12 (by decide)
       have ml_13 := m_set_l hm_13 ml_12
       clear hm_13 mo4_12 mo3_12 mo2_12 mo1_12 mo0_12
       refine al_end (fun e_14 he_14 => ?_)
       have s5_14 := ef 5 he_14 (up_n (up_m rfl s5_9))
       have s8_14 := ef 8 he_14 (up_n (up_m rfl s8_9))
       have s10_14 := ef 10 he_14 (up_n up_h)
       clear he_14 s31_9 s5_9 s8_9 s9_9
       refine then_n ?_
       refine aw_seq ?_
       refine aw_seq ?_
       refine aw_text (by kernel_rfl) ?_
       refine al_ro' (ro_eq (ro_ld_ptr k35_ty103 rfl mo3_13 s8_14 (by first | exact Nat.le_of_ble_eq_true rfl | omega | (simp only [lnS] <;> omega) | (simp <;> omega))) (by first | (simp only [packA_t, packA_f, iE, bE, setAt, cellsA, Value.cells, map_vc, map_vn, Nat.reduceAdd, qS] <;> rfl) | rfl)) trivial rfl ?_
       refine al_ro' (ro_eq (ro_ld_ptr k35_ty3 rfl mo2_13 (up_m rfl s5_14) (by first | exact Nat.le_of_ble_eq_true rfl | omega | (simp only [lnS] <;> omega) | (simp <;> omega))) (by first | (simp only [packA_t, packA_f, iE, bE, setAt, cellsA, Value.cells, map_vc, map_vn, Nat.reduceAdd, qS] <;> rfl) | rfl)) trivial rfl ?_
       refine al_ro' (ro_call (evL_cons (up_m rfl up_h) (evL_cons up_h evL_nil)) rfl (stops_ok nm ps b d v post) k35_hcf87) trivial rfl ?_
       refine al_end (fun e_15 he_15 => ?_)
       have s5_15 := ef 5 he_15 (up_m rfl (u2 rfl s5_14))
       have s8_15 := ef 8 he_15 (up_m rfl (u2 rfl s8_14))
       have s10_15 := ef 10 he_15 (up_m rfl (u2 rfl s10_14))
       have s35_15 := ef 35 he_15 up_h
       clear he_15 s10_14 s5_14 s8_14
       refine then_n ?_
       refine aw_block ?_
       refine aw_range1 s35_15 (stops1_gen nm ps b d v post hR.2.2 (by omega)) k35_hcf98 (by exact stY_one) (Nat.le_of_ble_eq_true rfl) (fun i mem => ∃ s : Int, match s with | mm => (mem[4]? = some (.box 3 [iA mm])) ∧ (mem[3]? = m_13[3]?) ∧ (mem[2]? = m_13[2]?) ∧ (mem[1]? = m_13[1]?) ∧ (mem[0]? = m_13[0]?) ∧ (mem.length = 5) ∧ ((mm = gaF ps b d post ((stL ps post).take i)))) ⟨_, mo4_13, rfl, rfl, rfl, rfl, ml_13, ?_⟩ ?_ ?_
       · rfl
       · rintro i_16 y0_16 m_16 hy_16 ⟨mm, mo4_16, mk3_16, mk2_16, mk1_16, mk0_16, ml_16, hinv⟩
         (obtain ⟨s, hs', rfl, s1, s2, s3⟩ := stY_of hy_16; have hbl := bwL_len ps b 0 ((s : Int) + 1).toNat)
         have mo3_16 := mk3_16.trans mo3_13
         have mo2_16 := mk2_16.trans mo2_13
         have mo1_16 := mk1_16.trans mo1_13
         have mo0_16 := mk0_16.trans mo0_13
         refine aw_env (fun e_16 he_16 => ?_)
         have s5_16 := ef 5 he_16 (up_m rfl s5_15)
         have s8_16 := ef 8 he_16 (up_m rfl s8_15)
         have s10_16 := ef 10 he_16 (up_m rfl s10_15)
         have s35_16 := ef 35 he_16 (up_m rfl s35_15)
         have s36_16 := ef 36 he_16 up_h
         clear he_16
         refine aw_text (by kernel_rfl) ?_
         refine al_ro' (ro_assign s36_16) trivial rfl ?_
         refine al_end (fun e_17 he_17 => ?_)
         have s5_17 := ef 5 he_17 (up_m rfl s5_16)
         have s8_17 := ef 8 he_17 (up_m rfl s8_16)
         have s10_17 := ef 10 he_17 (up_m rfl s10_16)
         have s11_17 := ef 11 he_17 up_h
         clear he_17 s10_16 s35_16 s36_16 s5_16 s8_16
         refine fallb_n ?_
         refine aw_block ?_
         refine aw_seq ?_
         refine aw_draw 7 (by kernel_rfl) (by kernel_rfl) (by kernel_rfl) (by kernel_rfl) ?_
         refine ds_ro' (ro_eq (ro_ld_ptr k35_ty103 rfl mo3_16 s8_17 (by first | exact Nat.le_of_ble_eq_true rfl | omega | (simp only [lnS] <;> omega) | (simp <;> omega))) (by first | (simp only [packA_t, packA_f, iE, bE, setAt, cellsA, Value.cells, map_vc, map_vn, Nat.reduceAdd, qS] <;> rfl) | rfl)) trivial rfl ?_
         refine ds_ro' (ro_move (up_m rfl s11_17)) trivial rfl ?_
         refine ds_ro' (ro_call (evL_cons (up_m rfl up_h) (evL_cons up_h evL_nil)) rfl (curve_ok nm ps hR.1 b d v hR.2.1 (s : Int) (by omega) (by omega)) k35_hcf74) trivial rfl ?_
         refine ds_ro' (ro_eq (ro_ld_ptr k35_ty3 rfl mo2_16 (up_m rfl (u2 rfl s5_17)) (by first | exact Nat.le_of_ble_eq_true rfl | omega | (simp only [lnS] <;> omega) | (simp <;> omega))) (by first | (simp only [packA_t, packA_f, iE, bE, setAt, cellsA, Value.cells, map_vc, map_vn, Nat.reduceAdd, qS] <;> rfl) | rfl)) trivial rfl ?_
         refine ds_ro' (ro_eq (ro_ix k35_sl30 (up_m rfl up_h) up_h (by first | decide | omega | (simp <;> omega)) (by first | (refine idx_map ?_; first | omega | (simp only [lnS]; omega)) | (refine idx_mapI ?_; first | omega | (simp only [lnS]; omega)) | (refine idx_mapN ?_; first | omega | (simp only [lnS]; omega)) | rfl)) (by first | (simp only [packA_t, packA_f, iE, bE, setAt, cellsA, Value.cells, map_vc, map_vn, Nat.reduceAdd, qS] <;> rfl) | rfl)) trivial rfl ?_
         refine ds_ro' (ro_eq (ro_ld_ref k35_ty3 rfl up_h (by first | exact Nat.le_of_ble_eq_true rfl | omega | (simp only [lnS] <;> omega) | (simp <;> omega))) (by first | (simp only [packA_t, packA_f, iE, bE, setAt, cellsA, Value.cells, map_vc, map_vn, Nat.reduceAdd, qS] <;> rfl) | rfl)) trivial rfl ?_
         refine ds_ro' (ro_assign up_h) trivial rfl ?_
         refine ds_nil ?_
         refine al_end (fun e_18 he_18 => ?_)
         have s5_18 := ef 5 he_18 (up_m rfl (u2 rfl (u4 rfl s5_17)))
         have s8_18 := ef 8 he_18 (up_m rfl (u2 rfl (u4 rfl s8_17)))
         have s10_18 := ef 10 he_18 (up_m rfl (u2 rfl (u4 rfl s10_17)))
         have s11_18 := ef 11 he_18 (up_m rfl (u2 rfl (u4 rfl s11_17)))
         have s12_18 := ef 12 he_18 up_h
         clear he_18 s10_17 s11_17 s5_17 s8_17
         refine then_n ?_
         refine aw_seq ?_
         refine aw_text (by kernel_rfl) ?_
         refine al_ro' (ro_eq (ro_ld_ptr k35_ty103 rfl mo3_16 s8_18 (by first | exact Nat.le_of_ble_eq_true rfl | omega | (simp only [lnS] <;> omega) | (simp <;> omega))) (by first | (simp only [packA_t, packA_f, iE, bE, setAt, cellsA, Value.cells, map_vc, map_vn, Nat.reduceAdd, qS] <;> rfl) | rfl)) trivial rfl ?_
         refine al_ro' (ro_eq (ro_ld_ptr k35_ty3 rfl mo2_16 (up_m rfl s5_18) (by first | exact Nat.le_of_ble_eq_true rfl | omega | (simp only [lnS] <;> omega) | (simp <;> omega))) (by first | (simp only [packA_t, packA_f, iE, bE, setAt, cellsA, Value.cells, map_vc, map_vn, Nat.reduceAdd, qS] <;> rfl) | rfl)) trivial rfl ?_
         refine al_ro' (ro_move (u2 rfl s12_18)) trivial rfl ?_
         refine al_ro' (ro_build (evP_cons (up_m rfl up_h) (evP_cons up_h evP_nil)) k35_bz42 k35_bu42 k35_bp42 rfl) trivial rfl ?_
         refine al_ro' (ro_move (u4 rfl s11_18)) trivial rfl ?_
         refine al_ro' (ro_call (evL_cons (u4 rfl up_h) (evL_cons (up_m rfl up_h) (evL_cons up_h evL_nil))) rfl (runTp_ok nm ps hR.1 b d v hR.2.1 post s hR.2.2.1 s1 s2) k35_hcf72) trivial rfl ?_
         refine al_ro' (ro_move up_h) trivial rfl ?_
         refine al_ro' (ro_extract up_h rfl) trivial rfl ?_
         refine al_ro' (ro_extract (up_m rfl up_h) rfl) trivial rfl ?_
         refine al_ro' (ro_assign (up_m rfl up_h)) trivial rfl ?_
         refine al_ro' (ro_assign (up_m rfl up_h)) trivial rfl ?_
         refine al_end (fun e_19 he_19 => ?_)
         have s10_19 := ef 10 he_19 (up_m rfl (u2 rfl (u8 rfl s10_18)))
         have s12_19 := ef 12 he_19 (up_m rfl (u2 rfl (u8 rfl s12_18)))
         have s14_19 := ef 14 he_19 up_h
         clear he_19 s10_18 s11_18 s12_18 s5_18 s8_18
         refine then_n ?_
         refine aw_seq ?_
         refine aw_text (by kernel_rfl) ?_
         refine al_ro' (ro_move s14_19) trivial rfl ?_
         refine al_ro' (ro_eql up_h ev_c) trivial rfl ?_
         refine al_end (fun e_20 he_20 => ?_)
         have s10_20 := ef 10 he_20 (u2 rfl s10_19)
         have s12_20 := ef 12 he_20 (u2 rfl s12_19)
         have s53_20 := ef 53 he_20 up_h
         clear he_20 s10_19 s12_19 s14_19
         refine then_n ?_
         refine aw_case s53_20 (fun hq_21 => ?_) (fun hq_21 => ?_)
         · (first | replace hq_21 := bnt hq_21 | replace hq_21 := bnf hq_21 | replace hq_21 := bt hq_21 | replace hq_21 := bf hq_21 | replace hq_21 := bt' hq_21 | replace hq_21 := bf' hq_21 | skip)
           first
           | (cases hq_21; done) | (exfalso; omega)
           | (
              refine aw_text (by kernel_rfl) ?_
              refine al_ro' (ro_eq (ro_ld_ptr k35_ty3 rfl mo4_16 s10_20 (by first | exact Nat.le_of_ble_eq_true rfl | omega | (simp only [lnS] <;> omega) | (simp <;> omega))) (by first | (simp only [packA_t, packA_f, iE, bE, setAt, cellsA, Value.cells, map_vc, map_vn, Nat.reduceAdd, qS] <;> rfl) | rfl)) trivial rfl ?_
              refine al_ro' (ro_move (up_m rfl s12_20)) trivial rfl ?_
              refine al_ro' (ro_max (up_m rfl up_h) up_h) trivial rfl ?_
              refine al_stm (st_store (up_m rfl (u2 rfl s10_20)) up_h rfl rfl mo4_16 k35_sz3 rfl (by first | exact Nat.le_of_ble_eq_true rfl | omega | (simp only [lnS] <;> omega) | (simp <;> omega))) trivial rfl (fun m_22 hm_22 => ?_)
              have mo4_22 := m_set hm_22 mo4_16
              (try simp only [packA_t, packA_f, iE, bE, setAt, cellsA, Value.cells, map_vc, map_vn, Nat.reduceAdd, qS] at mo4_22)
              have mo3_22 := m_set_o hm_22 mo3_16 (by decide)
              have mo2_22 := m_set_o hm_22 mo2_16 (by decide)
              have mo1_22 := m_set_o hm_22 mo1_16 (by decide)
              have mo0_22 := m_set_o hm_22 mo0_16 (by decide)
              have ml_22 := m_set_l hm_22 ml_16
              clear hm_22 mo4_16 mo3_16 mo2_16 mo1_16 mo0_16
              refine al_end (fun e_23 he_23 => ?_)
              have s10_23 := ef 10 he_23 (up_n (up_m rfl (u2 rfl s10_20)))
              clear he_23 s10_20 s12_20 s53_20
              refine block_n ?_
              refine rnd_n ⟨_, mo4_22, (mo3_22.trans mo3_13.symm), (mo2_22.trans mo2_13.symm), (mo1_22.trans mo1_13.symm), (mo0_22.trans mo0_13.symm), ml_22, ?_⟩
              (rw [hinv, gaF_next hs', gaS]; first | (rw [if_pos (by assumption)]; rfl) | rw [if_neg (by assumption)]))
         · (first | replace hq_21 := bnt hq_21 | replace hq_21 := bnf hq_21 | replace hq_21 := bt hq_21 | replace hq_21 := bf hq_21 | replace hq_21 := bt' hq_21 | replace hq_21 := bf' hq_21 | skip)
           first
           | (cases hq_21; done) | (exfalso; omega)
           | (
              refine aw_skip ?_
              refine block_n ?_
              refine rnd_n ⟨_, mo4_16, (mo3_16.trans mo3_13.symm), (mo2_16.trans mo2_13.symm), (mo1_16.trans mo1_13.symm), (mo0_16.trans mo0_13.symm), ml_16, ?_⟩
              (rw [hinv, gaF_next hs', gaS]; first | (rw [if_pos (by assumption)]; rfl) | rw [if_neg (by assumption)]))
       · rintro m_16 ⟨mm, mo4_16, mk3_16, mk2_16, mk1_16, mk0_16, ml_16, hinv⟩
         have mo3_16 := mk3_16.trans mo3_13
         have mo2_16 := mk2_16.trans mo2_13
         have mo1_16 := mk1_16.trans mo1_13
         have mo0_16 := mk0_16.trans mo0_13
         (have hga : mm = gaW ps b d post := (by rw [hinv, stY_len, List.take_length]; rfl))
         refine block_n ?_
         refine then_n ?_
         refine aw_seq ?_
         refine aw_seq ?_
         refine aw_text (by kernel_rfl) ?_
         refine al_ro' (ro_eq (ro_ld_ptr k35_ty3 rfl mo4_16 s10_15 (by first | exact Nat.le_of_ble_eq_true rfl | omega | (simp only [lnS] <;> omega) | (simp <;> omega))) (by first | (simp only [packA_t, packA_f, iE, bE, setAt, cellsA, Value.cells, map_vc, map_vn, Nat.reduceAdd, qS] <;> rfl) | rfl)) trivial rfl ?_
         refine al_ro' (ro_eql up_h ev_c) trivial rfl ?_
         refine al_end (fun e_24 he_24 => ?_)
         have s10_24 := ef 10 he_24 (u2 rfl s10_15)
         have s58_24 := ef 58 he_24 up_h
         clear he_24 s10_15 s35_15 s5_15 s8_15
         refine then_n ?_
         refine aw_case s58_24 (fun hq_25 => ?_) (fun hq_25 => ?_)
         · (first | replace hq_25 := bnt hq_25 | replace hq_25 := bnf hq_25 | replace hq_25 := bt hq_25 | replace hq_25 := bf hq_25 | replace hq_25 := bt' hq_25 | replace hq_25 := bf' hq_25 | skip)
           first
           | (cases hq_25; done) | (exfalso; omega)
           | (
              refine aw_seq ?_
              refine aw_text (by kernel_rfl) ?_
              refine al_ro' (ro_assign ev_c) trivial rfl ?_
              refine al_ro' (ro_assign ev_c) trivial rfl ?_
              refine al_end (fun e_26 he_26 => ?_)
              have s6_26 := ef 6 he_26 (up_m rfl up_h)
              have s7_26 := ef 7 he_26 up_h
              clear he_26 s10_24 s58_24
              refine then_n ?_
              refine aw_ret ?_
              refine then_r ?_
              refine ret2 (.inr rfl) (by kernel_rfl) (resV_tmp s6_26) (resV_tmp s7_26) (.ro _ rfl) (.ro _ rfl) ?_
              clear s6_26 s7_26 mo4_16 mo3_16 mo2_16 mo1_16 mo0_16 ml_16
              (rw [hq, if_pos rfl, if_pos rfl, ← hga]; first | (rw [if_pos (by omega), if_pos (by omega)]; done) | (rw [if_neg (by omega), if_neg (by omega)]; done)))
         · (first | replace hq_25 := bnt hq_25 | replace hq_25 := bnf hq_25 | replace hq_25 := bt hq_25 | replace hq_25 := bf hq_25 | replace hq_25 := bt' hq_25 | replace hq_25 := bf' hq_25 | skip)
           first
           | (cases hq_25; done) | (exfalso; omega)
           | (
              refine aw_skip ?_
              refine then_n ?_
              refine aw_seq ?_
              refine aw_text (by kernel_rfl) ?_
              refine al_ro' (ro_eq (ro_ld_ptr k35_ty3 rfl mo4_16 s10_24 (by first | exact Nat.le_of_ble_eq_true rfl | omega | (simp only [lnS] <;> omega) | (simp <;> omega))) (by first | (simp only [packA_t, packA_f, iE, bE, setAt, cellsA, Value.cells, map_vc, map_vn, Nat.reduceAdd, qS] <;> rfl) | rfl)) trivial rfl ?_
              refine al_ro' (ro_assign up_h) trivial rfl ?_
              refine al_ro' (ro_assign ev_c) trivial rfl ?_
              refine al_end (fun e_27 he_27 => ?_)
              have s6_27 := ef 6 he_27 (up_m rfl up_h)
              have s7_27 := ef 7 he_27 up_h
              clear he_27 s10_24 s58_24
              refine then_n ?_
              refine aw_ret ?_
              refine ret2 (.inr rfl) (by kernel_rfl) (resV_tmp s6_27) (resV_tmp s7_27) (.ro _ rfl) (.ro _ rfl) ?_
              clear s6_27 s7_27 mo4_16 mo3_16 mo2_16 mo1_16 mo0_16 ml_16
              (rw [hq, if_pos rfl, if_pos rfl, ← hga]; first | (rw [if_pos (by omega), if_pos (by omega)]; done) | (rw [if_neg (by omega), if_neg (by omega)]; done))))
/-- Not safe at a post. -/
def fuB (ps : List Piece) (b d : Int) (xs : List Int) (i : Nat) : Prop := (rcW ps b d (i : Int) (xs.getD i default)).length = 0
instance (ps : List Piece) (b d : Int) (xs : List Int) (i : Nat) : Decidable (fuB ps b d xs i) := by unfold fuB; exact inferInstance
end Go.Proofs.Ytelgkjekpcfffaa
