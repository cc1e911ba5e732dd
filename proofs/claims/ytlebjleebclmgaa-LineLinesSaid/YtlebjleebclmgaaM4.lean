/- Texts of this claim, one behind the other: lemmas for the statement. -/
import Derived.Test.YtlebjleebclmgaaM3
/- Contracts of chapter 1: the document's check of a line. No conditions on a program. -/
namespace Go.Proofs.Ytlebjleebclmgaa
open Go Go.RowKit Go.Proofs
set_option linter.unusedSimpArgs false
set_option linter.unusedVariables false
theorem y10_az30 : (Try.prog.info? 30).bind (·.zero) = some (.agg #[.int .i64 0, .int .i64 0]) := by kernel_rfl
theorem y10_az85 : (Try.prog.info? 85).bind (·.zero) = some (.agg #[.int .i64 0, .int .i64 0, .int .i64 0, .int .i64 0]) := by kernel_rfl
theorem y10_bz30 : (Try.prog.info? 30).bind (·.zero) = some (.agg #[.int .i64 0, .int .i64 0]) := by kernel_rfl
theorem y10_bu30 : Try.prog.underlying 30 = some (.struct (fsOf Try.prog 30)) := by kernel_rfl
theorem y10_bp30 : ∀ w, ((fsOf Try.prog 30).mapM fun f => Prod.mk f.offset <$> sizeOf f.type : Sem (Array (Nat × Nat))).run Try.prog w = .ok (#[(0, 1), (1, 1)]) w := fun _ => by kernel_rfl
theorem y10_fl26_0 : FldIs Try.prog 26 0 0 false 1 := by unfold FldIs; kernel_rfl
theorem y10_fl26_1 : FldIs Try.prog 26 1 1 false 1 := by unfold FldIs; kernel_rfl
theorem y10_fl26_2 : FldIs Try.prog 26 2 2 false 1 := by unfold FldIs; kernel_rfl
theorem y10_fl26_3 : FldIs Try.prog 26 3 3 false 1 := by unfold FldIs; kernel_rfl
theorem y10_fl60_0 : FldIs Try.prog 60 0 0 false 1 := by unfold FldIs; kernel_rfl
theorem y10_fl60_1 : FldIs Try.prog 60 1 1 false 1 := by unfold FldIs; kernel_rfl
theorem y10_fl85_0 : FldIs Try.prog 85 0 0 false 1 := by unfold FldIs; kernel_rfl
theorem y10_fl85_1 : FldIs Try.prog 85 1 1 false 1 := by unfold FldIs; kernel_rfl
theorem y10_fl85_2 : FldIs Try.prog 85 2 2 true 2 := by unfold FldIs; kernel_rfl
theorem y10_fl88_0 : FldIs Try.prog 88 0 0 false 1 := by unfold FldIs; kernel_rfl
theorem y10_fl88_1 : FldIs Try.prog 88 1 1 false 1 := by unfold FldIs; kernel_rfl
theorem y10_hcf42 : ∀ args w, (callFunc 42 args).run Try.prog w = .ok (.enter 42 args) w := fun _ _ => by kernel_rfl
theorem y10_hcf43 : ∀ args w, (callFunc 43 args).run Try.prog w = .ok (.enter 43 args) w := fun _ _ => by kernel_rfl
theorem y10_hcf44 : ∀ args w, (callFunc 44 args).run Try.prog w = .ok (.enter 44 args) w := fun _ _ => by kernel_rfl
theorem y10_hcf45 : ∀ args w, (callFunc 45 args).run Try.prog w = .ok (.enter 45 args) w := fun _ _ => by kernel_rfl
theorem y10_sl22 : SlIs Try.prog 22 85 4 32 (.agg #[.int .i64 0, .int .i64 0, .int .i64 0, .int .i64 0]) := ⟨by kernel_rfl, by kernel_rfl, by kernel_rfl⟩
theorem y10_sl23 : SlIs Try.prog 23 88 2 16 (.agg #[.int .i64 0, .int .i64 0]) := ⟨by kernel_rfl, by kernel_rfl, by kernel_rfl⟩
theorem y10_sl24 : SlIs Try.prog 24 69 3 48 (.agg #[.string ByteArray.empty, .int .i64 0, .slice none 0 0]) := ⟨by kernel_rfl, by kernel_rfl, by kernel_rfl⟩
theorem y10_sz30 : (Try.prog.info? 30).map (·.size) = some 2 := by kernel_rfl
theorem y10_sz85 : (Try.prog.info? 85).map (·.size) = some 4 := by kernel_rfl
theorem y10_ty22 : TyIs Try.prog 22 false 1 := ⟨by kernel_rfl, by kernel_rfl⟩
theorem y10_ty23 : TyIs Try.prog 23 false 1 := ⟨by kernel_rfl, by kernel_rfl⟩
theorem y10_ty24 : TyIs Try.prog 24 false 1 := ⟨by kernel_rfl, by kernel_rfl⟩
theorem y10_ty26 : TyIs Try.prog 26 true 4 := ⟨by kernel_rfl, by kernel_rfl⟩
theorem y10_ty3 : TyIs Try.prog 3 false 1 := ⟨by kernel_rfl, by kernel_rfl⟩
theorem y10_ty30 : TyIs Try.prog 30 true 2 := ⟨by kernel_rfl, by kernel_rfl⟩
theorem y10_ty85 : TyIs Try.prog 85 true 4 := ⟨by kernel_rfl, by kernel_rfl⟩
theorem y10_ty9 : TyIs Try.prog 9 false 1 := ⟨by kernel_rfl, by kernel_rfl⟩

theorem lisM_hit {k : Int} {f : Nat → Int} {n i : Nat} {z : (Int × Int) × Int} (hn : ∀ j, j < i → f j = 0) (hi : f i ≠ 0) (h : i < n) : lisM k f n z = ((k, (i : Int)), f i) := by
  unfold lisM; rw [firN_some hn hi h]
theorem lisM_miss {k : Int} {f : Nat → Int} {n : Nat} {z : (Int × Int) × Int} (hn : ∀ j, j < n → f j = 0) : lisM k f n z = z := by
  unfold lisM; rw [firN_none hn]
theorem linM_in {l : Lin} (h1 : isNameB l.nam = true) (h2 : ¬ (l.bs.length = 0 ∨ l.js.length ≠ l.bs.length + 1)) (h3 : ¬ 40 < l.bs.length) : linM l = lisM 1 (fun i => jntE (l.js.getD i default)) l.js.length
    (lisM 2 (fun i => beaE (l.bs.getD i default)) l.bs.length
      (if 4 < l.ss.length then ((0, 0), 8) else lisM 3 (swiE l) l.ss.length ((0, 0), 0))) := by
  unfold linM; rw [h1, if_neg h2, if_neg h3]; rfl
set_option maxRecDepth 100000 in
set_option maxHeartbeats 4000000 in
theorem rCheckLine_ok (l : Lin) (hl : Sho l) : FnOk Try.prog 12 [lnA l] (fun q => q = .tuple [.agg [mA (linM l).1.1, mA (linM l).1.2], mA (linM l).2]) := by
  obtain ⟨h1, h2, h3, h4, h5⟩ := id hl
  refine fnOk_of (fn := Try.f12) 129 (by kernel_rfl) rfl (by kernel_rfl) (Nat.le_of_ble_eq_true rfl) ?_
  intro e_0 m_0 hA hm_0
  have s0_0 : evA e_0 (.tmp 0) = _ := hA 0 _ rfl
  have ml_0 : m_0.length = 0 := by rw [hm_0]; rfl
  clear hA hm_0
  refine aw_seq ?_
  refine aw_text (by kernel_rfl) ?_
  refine al_stm (st_box s0_0 rfl ml_0) trivial rfl (fun m_1 hm_1 => ?_)
  have mo0_1 := m_push hm_1 ml_0
  (try simp only [packA_t, packA_f, iE, bE, setAt, cellsA, Value.cells, map_vc, map_vn, Nat.reduceAdd, qS, jnE] at mo0_1)
  have ml_1 := m_push_l hm_1 ml_0
  have ml_1 : _ = 1 := ml_1
  clear hm_1
  refine al_stm (st_alloc y10_az30 rfl ml_1) trivial rfl (fun m_2 hm_2 => ?_)
  have mo1_2 := m_push hm_2 ml_1
  (try simp only [packA_t, packA_f, iE, bE, setAt, cellsA, Value.cells, map_vc, map_vn, Nat.reduceAdd, qS, jnE] at mo1_2)
  have mo0_2 := m_push_o hm_2 mo0_1
  have ml_2 := m_push_l hm_2 ml_1
  have ml_2 : _ = 2 := ml_2
  clear hm_2 mo0_1
  refine al_ro' (ro_assign ev_c) trivial rfl ?_
  refine al_end (fun e_3 he_3 => ?_)
  have s1_3 := ef 1 he_3 (u2 rfl up_h)
  have s2_3 := ef 2 he_3 (up_m rfl up_h)
  clear he_3 s0_0
  refine then_n ?_
  refine aw_seq ?_
  refine aw_seq ?_
  refine aw_text (by kernel_rfl) ?_
  refine al_ro' (ro_fld_ptr y10_fl26_0 rfl s1_3) trivial rfl ?_
  refine al_ro' (ro_eq (ro_ld_ptr y10_ty9 rfl mo0_2 up_h (by first | exact Nat.le_of_ble_eq_true rfl | omega | (simp only [lnS] <;> omega) | (simp <;> omega))) (by first | (simp only [packA_t, packA_f, iE, bE, setAt, cellsA, Value.cells, map_vc, map_vn, Nat.reduceAdd, qS, jnE] <;> rfl) | rfl)) trivial rfl ?_
  refine al_ro' (ro_call (evL_cons up_h evL_nil) rfl (bIsName_ok _ (by omega)) y10_hcf42) trivial rfl ?_
  refine al_ro' (ro_not up_h) trivial rfl ?_
  refine al_end (fun e_4 he_4 => ?_)
  have s1_4 := ef 1 he_4 (u4 rfl s1_3)
  have s2_4 := ef 2 he_4 (u4 rfl s2_3)
  have s12_4 := ef 12 he_4 up_h
  clear he_4 s1_3 s2_3
  refine then_n ?_
  refine aw_case s12_4 (fun hq_5 => ?_) (fun hq_5 => ?_)
  · (first | replace hq_5 := bnt hq_5 | replace hq_5 := bnf hq_5 | replace hq_5 := bt hq_5 | replace hq_5 := bf hq_5 | replace hq_5 := bt' hq_5 | replace hq_5 := bf' hq_5 | skip)
    first
    | (cases hq_5; done) | (exfalso; omega)
    | (
       refine aw_seq ?_
       refine aw_text (by kernel_rfl) ?_
       refine al_ro' (ro_build evP_nil y10_bz30 y10_bu30 y10_bp30 rfl) trivial rfl ?_
       refine al_stm (st_store (up_m rfl s2_4) up_h rfl rfl mo1_2 y10_sz30 rfl (by first | exact Nat.le_of_ble_eq_true rfl | omega | (simp only [lnS] <;> omega) | (simp <;> omega))) trivial rfl (fun m_6 hm_6 => ?_)
       have mo1_6 := m_set hm_6 mo1_2
       (try simp only [packA_t, packA_f, iE, bE, setAt, cellsA, Value.cells, map_vc, map_vn, Nat.reduceAdd, qS, jnE] at mo1_6)
       have mo0_6 := m_set_o hm_6 mo0_2 (by decide)
       have ml_6 := m_set_l hm_6 ml_2
       clear hm_6 mo1_2 mo0_2
       refine al_ro' (ro_assign ev_c) trivial rfl ?_
       refine al_end (fun e_7 he_7 => ?_)
       have s2_7 := ef 2 he_7 (up_m rfl (up_n (up_m rfl s2_4)))
       have s3_7 := ef 3 he_7 up_h
       clear he_7 s12_4 s1_4 s2_4
       refine then_n ?_
       refine aw_ret ?_
       refine then_r ?_
       refine ret2 (.inr rfl) (by kernel_rfl) (resV_cell s2_7 mo1_6 y10_ty30 (by first | exact Nat.le_of_ble_eq_true rfl | omega | (simp only [lnS] <;> omega) | (simp <;> omega)) (by simp)) (resV_tmp s3_7) (vw_r (.ro _ rfl)) (.ro _ rfl) ?_
       clear s2_7 s3_7 mo1_6 mo0_6 ml_6
       (have e : isNameB l.nam = false := (by assumption); rw [show linM l = ((0, 0), 4) by unfold linM; rw [e]; rfl]; rfl))
  · (first | replace hq_5 := bnt hq_5 | replace hq_5 := bnf hq_5 | replace hq_5 := bt hq_5 | replace hq_5 := bf hq_5 | replace hq_5 := bt' hq_5 | replace hq_5 := bf' hq_5 | skip)
    first
    | (cases hq_5; done) | (exfalso; omega)
    | (
       refine aw_skip ?_
       refine then_n ?_
       refine aw_seq ?_
       refine aw_seq ?_
       refine aw_cut (fun e mem => (evA e (.tmp 27) = .v (.bool (decide (l.bs.length = 0 ∨ l.js.length ≠ l.bs.length + 1)))) ∧ (evA e (.tmp 1) = evA e_4 (.tmp 1)) ∧ (evA e (.tmp 2) = evA e_4 (.tmp 2)) ∧ m_2 = mem) ?_ ?_
       ·
         refine aw_text (by kernel_rfl) ?_
         refine al_ro' (ro_fld_ptr y10_fl26_2 rfl s1_4) trivial rfl ?_
         refine al_ro' (ro_eq (ro_ld_ptr y10_ty23 rfl mo0_2 up_h (by first | exact Nat.le_of_ble_eq_true rfl | omega | (simp only [lnS] <;> omega) | (simp <;> omega))) (by first | (simp only [packA_t, packA_f, iE, bE, setAt, cellsA, Value.cells, map_vc, map_vn, Nat.reduceAdd, qS, jnE] <;> rfl) | rfl)) trivial rfl ?_
         refine al_ro' (ro_eq (ro_len_row up_h rfl y10_sl23.1) (by first | (simp only [lnS] <;> rfl) | rfl)) trivial rfl ?_
         refine al_ro' (ro_eql up_h ev_c) trivial rfl ?_
         refine al_ro' (ro_move up_h) trivial rfl ?_
         refine al_case up_h (fun hb_9 hq_9 => ?_) (fun hb_9 hq_9 => ?_)
         · (first | replace hq_9 := bnt hq_9 | replace hq_9 := bnf hq_9 | replace hq_9 := bt hq_9 | replace hq_9 := bf hq_9 | replace hq_9 := bt' hq_9 | replace hq_9 := bf' hq_9 | skip)
           first
           | (cases hq_9; done) | (exfalso; omega)
           | (
              refine al_skip' ⟨_, rfl, .inl hb_9⟩ rfl ?_
              refine al_skip' ⟨_, rfl, .inl (up_m rfl hb_9)⟩ rfl ?_
              refine al_skip' ⟨_, rfl, .inl (u2 rfl hb_9)⟩ rfl ?_
              refine al_skip' ⟨_, rfl, .inl (up_m rfl (u2 rfl hb_9))⟩ rfl ?_
              refine al_skip' ⟨_, rfl, .inl (u4 rfl hb_9)⟩ rfl ?_
              refine al_skip' ⟨_, rfl, .inl (up_m rfl (u4 rfl hb_9))⟩ rfl ?_
              refine al_skip' ⟨_, rfl, .inl (u2 rfl (u4 rfl hb_9))⟩ rfl ?_
              refine al_skip' ⟨_, rfl, .inl (up_m rfl (u2 rfl (u4 rfl hb_9)))⟩ rfl ?_
              refine al_ro' (ro_pickT (u8 rfl hb_9) ev_c) trivial rfl ?_
              refine al_end (fun e_10 he_10 => ?_)
              have s1_10 := ef 1 he_10 (u2 rfl (u4 rfl (u8 rfl s1_4)))
              have s2_10 := ef 2 he_10 (u2 rfl (u4 rfl (u8 rfl s2_4)))
              have s27_10 := ef 27 he_10 up_h
              clear he_10
              refine then_n ⟨(s27_10).trans (by (refine avb ?_; simp only [decide_eq_true_eq, Bool.false_eq_true, true_iff, false_iff, iff_true, iff_false, Bool.not_eq_true', decide_eq_false_iff_not]; omega)), (s1_10).trans (s1_4).symm, (s2_10).trans (s2_4).symm, rfl⟩)
         · (first | replace hq_9 := bnt hq_9 | replace hq_9 := bnf hq_9 | replace hq_9 := bt hq_9 | replace hq_9 := bf hq_9 | replace hq_9 := bt' hq_9 | replace hq_9 := bf' hq_9 | skip)
           first
           | (cases hq_9; done) | (exfalso; omega)
           | (
              refine al_ro' (ro_fld_ptr y10_fl26_1 rfl (up_m rfl (u4 rfl s1_4))) ⟨_, rfl, hb_9⟩ rfl ?_
              refine al_ro' (ro_eq (ro_ld_ptr y10_ty22 rfl mo0_2 up_h (by first | exact Nat.le_of_ble_eq_true rfl | omega | (simp only [lnS] <;> omega) | (simp <;> omega))) (by first | (simp only [packA_t, packA_f, iE, bE, setAt, cellsA, Value.cells, map_vc, map_vn, Nat.reduceAdd, qS, jnE] <;> rfl) | rfl)) ⟨_, rfl, (up_m rfl hb_9)⟩ rfl ?_
              refine al_ro' (ro_eq (ro_len_row up_h rfl y10_sl22.1) (by first | (simp only [lnS] <;> rfl) | rfl)) ⟨_, rfl, (u2 rfl hb_9)⟩ rfl ?_
              refine al_ro' (ro_fld_ptr y10_fl26_2 rfl (u8 rfl s1_4)) ⟨_, rfl, (up_m rfl (u2 rfl hb_9))⟩ rfl ?_
              refine al_ro' (ro_eq (ro_ld_ptr y10_ty23 rfl mo0_2 up_h (by first | exact Nat.le_of_ble_eq_true rfl | omega | (simp only [lnS] <;> omega) | (simp <;> omega))) (by first | (simp only [packA_t, packA_f, iE, bE, setAt, cellsA, Value.cells, map_vc, map_vn, Nat.reduceAdd, qS, jnE] <;> rfl) | rfl)) ⟨_, rfl, (u4 rfl hb_9)⟩ rfl ?_
              refine al_ro' (ro_eq (ro_len_row up_h rfl y10_sl23.1) (by first | (simp only [lnS] <;> rfl) | rfl)) ⟨_, rfl, (up_m rfl (u4 rfl hb_9))⟩ rfl ?_
              first | (refine al_ro' (ro_add' up_h ev_c ?_) ⟨_, rfl, (u2 rfl (u4 rfl hb_9))⟩ rfl ?_; · (unfold In64; omega)) | refine al_ro' (ro_add up_h ev_c) ⟨_, rfl, (u2 rfl (u4 rfl hb_9))⟩ rfl ?_
              refine al_ro' (ro_neq (u4 rfl up_h) up_h) ⟨_, rfl, (up_m rfl (u2 rfl (u4 rfl hb_9)))⟩ rfl ?_
              refine al_ro' (ro_pickF (u8 rfl hb_9) up_h) trivial rfl ?_
              refine al_end (fun e_11 he_11 => ?_)
              have s1_11 := ef 1 he_11 (u2 rfl (u4 rfl (u8 rfl s1_4)))
              have s2_11 := ef 2 he_11 (u2 rfl (u4 rfl (u8 rfl s2_4)))
              have s27_11 := ef 27 he_11 up_h
              clear he_11
              refine then_n ⟨(s27_11).trans (by (refine avb ?_; simp only [decide_eq_true_eq, Bool.false_eq_true, true_iff, false_iff, iff_true, iff_false, Bool.not_eq_true', decide_eq_false_iff_not]; omega)), (s1_11).trans (s1_4).symm, (s2_11).trans (s2_4).symm, rfl⟩)
       · rintro e_8 _ ⟨s27_8, k1_8, k2_8, rfl⟩
         have s1_8 := k1_8.trans s1_4
         have s2_8 := k2_8.trans s2_4
         refine aw_case s27_8 (fun hq_12 => ?_) (fun hq_12 => ?_)
         · (first | replace hq_12 := bnt hq_12 | replace hq_12 := bnf hq_12 | replace hq_12 := bt hq_12 | replace hq_12 := bf hq_12 | replace hq_12 := bt' hq_12 | replace hq_12 := bf' hq_12 | skip)
           first
           | (cases hq_12; done) | (exfalso; omega)
           | (
              refine aw_seq ?_
              refine aw_text (by kernel_rfl) ?_
              refine al_ro' (ro_build evP_nil y10_bz30 y10_bu30 y10_bp30 rfl) trivial rfl ?_
              refine al_stm (st_store (up_m rfl s2_8) up_h rfl rfl mo1_2 y10_sz30 rfl (by first | exact Nat.le_of_ble_eq_true rfl | omega | (simp only [lnS] <;> omega) | (simp <;> omega))) trivial rfl (fun m_13 hm_13 => ?_)
              have mo1_13 := m_set hm_13 mo1_2
              (try simp only [packA_t, packA_f, iE, bE, setAt, cellsA, Value.cells, map_vc, map_vn, Nat.reduceAdd, qS, jnE] at mo1_13)
              have mo0_13 := m_set_o hm_13 mo0_2 (by decide)
              have ml_13 := m_set_l hm_13 ml_2
              clear hm_13 mo1_2 mo0_2
              refine al_ro' (ro_assign ev_c) trivial rfl ?_
              refine al_end (fun e_14 he_14 => ?_)
              have s2_14 := ef 2 he_14 (up_m rfl (up_n (up_m rfl s2_8)))
              have s3_14 := ef 3 he_14 up_h
              clear he_14 s1_8 s27_8 s2_8
              refine then_n ?_
              refine aw_ret ?_
              refine then_r ?_
              refine ret2 (.inr rfl) (by kernel_rfl) (resV_cell s2_14 mo1_13 y10_ty30 (by first | exact Nat.le_of_ble_eq_true rfl | omega | (simp only [lnS] <;> omega) | (simp <;> omega)) (by simp)) (resV_tmp s3_14) (vw_r (.ro _ rfl)) (.ro _ rfl) ?_
              clear s2_14 s3_14 mo1_13 mo0_13 ml_13
              (have e : isNameB l.nam = true := (by assumption); have hs : l.bs.length = 0 ∨ l.js.length ≠ l.bs.length + 1 := (by first | assumption | simp_all); rw [show linM l = ((0, 0), 10) by unfold linM; simp only [e, Bool.not_true, Bool.false_eq_true, if_false, if_pos hs]]; rfl))
         · (first | replace hq_12 := bnt hq_12 | replace hq_12 := bnf hq_12 | replace hq_12 := bt hq_12 | replace hq_12 := bf hq_12 | replace hq_12 := bt' hq_12 | replace hq_12 := bf' hq_12 | skip)
           first
           | (cases hq_12; done) | (exfalso; omega)
           | (
              refine aw_skip ?_
              refine then_n ?_
              refine aw_seq ?_
              refine aw_seq ?_
              refine aw_text (by kernel_rfl) ?_
              refine al_ro' (ro_fld_ptr y10_fl26_2 rfl s1_8) trivial rfl ?_
              refine al_ro' (ro_eq (ro_ld_ptr y10_ty23 rfl mo0_2 up_h (by first | exact Nat.le_of_ble_eq_true rfl | omega | (simp only [lnS] <;> omega) | (simp <;> omega))) (by first | (simp only [packA_t, packA_f, iE, bE, setAt, cellsA, Value.cells, map_vc, map_vn, Nat.reduceAdd, qS, jnE] <;> rfl) | rfl)) trivial rfl ?_
              refine al_ro' (ro_eq (ro_len_row up_h rfl y10_sl23.1) (by first | (simp only [lnS] <;> rfl) | rfl)) trivial rfl ?_
              refine al_ro' (ro_gtr up_h ev_c) trivial rfl ?_
              refine al_end (fun e_15 he_15 => ?_)
              have s1_15 := ef 1 he_15 (u4 rfl s1_8)
              have s2_15 := ef 2 he_15 (u4 rfl s2_8)
              have s32_15 := ef 32 he_15 up_h
              clear he_15 s1_8 s27_8 s2_8
              refine then_n ?_
              refine aw_case s32_15 (fun hq_16 => ?_) (fun hq_16 => ?_)
              · (first | replace hq_16 := bnt hq_16 | replace hq_16 := bnf hq_16 | replace hq_16 := bt hq_16 | replace hq_16 := bf hq_16 | replace hq_16 := bt' hq_16 | replace hq_16 := bf' hq_16 | skip)
                first
                | (cases hq_16; done) | (exfalso; omega)
                | (
                   refine aw_seq ?_
                   refine aw_text (by kernel_rfl) ?_
                   refine al_ro' (ro_build evP_nil y10_bz30 y10_bu30 y10_bp30 rfl) trivial rfl ?_
                   refine al_stm (st_store (up_m rfl s2_15) up_h rfl rfl mo1_2 y10_sz30 rfl (by first | exact Nat.le_of_ble_eq_true rfl | omega | (simp only [lnS] <;> omega) | (simp <;> omega))) trivial rfl (fun m_17 hm_17 => ?_)
                   have mo1_17 := m_set hm_17 mo1_2
                   (try simp only [packA_t, packA_f, iE, bE, setAt, cellsA, Value.cells, map_vc, map_vn, Nat.reduceAdd, qS, jnE] at mo1_17)
                   have mo0_17 := m_set_o hm_17 mo0_2 (by decide)
                   have ml_17 := m_set_l hm_17 ml_2
                   clear hm_17 mo1_2 mo0_2
                   refine al_ro' (ro_assign ev_c) trivial rfl ?_
                   refine al_end (fun e_18 he_18 => ?_)
                   have s2_18 := ef 2 he_18 (up_m rfl (up_n (up_m rfl s2_15)))
                   have s3_18 := ef 3 he_18 up_h
                   clear he_18 s1_15 s2_15 s32_15
                   refine then_n ?_
                   refine aw_ret ?_
                   refine then_r ?_
                   refine ret2 (.inr rfl) (by kernel_rfl) (resV_cell s2_18 mo1_17 y10_ty30 (by first | exact Nat.le_of_ble_eq_true rfl | omega | (simp only [lnS] <;> omega) | (simp <;> omega)) (by simp)) (resV_tmp s3_18) (vw_r (.ro _ rfl)) (.ro _ rfl) ?_
                   clear s2_18 s3_18 mo1_17 mo0_17 ml_17
                   (have e : isNameB l.nam = true := (by assumption); have hs : ¬ (l.bs.length = 0 ∨ l.js.length ≠ l.bs.length + 1) := (by first | assumption | omega); have hg : 40 < l.bs.length := (by omega); rw [show linM l = ((0, 0), 8) by unfold linM; simp only [e, Bool.not_true, Bool.false_eq_true, if_false, if_neg hs, if_pos hg]]; rfl))
              · (first | replace hq_16 := bnt hq_16 | replace hq_16 := bnf hq_16 | replace hq_16 := bt hq_16 | replace hq_16 := bf hq_16 | replace hq_16 := bt' hq_16 | replace hq_16 := bf' hq_16 | skip)
                first
                | (cases hq_16; done) | (exfalso; omega)
                | (
                   (have hin := linM_in (l := l) (by assumption) (by first | assumption | omega) (by omega))
                   refine aw_skip ?_
                   refine then_n ?_
                   refine aw_seq ?_
                   refine aw_seq ?_
                   refine aw_text (by kernel_rfl) ?_
                   refine al_ro' (ro_assign ev_c) trivial rfl ?_
                   refine al_end (fun e_19 he_19 => ?_)
                   have s1_19 := ef 1 he_19 (up_m rfl s1_15)
                   have s2_19 := ef 2 he_19 (up_m rfl s2_15)
                   have s4_19 := ef 4 he_19 up_h
                   clear he_19 s1_15 s2_15 s32_15
                   refine then_n ?_
                   refine aw_block ?_
                   refine aw_loop (S := Int) (fun k e mem => (evA e (.tmp 4) = .v (.int .i64 k)) ∧ (evA e (.tmp 1) = evA e_19 (.tmp 1)) ∧ (evA e (.tmp 2) = evA e_19 (.tmp 2)) ∧ (mem[1]? = m_2[1]?) ∧ (mem[0]? = m_2[0]?) ∧ (∃ n, mem.length = n ∧ 2 ≤ n) ∧ ((0 ≤ k ∧ k ≤ l.js.length ∧ ∀ j : Nat, j < k.toNat → jntE (l.js.getD j default) = 0))) (fun k => (l.js.length - k).toNat) _ ⟨s4_19, rfl, rfl, rfl, rfl, ⟨_, ml_2, Nat.le_refl _⟩, ?_⟩ ?_
                   · (exact ⟨by omega, by omega, fun j h => absurd h (by omega)⟩)
                   · rintro k e_20 m_20 ⟨s4_20, k1_20, k2_20, mk1_20, mk0_20, ⟨n_20, ml_20, hn_20⟩, hinv⟩
                     have s1_20 := k1_20.trans s1_19
                     have s2_20 := k2_20.trans s2_19
                     have mo1_20 := mk1_20.trans mo1_2
                     have mo0_20 := mk0_20.trans mo0_2
                     (obtain ⟨p1, p2, p3⟩ := hinv)
                     refine aw_seq ?_
                     refine aw_seq ?_
                     refine aw_text (by kernel_rfl) ?_
                     refine al_ro' (ro_move s4_20) trivial rfl ?_
                     refine al_ro' (ro_fld_ptr y10_fl26_1 rfl (up_m rfl s1_20)) trivial rfl ?_
                     refine al_ro' (ro_eq (ro_ld_ptr y10_ty22 rfl mo0_20 up_h (by first | exact Nat.le_of_ble_eq_true rfl | omega | (simp only [lnS] <;> omega) | (simp <;> omega))) (by first | (simp only [packA_t, packA_f, iE, bE, setAt, cellsA, Value.cells, map_vc, map_vn, Nat.reduceAdd, qS, jnE] <;> rfl) | rfl)) trivial rfl ?_
                     refine al_ro' (ro_eq (ro_len_row up_h rfl y10_sl22.1) (by first | (simp only [lnS] <;> rfl) | rfl)) trivial rfl ?_
                     refine al_ro' (ro_lss (up_m rfl (u2 rfl up_h)) up_h) trivial rfl ?_
                     refine al_end (fun e_21 he_21 => ?_)
                     have s1_21 := ef 1 he_21 (up_m rfl (u4 rfl s1_20))
                     have s2_21 := ef 2 he_21 (up_m rfl (u4 rfl s2_20))
                     have s4_21 := ef 4 he_21 (up_m rfl (u4 rfl s4_20))
                     have s38_21 := ef 38 he_21 up_h
                     clear he_21 s1_20 s2_20 s4_20
                     refine then_n ?_
                     refine aw_case s38_21 (fun hq_22 => ?_) (fun hq_22 => ?_)
                     · (first | replace hq_22 := bnt hq_22 | replace hq_22 := bnf hq_22 | replace hq_22 := bt hq_22 | replace hq_22 := bf hq_22 | replace hq_22 := bt' hq_22 | replace hq_22 := bf' hq_22 | skip)
                       first
                       | (cases hq_22; done) | (exfalso; omega)
                       | (
                          refine aw_skip ?_
                          refine then_n ?_
                          refine aw_seq ?_
                          refine aw_block ?_
                          refine aw_seq ?_
                          refine aw_text (by kernel_rfl) ?_
                          refine al_ro' (ro_fld_ptr y10_fl26_1 rfl s1_21) trivial rfl ?_
                          refine al_ro' (ro_eq (ro_ld_ptr y10_ty22 rfl mo0_20 up_h (by first | exact Nat.le_of_ble_eq_true rfl | omega | (simp only [lnS] <;> omega) | (simp <;> omega))) (by first | (simp only [packA_t, packA_f, iE, bE, setAt, cellsA, Value.cells, map_vc, map_vn, Nat.reduceAdd, qS, jnE] <;> rfl) | rfl)) trivial rfl ?_
                          refine al_ro' (ro_move (u2 rfl s4_21)) trivial rfl ?_
                          refine al_ro' (ro_eq (ro_ix y10_sl22 (up_m rfl up_h) up_h (by first | decide | omega | (simp <;> omega)) (by first | (refine idx_map ?_; first | omega | (simp only [lnS]; omega)) | (refine idx_mapI ?_; first | omega | (simp only [lnS]; omega)) | (refine idx_mapN ?_; first | omega | (simp only [lnS]; omega)) | rfl)) (by first | (simp only [packA_t, packA_f, iE, bE, setAt, cellsA, Value.cells, map_vc, map_vn, Nat.reduceAdd, qS, jnE] <;> rfl) | rfl)) trivial rfl ?_
                          refine al_ro' (ro_eq (ro_ld_ref y10_ty85 rfl up_h (by first | exact Nat.le_of_ble_eq_true rfl | omega | (simp only [lnS] <;> omega) | (simp <;> omega))) (by first | (simp only [packA_t, packA_f, iE, bE, setAt, cellsA, Value.cells, map_vc, map_vn, Nat.reduceAdd, qS, jnE] <;> rfl) | rfl)) trivial rfl ?_
                          refine al_stm (st_alloc y10_az85 rfl ml_20) trivial rfl (fun m_23 hm_23 => ?_)
                          have mon_20_23 := m_push hm_23 ml_20
                          (try simp only [packA_t, packA_f, iE, bE, setAt, cellsA, Value.cells, map_vc, map_vn, Nat.reduceAdd, qS, jnE] at mon_20_23)
                          have mo1_23 := m_push_o hm_23 mo1_20
                          have mo0_23 := m_push_o hm_23 mo0_20
                          have ml_23 := m_push_l hm_23 ml_20
                          clear hm_23 mo1_20 mo0_20
                          refine al_stm (st_store up_h (up_m rfl up_h) rfl rfl mon_20_23 y10_sz85 rfl (by first | exact Nat.le_of_ble_eq_true rfl | omega | (simp only [lnS] <;> omega) | (simp <;> omega))) trivial rfl (fun m_24 hm_24 => ?_)
                          have mon_20_24 := m_set hm_24 mon_20_23
                          (try simp only [packA_t, packA_f, iE, bE, setAt, cellsA, Value.cells, map_vc, map_vn, Nat.reduceAdd, qS, jnE] at mon_20_24)
                          have mo1_24 := m_set_o hm_24 mo1_23 (by omega)
                          have mo0_24 := m_set_o hm_24 mo0_23 (by omega)
                          have ml_24 := m_set_l hm_24 ml_23
                          clear hm_24 mon_20_23 mo1_23 mo0_23
                          refine al_end (fun e_25 he_25 => ?_)
                          have s1_25 := ef 1 he_25 (up_n (u2 rfl (u4 rfl s1_21)))
                          have s2_25 := ef 2 he_25 (up_n (u2 rfl (u4 rfl s2_21)))
                          have s4_25 := ef 4 he_25 (up_n (u2 rfl (u4 rfl s4_21)))
                          have s5_25 := ef 5 he_25 (up_n up_h)
                          clear he_25 s1_21 s2_21 s38_21 s4_21
                          refine then_n ?_
                          refine aw_seq ?_
                          refine aw_seq ?_
                          refine aw_cut (fun e mem => (evA e (.tmp 69) = .v (.bool (!jntB (l.js.getD k.toNat default)))) ∧ (evA e (.tmp 1) = evA e_25 (.tmp 1)) ∧ (evA e (.tmp 2) = evA e_25 (.tmp 2)) ∧ (evA e (.tmp 4) = evA e_25 (.tmp 4)) ∧ (evA e (.tmp 5) = evA e_25 (.tmp 5)) ∧ m_24 = mem) ?_ ?_
                          ·
                            refine aw_text (by kernel_rfl) ?_
                            refine al_ro' (ro_fld_ptr y10_fl85_0 rfl s5_25) trivial rfl ?_
                            refine al_ro' (ro_eq (ro_ld_ptr y10_ty3 rfl mon_20_24 up_h (by first | exact Nat.le_of_ble_eq_true rfl | omega | (simp only [lnS] <;> omega) | (simp <;> omega))) (by first | (simp only [packA_t, packA_f, iE, bE, setAt, cellsA, Value.cells, map_vc, map_vn, Nat.reduceAdd, qS, jnE] <;> rfl) | rfl)) trivial rfl ?_
                            refine al_ro' (ro_call (evL_cons up_h (evL_cons ev_c evL_nil)) rfl (size_ok _ _ (by decide)) y10_hcf43) trivial rfl ?_
                            refine al_ro' (ro_not up_h) trivial rfl ?_
                            refine al_ro' (ro_move up_h) trivial rfl ?_
                            refine al_case up_h (fun hb_27 hq_27 => ?_) (fun hb_27 hq_27 => ?_)
                            · (first | replace hq_27 := bnt hq_27 | replace hq_27 := bnf hq_27 | replace hq_27 := bt hq_27 | replace hq_27 := bf hq_27 | replace hq_27 := bt' hq_27 | replace hq_27 := bf' hq_27 | skip)
                              first
                              | (cases hq_27; done) | (exfalso; omega)
                              | (
                                 refine al_skip' ⟨_, rfl, .inl hb_27⟩ rfl ?_
                                 refine al_skip' ⟨_, rfl, .inl (up_m rfl hb_27)⟩ rfl ?_
                                 refine al_skip' ⟨_, rfl, .inl (u2 rfl hb_27)⟩ rfl ?_
                                 refine al_skip' ⟨_, rfl, .inl (up_m rfl (u2 rfl hb_27))⟩ rfl ?_
                                 refine al_ro' (ro_pickT (u4 rfl hb_27) ev_c) trivial rfl ?_
                                 refine al_ro' (ro_move up_h) trivial rfl ?_
                                 refine al_skip' ⟨_, rfl, .inl up_h⟩ rfl ?_
                                 refine al_skip' ⟨_, rfl, .inl (up_m rfl up_h)⟩ rfl ?_
                                 refine al_skip' ⟨_, rfl, .inl (u2 rfl up_h)⟩ rfl ?_
                                 refine al_skip' ⟨_, rfl, .inl (up_m rfl (u2 rfl up_h))⟩ rfl ?_
                                 refine al_skip' ⟨_, rfl, .inl (u4 rfl up_h)⟩ rfl ?_
                                 refine al_ro' (ro_pickT (up_m rfl (u4 rfl up_h)) ev_c) trivial rfl ?_
                                 refine al_ro' (ro_move up_h) trivial rfl ?_
                                 refine al_skip' ⟨_, rfl, .inl up_h⟩ rfl ?_
                                 refine al_skip' ⟨_, rfl, .inl (up_m rfl up_h)⟩ rfl ?_
                                 refine al_skip' ⟨_, rfl, .inl (u2 rfl up_h)⟩ rfl ?_
                                 refine al_skip' ⟨_, rfl, .inl (up_m rfl (u2 rfl up_h))⟩ rfl ?_
                                 refine al_skip' ⟨_, rfl, .inl (u4 rfl up_h)⟩ rfl ?_
                                 refine al_ro' (ro_pickT (up_m rfl (u4 rfl up_h)) ev_c) trivial rfl ?_
                                 refine al_end (fun e_28 he_28 => ?_)
                                 have s1_28 := ef 1 he_28 (u8 rfl (u16 rfl s1_25))
                                 have s2_28 := ef 2 he_28 (u8 rfl (u16 rfl s2_25))
                                 have s4_28 := ef 4 he_28 (u8 rfl (u16 rfl s4_25))
                                 have s5_28 := ef 5 he_28 (u8 rfl (u16 rfl s5_25))
                                 have s69_28 := ef 69 he_28 up_h
                                 clear he_28
                                 refine then_n ⟨(s69_28).trans (by (refine avb ?_; unfold jntB; simp_all)), (s1_28).trans (s1_25).symm, (s2_28).trans (s2_25).symm, (s4_28).trans (s4_25).symm, (s5_28).trans (s5_25).symm, rfl⟩)
                            · (first | replace hq_27 := bnt hq_27 | replace hq_27 := bnf hq_27 | replace hq_27 := bt hq_27 | replace hq_27 := bf hq_27 | replace hq_27 := bt' hq_27 | replace hq_27 := bf' hq_27 | skip)
                              first
                              | (cases hq_27; done) | (exfalso; omega)
                              | (
                                 refine al_ro' (ro_fld_ptr y10_fl85_1 rfl (up_m rfl (u4 rfl s5_25))) ⟨_, rfl, hb_27⟩ rfl ?_
                                 refine al_ro' (ro_eq (ro_ld_ptr y10_ty3 rfl mon_20_24 up_h (by first | exact Nat.le_of_ble_eq_true rfl | omega | (simp only [lnS] <;> omega) | (simp <;> omega))) (by first | (simp only [packA_t, packA_f, iE, bE, setAt, cellsA, Value.cells, map_vc, map_vn, Nat.reduceAdd, qS, jnE] <;> rfl) | rfl)) ⟨_, rfl, (up_m rfl hb_27)⟩ rfl ?_
                                 refine al_ro' (ro_call (evL_cons up_h (evL_cons ev_c evL_nil)) rfl (size_ok _ _ (by decide)) y10_hcf43) ⟨_, rfl, (u2 rfl hb_27)⟩ rfl ?_
                                 refine al_ro' (ro_not up_h) ⟨_, rfl, (up_m rfl (u2 rfl hb_27))⟩ rfl ?_
                                 refine al_ro' (ro_pickF (u4 rfl hb_27) up_h) trivial rfl ?_
                                 refine al_ro' (ro_move up_h) trivial rfl ?_
                                 refine al_case up_h (fun hb_29 hq_29 => ?_) (fun hb_29 hq_29 => ?_)
                                 · (first | replace hq_29 := bnt hq_29 | replace hq_29 := bnf hq_29 | replace hq_29 := bt hq_29 | replace hq_29 := bf hq_29 | replace hq_29 := bt' hq_29 | replace hq_29 := bf' hq_29 | skip)
                                   first
                                   | (cases hq_29; done) | (exfalso; omega)
                                   | (
                                      refine al_skip' ⟨_, rfl, .inl hb_29⟩ rfl ?_
                                      refine al_skip' ⟨_, rfl, .inl (up_m rfl hb_29)⟩ rfl ?_
                                      refine al_skip' ⟨_, rfl, .inl (u2 rfl hb_29)⟩ rfl ?_
                                      refine al_skip' ⟨_, rfl, .inl (up_m rfl (u2 rfl hb_29))⟩ rfl ?_
                                      refine al_skip' ⟨_, rfl, .inl (u4 rfl hb_29)⟩ rfl ?_
                                      refine al_ro' (ro_pickT (up_m rfl (u4 rfl hb_29)) ev_c) trivial rfl ?_
                                      refine al_ro' (ro_move up_h) trivial rfl ?_
                                      refine al_skip' ⟨_, rfl, .inl up_h⟩ rfl ?_
                                      refine al_skip' ⟨_, rfl, .inl (up_m rfl up_h)⟩ rfl ?_
                                      refine al_skip' ⟨_, rfl, .inl (u2 rfl up_h)⟩ rfl ?_
                                      refine al_skip' ⟨_, rfl, .inl (up_m rfl (u2 rfl up_h))⟩ rfl ?_
                                      refine al_skip' ⟨_, rfl, .inl (u4 rfl up_h)⟩ rfl ?_
                                      refine al_ro' (ro_pickT (up_m rfl (u4 rfl up_h)) ev_c) trivial rfl ?_
                                      refine al_end (fun e_30 he_30 => ?_)
                                      have s1_30 := ef 1 he_30 (u8 rfl (u16 rfl s1_25))
                                      have s2_30 := ef 2 he_30 (u8 rfl (u16 rfl s2_25))
                                      have s4_30 := ef 4 he_30 (u8 rfl (u16 rfl s4_25))
                                      have s5_30 := ef 5 he_30 (u8 rfl (u16 rfl s5_25))
                                      have s69_30 := ef 69 he_30 up_h
                                      clear he_30
                                      refine then_n ⟨(s69_30).trans (by (refine avb ?_; unfold jntB; simp_all)), (s1_30).trans (s1_25).symm, (s2_30).trans (s2_25).symm, (s4_30).trans (s4_25).symm, (s5_30).trans (s5_25).symm, rfl⟩)
                                 · (first | replace hq_29 := bnt hq_29 | replace hq_29 := bnf hq_29 | replace hq_29 := bt hq_29 | replace hq_29 := bf hq_29 | replace hq_29 := bt' hq_29 | replace hq_29 := bf' hq_29 | skip)
                                   first
                                   | (cases hq_29; done) | (exfalso; omega)
                                   | (
                                      refine al_ro' (ro_fld_ptr y10_fl85_2 rfl (up_m rfl (u2 rfl (u8 rfl s5_25)))) ⟨_, rfl, hb_29⟩ rfl ?_
                                      refine al_ro' (ro_fld_ptr y10_fl60_0 rfl up_h) ⟨_, rfl, (up_m rfl hb_29)⟩ rfl ?_
                                      refine al_ro' (ro_eq (ro_ld_ptr y10_ty3 rfl mon_20_24 up_h (by first | exact Nat.le_of_ble_eq_true rfl | omega | (simp only [lnS] <;> omega) | (simp <;> omega))) (by first | (simp only [packA_t, packA_f, iE, bE, setAt, cellsA, Value.cells, map_vc, map_vn, Nat.reduceAdd, qS, jnE] <;> rfl) | rfl)) ⟨_, rfl, (u2 rfl hb_29)⟩ rfl ?_
                                      refine al_ro' (ro_call (evL_cons up_h (evL_cons ev_c evL_nil)) rfl (size_ok _ _ (by decide)) y10_hcf43) ⟨_, rfl, (up_m rfl (u2 rfl hb_29))⟩ rfl ?_
                                      refine al_ro' (ro_not up_h) ⟨_, rfl, (u4 rfl hb_29)⟩ rfl ?_
                                      refine al_ro' (ro_pickF (up_m rfl (u4 rfl hb_29)) up_h) trivial rfl ?_
                                      refine al_ro' (ro_move up_h) trivial rfl ?_
                                      refine al_case up_h (fun hb_31 hq_31 => ?_) (fun hb_31 hq_31 => ?_)
                                      · (first | replace hq_31 := bnt hq_31 | replace hq_31 := bnf hq_31 | replace hq_31 := bt hq_31 | replace hq_31 := bf hq_31 | replace hq_31 := bt' hq_31 | replace hq_31 := bf' hq_31 | skip)
                                        first
                                        | (cases hq_31; done) | (exfalso; omega)
                                        | (
                                           refine al_skip' ⟨_, rfl, .inl hb_31⟩ rfl ?_
                                           refine al_skip' ⟨_, rfl, .inl (up_m rfl hb_31)⟩ rfl ?_
                                           refine al_skip' ⟨_, rfl, .inl (u2 rfl hb_31)⟩ rfl ?_
                                           refine al_skip' ⟨_, rfl, .inl (up_m rfl (u2 rfl hb_31))⟩ rfl ?_
                                           refine al_skip' ⟨_, rfl, .inl (u4 rfl hb_31)⟩ rfl ?_
                                           refine al_ro' (ro_pickT (up_m rfl (u4 rfl hb_31)) ev_c) trivial rfl ?_
                                           refine al_end (fun e_32 he_32 => ?_)
                                           have s1_32 := ef 1 he_32 (u8 rfl (u16 rfl s1_25))
                                           have s2_32 := ef 2 he_32 (u8 rfl (u16 rfl s2_25))
                                           have s4_32 := ef 4 he_32 (u8 rfl (u16 rfl s4_25))
                                           have s5_32 := ef 5 he_32 (u8 rfl (u16 rfl s5_25))
                                           have s69_32 := ef 69 he_32 up_h
                                           clear he_32
                                           refine then_n ⟨(s69_32).trans (by (refine avb ?_; unfold jntB; simp_all)), (s1_32).trans (s1_25).symm, (s2_32).trans (s2_25).symm, (s4_32).trans (s4_25).symm, (s5_32).trans (s5_25).symm, rfl⟩)
                                      · (first | replace hq_31 := bnt hq_31 | replace hq_31 := bnf hq_31 | replace hq_31 := bt hq_31 | replace hq_31 := bf hq_31 | replace hq_31 := bt' hq_31 | replace hq_31 := bf' hq_31 | skip)
                                        first
                                        | (cases hq_31; done) | (exfalso; omega)
                                        | (
                                           refine al_ro' (ro_fld_ptr y10_fl85_2 rfl (u2 rfl (u16 rfl s5_25))) ⟨_, rfl, hb_31⟩ rfl ?_
                                           refine al_ro' (ro_fld_ptr y10_fl60_1 rfl up_h) ⟨_, rfl, (up_m rfl hb_31)⟩ rfl ?_
                                           refine al_ro' (ro_eq (ro_ld_ptr y10_ty3 rfl mon_20_24 up_h (by first | exact Nat.le_of_ble_eq_true rfl | omega | (simp only [lnS] <;> omega) | (simp <;> omega))) (by first | (simp only [packA_t, packA_f, iE, bE, setAt, cellsA, Value.cells, map_vc, map_vn, Nat.reduceAdd, qS, jnE] <;> rfl) | rfl)) ⟨_, rfl, (u2 rfl hb_31)⟩ rfl ?_
                                           refine al_ro' (ro_call (evL_cons up_h (evL_cons ev_c evL_nil)) rfl (size_ok _ _ (by decide)) y10_hcf43) ⟨_, rfl, (up_m rfl (u2 rfl hb_31))⟩ rfl ?_
                                           refine al_ro' (ro_not up_h) ⟨_, rfl, (u4 rfl hb_31)⟩ rfl ?_
                                           refine al_ro' (ro_pickF (up_m rfl (u4 rfl hb_31)) up_h) trivial rfl ?_
                                           refine al_end (fun e_33 he_33 => ?_)
                                           have s1_33 := ef 1 he_33 (u8 rfl (u16 rfl s1_25))
                                           have s2_33 := ef 2 he_33 (u8 rfl (u16 rfl s2_25))
                                           have s4_33 := ef 4 he_33 (u8 rfl (u16 rfl s4_25))
                                           have s5_33 := ef 5 he_33 (u8 rfl (u16 rfl s5_25))
                                           have s69_33 := ef 69 he_33 up_h
                                           clear he_33
                                           refine then_n ⟨(s69_33).trans (by (refine avb ?_; unfold jntB; simp_all)), (s1_33).trans (s1_25).symm, (s2_33).trans (s2_25).symm, (s4_33).trans (s4_25).symm, (s5_33).trans (s5_25).symm, rfl⟩)))
                          · rintro e_26 _ ⟨s69_26, k1_26, k2_26, k4_26, k5_26, rfl⟩
                            have s1_26 := k1_26.trans s1_25
                            have s2_26 := k2_26.trans s2_25
                            have s4_26 := k4_26.trans s4_25
                            have s5_26 := k5_26.trans s5_25
                            refine aw_case s69_26 (fun hq_34 => ?_) (fun hq_34 => ?_)
                            · (first | replace hq_34 := bnt hq_34 | replace hq_34 := bnf hq_34 | replace hq_34 := bt hq_34 | replace hq_34 := bf hq_34 | replace hq_34 := bt' hq_34 | replace hq_34 := bf' hq_34 | skip)
                              first
                              | (cases hq_34; done) | (exfalso; omega)
                              | (
                                 refine aw_seq ?_
                                 refine aw_text (by kernel_rfl) ?_
                                 refine al_ro' (ro_move s4_26) trivial rfl ?_
                                 refine al_ro' (ro_build (evP_cons ev_c (evP_cons up_h evP_nil)) y10_bz30 y10_bu30 y10_bp30 rfl) trivial rfl ?_
                                 refine al_stm (st_store (u2 rfl s2_26) up_h rfl rfl mo1_24 y10_sz30 rfl (by first | exact Nat.le_of_ble_eq_true rfl | omega | (simp only [lnS] <;> omega) | (simp <;> omega))) trivial rfl (fun m_35 hm_35 => ?_)
                                 have mo1_35 := m_set hm_35 mo1_24
                                 (try simp only [packA_t, packA_f, iE, bE, setAt, cellsA, Value.cells, map_vc, map_vn, Nat.reduceAdd, qS, jnE] at mo1_35)
                                 have mon_20_35 := m_set_o hm_35 mon_20_24 (by omega)
                                 have mo0_35 := m_set_o hm_35 mo0_24 (by decide)
                                 have ml_35 := m_set_l hm_35 ml_24
                                 clear hm_35 mon_20_24 mo1_24 mo0_24
                                 refine al_ro' (ro_assign ev_c) trivial rfl ?_
                                 refine al_end (fun e_36 he_36 => ?_)
                                 have s2_36 := ef 2 he_36 (up_m rfl (up_n (u2 rfl s2_26)))
                                 have s3_36 := ef 3 he_36 up_h
                                 clear he_36 s1_26 s2_26 s4_26 s5_26 s69_26
                                 refine then_n ?_
                                 refine aw_ret ?_
                                 refine then_r ?_
                                 refine block_r ?_
                                 refine then_r ?_
                                 refine then_r ?_
                                 refine block_r ?_
                                 refine then_r ?_
                                 refine ret2 (.inr rfl) (by kernel_rfl) (resV_cell s2_36 mo1_35 y10_ty30 (by first | exact Nat.le_of_ble_eq_true rfl | omega | (simp only [lnS] <;> omega) | (simp <;> omega)) (by simp)) (resV_tmp s3_36) (vw_r (.ro _ rfl)) (.ro _ rfl) ?_
                                 clear s2_36 s3_36 mo1_35 mon_20_35 mo0_35 ml_35
                                 (have e : jntE (l.js.getD k.toNat default) = 2 := (by unfold jntE; rw [‹jntB _ = false›]; rfl); rw [hin, lisM_hit (i := k.toNat) p3 (by rw [e]; decide) (by omega), e]; (first | (simp only [Int.toNat_of_nonneg p1]; done) | (simp only [Int.toNat_of_nonneg p1]; rfl))))
                            · (first | replace hq_34 := bnt hq_34 | replace hq_34 := bnf hq_34 | replace hq_34 := bt hq_34 | replace hq_34 := bf hq_34 | replace hq_34 := bt' hq_34 | replace hq_34 := bf' hq_34 | skip)
                              first
                              | (cases hq_34; done) | (exfalso; omega)
                              | (
                                 refine aw_skip ?_
                                 refine then_n ?_
                                 refine aw_seq ?_
                                 refine aw_text (by kernel_rfl) ?_
                                 refine al_ro' (ro_fld_ptr y10_fl85_2 rfl s5_26) trivial rfl ?_
                                 refine al_ro' (ro_fld_ptr y10_fl60_0 rfl up_h) trivial rfl ?_
                                 refine al_ro' (ro_eq (ro_ld_ptr y10_ty3 rfl mon_20_24 up_h (by first | exact Nat.le_of_ble_eq_true rfl | omega | (simp only [lnS] <;> omega) | (simp <;> omega))) (by first | (simp only [packA_t, packA_f, iE, bE, setAt, cellsA, Value.cells, map_vc, map_vn, Nat.reduceAdd, qS, jnE] <;> rfl) | rfl)) trivial rfl ?_
                                 refine al_ro' (ro_fld_ptr y10_fl85_2 rfl (up_m rfl (u2 rfl s5_26))) trivial rfl ?_
                                 refine al_ro' (ro_fld_ptr y10_fl60_1 rfl up_h) trivial rfl ?_
                                 refine al_ro' (ro_eq (ro_ld_ptr y10_ty3 rfl mon_20_24 up_h (by first | exact Nat.le_of_ble_eq_true rfl | omega | (simp only [lnS] <;> omega) | (simp <;> omega))) (by first | (simp only [packA_t, packA_f, iE, bE, setAt, cellsA, Value.cells, map_vc, map_vn, Nat.reduceAdd, qS, jnE] <;> rfl) | rfl)) trivial rfl ?_
                                 refine al_ro' (ro_gtr (up_m rfl (u2 rfl up_h)) up_h) trivial rfl ?_
                                 refine al_end (fun e_37 he_37 => ?_)
                                 have s1_37 := ef 1 he_37 (up_m rfl (u2 rfl (u4 rfl s1_26)))
                                 have s2_37 := ef 2 he_37 (up_m rfl (u2 rfl (u4 rfl s2_26)))
                                 have s4_37 := ef 4 he_37 (up_m rfl (u2 rfl (u4 rfl s4_26)))
                                 have s78_37 := ef 78 he_37 up_h
                                 clear he_37 s1_26 s2_26 s4_26 s5_26 s69_26
                                 refine then_n ?_
                                 refine aw_case s78_37 (fun hq_38 => ?_) (fun hq_38 => ?_)
                                 · (first | replace hq_38 := bnt hq_38 | replace hq_38 := bnf hq_38 | replace hq_38 := bt hq_38 | replace hq_38 := bf hq_38 | replace hq_38 := bt' hq_38 | replace hq_38 := bf' hq_38 | skip)
                                   first
                                   | (cases hq_38; done) | (exfalso; omega)
                                   | (
                                      refine aw_seq ?_
                                      refine aw_text (by kernel_rfl) ?_
                                      refine al_ro' (ro_move s4_37) trivial rfl ?_
                                      refine al_ro' (ro_build (evP_cons ev_c (evP_cons up_h evP_nil)) y10_bz30 y10_bu30 y10_bp30 rfl) trivial rfl ?_
                                      refine al_stm (st_store (u2 rfl s2_37) up_h rfl rfl mo1_24 y10_sz30 rfl (by first | exact Nat.le_of_ble_eq_true rfl | omega | (simp only [lnS] <;> omega) | (simp <;> omega))) trivial rfl (fun m_39 hm_39 => ?_)
                                      have mo1_39 := m_set hm_39 mo1_24
                                      (try simp only [packA_t, packA_f, iE, bE, setAt, cellsA, Value.cells, map_vc, map_vn, Nat.reduceAdd, qS, jnE] at mo1_39)
                                      have mon_20_39 := m_set_o hm_39 mon_20_24 (by omega)
                                      have mo0_39 := m_set_o hm_39 mo0_24 (by decide)
                                      have ml_39 := m_set_l hm_39 ml_24
                                      clear hm_39 mon_20_24 mo1_24 mo0_24
                                      refine al_ro' (ro_assign ev_c) trivial rfl ?_
                                      refine al_end (fun e_40 he_40 => ?_)
                                      have s2_40 := ef 2 he_40 (up_m rfl (up_n (u2 rfl s2_37)))
                                      have s3_40 := ef 3 he_40 up_h
                                      clear he_40 s1_37 s2_37 s4_37 s78_37
                                      refine then_n ?_
                                      refine aw_ret ?_
                                      refine block_r ?_
                                      refine then_r ?_
                                      refine then_r ?_
                                      refine block_r ?_
                                      refine then_r ?_
                                      refine ret2 (.inr rfl) (by kernel_rfl) (resV_cell s2_40 mo1_39 y10_ty30 (by first | exact Nat.le_of_ble_eq_true rfl | omega | (simp only [lnS] <;> omega) | (simp <;> omega)) (by simp)) (resV_tmp s3_40) (vw_r (.ro _ rfl)) (.ro _ rfl) ?_
                                      clear s2_40 s3_40 mo1_39 mon_20_39 mo0_39 ml_39
                                      (have e : jntE (l.js.getD k.toNat default) = 9 := (by unfold jntE; rw [‹jntB _ = true›, if_pos rfl, if_neg (by omega)]); rw [hin, lisM_hit (i := k.toNat) p3 (by rw [e]; decide) (by omega), e]; (first | (simp only [Int.toNat_of_nonneg p1]; done) | (simp only [Int.toNat_of_nonneg p1]; rfl))))
                                 · (first | replace hq_38 := bnt hq_38 | replace hq_38 := bnf hq_38 | replace hq_38 := bt hq_38 | replace hq_38 := bf hq_38 | replace hq_38 := bt' hq_38 | replace hq_38 := bf' hq_38 | skip)
                                   first
                                   | (cases hq_38; done) | (exfalso; omega)
                                   | (
                                      refine aw_skip ?_
                                      refine block_n ?_
                                      refine then_n ?_
                                      refine aw_text (by kernel_rfl) ?_
                                      refine al_ro' (ro_move s4_37) trivial rfl ?_
                                      first | (refine al_ro' (ro_add' up_h ev_c ?_) trivial rfl ?_; · (unfold In64; omega)) | refine al_ro' (ro_add up_h ev_c) trivial rfl ?_
                                      refine al_ro' (ro_assign up_h) trivial rfl ?_
                                      refine al_end (fun e_41 he_41 => ?_)
                                      have s1_41 := ef 1 he_41 (up_m rfl (u2 rfl s1_37))
                                      have s2_41 := ef 2 he_41 (up_m rfl (u2 rfl s2_37))
                                      have s4_41 := ef 4 he_41 up_h
                                      clear he_41 s1_37 s2_37 s4_37 s78_37
                                      refine then_n ?_
                                      refine ⟨_, ⟨s4_41, (s1_41.trans s1_19.symm), (s2_41.trans s2_19.symm), (mo1_24.trans mo1_2.symm), (mo0_24.trans mo0_2.symm), ⟨_, ml_24, by omega⟩, ?_⟩, ?_⟩
                                      · (refine ⟨by omega, by omega, fun j hj => ?_⟩; by_cases hji : j < k.toNat; (exact p3 j hji); (rw [show j = k.toNat by omega]; unfold jntE; rw [‹jntB _ = true›, if_pos rfl, if_pos (by omega)]))
                                      · ((try dsimp only); omega))))
                     · (first | replace hq_22 := bnt hq_22 | replace hq_22 := bnf hq_22 | replace hq_22 := bt hq_22 | replace hq_22 := bf hq_22 | replace hq_22 := bt' hq_22 | replace hq_22 := bf' hq_22 | skip)
                       first
                       | (cases hq_22; done) | (exfalso; omega)
                       | (
                          refine aw_exit ?_
                          refine then_x ?_
                          refine then_x ?_
                          refine block_hit ?_
                          refine then_n ?_
                          refine aw_seq ?_
                          refine aw_seq ?_
                          refine aw_text (by kernel_rfl) ?_
                          refine al_ro' (ro_assign ev_c) trivial rfl ?_
                          refine al_end (fun e_42 he_42 => ?_)
                          have s1_42 := ef 1 he_42 (up_m rfl s1_21)
                          have s2_42 := ef 2 he_42 (up_m rfl s2_21)
                          have s6_42 := ef 6 he_42 up_h
                          clear he_42 s1_21 s2_21 s38_21 s4_21
                          refine then_n ?_
                          refine aw_block ?_
                          refine aw_loop (S := Int) (fun k2 e mem => (evA e (.tmp 6) = .v (.int .i64 k2)) ∧ (evA e (.tmp 1) = evA e_42 (.tmp 1)) ∧ (evA e (.tmp 2) = evA e_42 (.tmp 2)) ∧ (mem[1]? = m_20[1]?) ∧ (mem[0]? = m_20[0]?) ∧ (mem.length = n_20) ∧ ((0 ≤ k2 ∧ k2 ≤ l.bs.length ∧ ∀ j : Nat, j < k2.toNat → beaE (l.bs.getD j default) = 0))) (fun k2 => (l.bs.length - k2).toNat) _ ⟨s6_42, rfl, rfl, rfl, rfl, ml_20, ?_⟩ ?_
                          · (exact ⟨by omega, by omega, fun j h => absurd h (by omega)⟩)
                          · rintro k2 e_43 m_43 ⟨s6_43, k1_43, k2_43, mk1_43, mk0_43, ml_43, hinv⟩
                            have s1_43 := k1_43.trans s1_42
                            have s2_43 := k2_43.trans s2_42
                            have mo1_43 := mk1_43.trans mo1_20
                            have mo0_43 := mk0_43.trans mo0_20
                            (obtain ⟨q1, q2, q3⟩ := hinv)
                            refine aw_seq ?_
                            refine aw_seq ?_
                            refine aw_text (by kernel_rfl) ?_
                            refine al_ro' (ro_move s6_43) trivial rfl ?_
                            refine al_ro' (ro_fld_ptr y10_fl26_2 rfl (up_m rfl s1_43)) trivial rfl ?_
                            refine al_ro' (ro_eq (ro_ld_ptr y10_ty23 rfl mo0_43 up_h (by first | exact Nat.le_of_ble_eq_true rfl | omega | (simp only [lnS] <;> omega) | (simp <;> omega))) (by first | (simp only [packA_t, packA_f, iE, bE, setAt, cellsA, Value.cells, map_vc, map_vn, Nat.reduceAdd, qS, jnE] <;> rfl) | rfl)) trivial rfl ?_
                            refine al_ro' (ro_eq (ro_len_row up_h rfl y10_sl23.1) (by first | (simp only [lnS] <;> rfl) | rfl)) trivial rfl ?_
                            refine al_ro' (ro_lss (up_m rfl (u2 rfl up_h)) up_h) trivial rfl ?_
                            refine al_end (fun e_44 he_44 => ?_)
                            have s1_44 := ef 1 he_44 (up_m rfl (u4 rfl s1_43))
                            have s2_44 := ef 2 he_44 (up_m rfl (u4 rfl s2_43))
                            have s6_44 := ef 6 he_44 (up_m rfl (u4 rfl s6_43))
                            have s85_44 := ef 85 he_44 up_h
                            clear he_44 s1_43 s2_43 s6_43
                            refine then_n ?_
                            refine aw_case s85_44 (fun hq_45 => ?_) (fun hq_45 => ?_)
                            · (first | replace hq_45 := bnt hq_45 | replace hq_45 := bnf hq_45 | replace hq_45 := bt hq_45 | replace hq_45 := bf hq_45 | replace hq_45 := bt' hq_45 | replace hq_45 := bf' hq_45 | skip)
                              first
                              | (cases hq_45; done) | (exfalso; omega)
                              | (
                                 refine aw_skip ?_
                                 refine then_n ?_
                                 refine aw_seq ?_
                                 refine aw_block ?_
                                 refine aw_seq ?_
                                 refine aw_cut (fun e mem => (evA e (.tmp 105) = .v (.bool (!beaB (l.bs.getD k2.toNat default)))) ∧ (evA e (.tmp 1) = evA e_44 (.tmp 1)) ∧ (evA e (.tmp 2) = evA e_44 (.tmp 2)) ∧ (evA e (.tmp 6) = evA e_44 (.tmp 6)) ∧ m_43 = mem) ?_ ?_
                                 ·
                                   refine aw_text (by kernel_rfl) ?_
                                   refine al_ro' (ro_fld_ptr y10_fl26_2 rfl s1_44) trivial rfl ?_
                                   refine al_ro' (ro_eq (ro_ld_ptr y10_ty23 rfl mo0_43 up_h (by first | exact Nat.le_of_ble_eq_true rfl | omega | (simp only [lnS] <;> omega) | (simp <;> omega))) (by first | (simp only [packA_t, packA_f, iE, bE, setAt, cellsA, Value.cells, map_vc, map_vn, Nat.reduceAdd, qS, jnE] <;> rfl) | rfl)) trivial rfl ?_
                                   refine al_ro' (ro_move (u2 rfl s6_44)) trivial rfl ?_
                                   refine al_ro' (ro_eq (ro_ix y10_sl23 (up_m rfl up_h) up_h (by first | decide | omega | (simp <;> omega)) (by first | (refine idx_map ?_; first | omega | (simp only [lnS]; omega)) | (refine idx_mapI ?_; first | omega | (simp only [lnS]; omega)) | (refine idx_mapN ?_; first | omega | (simp only [lnS]; omega)) | rfl)) (by first | (simp only [packA_t, packA_f, iE, bE, setAt, cellsA, Value.cells, map_vc, map_vn, Nat.reduceAdd, qS, jnE] <;> rfl) | rfl)) trivial rfl ?_
                                   refine al_ro' (ro_eq (ro_fld_ref y10_fl88_0 rfl up_h) (by first | (simp only [packA_t, packA_f, iE, bE, setAt, cellsA, Value.cells, map_vc, map_vn, Nat.reduceAdd, qS, jnE] <;> rfl) | rfl)) trivial rfl ?_
                                   refine al_ro' (ro_eq (ro_ld_ref y10_ty3 rfl up_h (by first | exact Nat.le_of_ble_eq_true rfl | omega | (simp only [lnS] <;> omega) | (simp <;> omega))) (by first | (simp only [packA_t, packA_f, iE, bE, setAt, cellsA, Value.cells, map_vc, map_vn, Nat.reduceAdd, qS, jnE] <;> rfl) | rfl)) trivial rfl ?_
                                   refine al_ro' (ro_call (evL_cons up_h (evL_cons ev_c (evL_cons ev_c evL_nil))) rfl (bWithin_ok _ _ _) y10_hcf44) trivial rfl ?_
                                   refine al_ro' (ro_not up_h) trivial rfl ?_
                                   refine al_ro' (ro_move up_h) trivial rfl ?_
                                   refine al_case up_h (fun hb_47 hq_47 => ?_) (fun hb_47 hq_47 => ?_)
                                   · (first | replace hq_47 := bnt hq_47 | replace hq_47 := bnf hq_47 | replace hq_47 := bt hq_47 | replace hq_47 := bf hq_47 | replace hq_47 := bt' hq_47 | replace hq_47 := bf' hq_47 | skip)
                                     first
                                     | (cases hq_47; done) | (exfalso; omega)
                                     | (
                                        refine al_skip' ⟨_, rfl, .inl hb_47⟩ rfl ?_
                                        refine al_skip' ⟨_, rfl, .inl (up_m rfl hb_47)⟩ rfl ?_
                                        refine al_skip' ⟨_, rfl, .inl (u2 rfl hb_47)⟩ rfl ?_
                                        refine al_skip' ⟨_, rfl, .inl (up_m rfl (u2 rfl hb_47))⟩ rfl ?_
                                        refine al_skip' ⟨_, rfl, .inl (u4 rfl hb_47)⟩ rfl ?_
                                        refine al_skip' ⟨_, rfl, .inl (up_m rfl (u4 rfl hb_47))⟩ rfl ?_
                                        refine al_skip' ⟨_, rfl, .inl (u2 rfl (u4 rfl hb_47))⟩ rfl ?_
                                        refine al_skip' ⟨_, rfl, .inl (up_m rfl (u2 rfl (u4 rfl hb_47)))⟩ rfl ?_
                                        refine al_ro' (ro_pickT (u8 rfl hb_47) ev_c) trivial rfl ?_
                                        refine al_end (fun e_48 he_48 => ?_)
                                        have s1_48 := ef 1 he_48 (u2 rfl (u16 rfl s1_44))
                                        have s2_48 := ef 2 he_48 (u2 rfl (u16 rfl s2_44))
                                        have s6_48 := ef 6 he_48 (u2 rfl (u16 rfl s6_44))
                                        have s105_48 := ef 105 he_48 up_h
                                        clear he_48
                                        refine then_n ⟨(s105_48).trans (by (refine avb ?_; unfold beaB; simp_all)), (s1_48).trans (s1_44).symm, (s2_48).trans (s2_44).symm, (s6_48).trans (s6_44).symm, rfl⟩)
                                   · (first | replace hq_47 := bnt hq_47 | replace hq_47 := bnf hq_47 | replace hq_47 := bt hq_47 | replace hq_47 := bf hq_47 | replace hq_47 := bt' hq_47 | replace hq_47 := bf' hq_47 | skip)
                                     first
                                     | (cases hq_47; done) | (exfalso; omega)
                                     | (
                                        refine al_ro' (ro_fld_ptr y10_fl26_2 rfl (up_m rfl (u8 rfl s1_44))) ⟨_, rfl, hb_47⟩ rfl ?_
                                        refine al_ro' (ro_eq (ro_ld_ptr y10_ty23 rfl mo0_43 up_h (by first | exact Nat.le_of_ble_eq_true rfl | omega | (simp only [lnS] <;> omega) | (simp <;> omega))) (by first | (simp only [packA_t, packA_f, iE, bE, setAt, cellsA, Value.cells, map_vc, map_vn, Nat.reduceAdd, qS, jnE] <;> rfl) | rfl)) ⟨_, rfl, (up_m rfl hb_47)⟩ rfl ?_
                                        refine al_ro' (ro_move (up_m rfl (u2 rfl (u8 rfl s6_44)))) ⟨_, rfl, (u2 rfl hb_47)⟩ rfl ?_
                                        refine al_ro' (ro_eq (ro_ix y10_sl23 (up_m rfl up_h) up_h (by first | decide | omega | (simp <;> omega)) (by first | (refine idx_map ?_; first | omega | (simp only [lnS]; omega)) | (refine idx_mapI ?_; first | omega | (simp only [lnS]; omega)) | (refine idx_mapN ?_; first | omega | (simp only [lnS]; omega)) | rfl)) (by first | (simp only [packA_t, packA_f, iE, bE, setAt, cellsA, Value.cells, map_vc, map_vn, Nat.reduceAdd, qS, jnE] <;> rfl) | rfl)) ⟨_, rfl, (up_m rfl (u2 rfl hb_47))⟩ rfl ?_
                                        refine al_ro' (ro_eq (ro_fld_ref y10_fl88_1 rfl up_h) (by first | (simp only [packA_t, packA_f, iE, bE, setAt, cellsA, Value.cells, map_vc, map_vn, Nat.reduceAdd, qS, jnE] <;> rfl) | rfl)) ⟨_, rfl, (u4 rfl hb_47)⟩ rfl ?_
                                        refine al_ro' (ro_eq (ro_ld_ref y10_ty3 rfl up_h (by first | exact Nat.le_of_ble_eq_true rfl | omega | (simp only [lnS] <;> omega) | (simp <;> omega))) (by first | (simp only [packA_t, packA_f, iE, bE, setAt, cellsA, Value.cells, map_vc, map_vn, Nat.reduceAdd, qS, jnE] <;> rfl) | rfl)) ⟨_, rfl, (up_m rfl (u4 rfl hb_47))⟩ rfl ?_
                                        refine al_ro' (ro_call (evL_cons up_h (evL_cons ev_c evL_nil)) rfl (size_ok _ _ (by decide)) y10_hcf43) ⟨_, rfl, (u2 rfl (u4 rfl hb_47))⟩ rfl ?_
                                        refine al_ro' (ro_not up_h) ⟨_, rfl, (up_m rfl (u2 rfl (u4 rfl hb_47)))⟩ rfl ?_
                                        refine al_ro' (ro_pickF (u8 rfl hb_47) up_h) trivial rfl ?_
                                        refine al_end (fun e_49 he_49 => ?_)
                                        have s1_49 := ef 1 he_49 (u2 rfl (u16 rfl s1_44))
                                        have s2_49 := ef 2 he_49 (u2 rfl (u16 rfl s2_44))
                                        have s6_49 := ef 6 he_49 (u2 rfl (u16 rfl s6_44))
                                        have s105_49 := ef 105 he_49 up_h
                                        clear he_49
                                        refine then_n ⟨(s105_49).trans (by (refine avb ?_; unfold beaB; simp_all)), (s1_49).trans (s1_44).symm, (s2_49).trans (s2_44).symm, (s6_49).trans (s6_44).symm, rfl⟩)
                                 · rintro e_46 _ ⟨s105_46, k1_46, k2_46, k6_46, rfl⟩
                                   have s1_46 := k1_46.trans s1_44
                                   have s2_46 := k2_46.trans s2_44
                                   have s6_46 := k6_46.trans s6_44
                                   refine aw_case s105_46 (fun hq_50 => ?_) (fun hq_50 => ?_)
                                   · (first | replace hq_50 := bnt hq_50 | replace hq_50 := bnf hq_50 | replace hq_50 := bt hq_50 | replace hq_50 := bf hq_50 | replace hq_50 := bt' hq_50 | replace hq_50 := bf' hq_50 | skip)
                                     first
                                     | (cases hq_50; done) | (exfalso; omega)
                                     | (
                                        refine aw_seq ?_
                                        refine aw_text (by kernel_rfl) ?_
                                        refine al_ro' (ro_move s6_46) trivial rfl ?_
                                        refine al_ro' (ro_build (evP_cons ev_c (evP_cons up_h evP_nil)) y10_bz30 y10_bu30 y10_bp30 rfl) trivial rfl ?_
                                        refine al_stm (st_store (u2 rfl s2_46) up_h rfl rfl mo1_43 y10_sz30 rfl (by first | exact Nat.le_of_ble_eq_true rfl | omega | (simp only [lnS] <;> omega) | (simp <;> omega))) trivial rfl (fun m_51 hm_51 => ?_)
                                        have mo1_51 := m_set hm_51 mo1_43
                                        (try simp only [packA_t, packA_f, iE, bE, setAt, cellsA, Value.cells, map_vc, map_vn, Nat.reduceAdd, qS, jnE] at mo1_51)
                                        have mo0_51 := m_set_o hm_51 mo0_43 (by decide)
                                        have ml_51 := m_set_l hm_51 ml_43
                                        clear hm_51 mo1_43 mo0_43
                                        refine al_ro' (ro_assign ev_c) trivial rfl ?_
                                        refine al_end (fun e_52 he_52 => ?_)
                                        have s2_52 := ef 2 he_52 (up_m rfl (up_n (u2 rfl s2_46)))
                                        have s3_52 := ef 3 he_52 up_h
                                        clear he_52 s105_46 s1_46 s2_46 s6_46
                                        refine then_n ?_
                                        refine aw_ret ?_
                                        refine block_r ?_
                                        refine then_r ?_
                                        refine then_r ?_
                                        refine block_r ?_
                                        refine then_r ?_
                                        refine ret2 (.inr rfl) (by kernel_rfl) (resV_cell s2_52 mo1_51 y10_ty30 (by first | exact Nat.le_of_ble_eq_true rfl | omega | (simp only [lnS] <;> omega) | (simp <;> omega)) (by simp)) (resV_tmp s3_52) (vw_r (.ro _ rfl)) (.ro _ rfl) ?_
                                        clear s2_52 s3_52 mo1_51 mo0_51 ml_51
                                        (have e : beaE (l.bs.getD k2.toNat default) = 2 := (by unfold beaE; rw [‹beaB _ = false›]; rfl); rw [hin, lisM_miss (fun j hj => p3 j (by omega)), lisM_hit (i := k2.toNat) q3 (by rw [e]; decide) (by omega), e]; (first | (simp only [Int.toNat_of_nonneg q1]; done) | (simp only [Int.toNat_of_nonneg q1]; rfl))))
                                   · (first | replace hq_50 := bnt hq_50 | replace hq_50 := bnf hq_50 | replace hq_50 := bt hq_50 | replace hq_50 := bf hq_50 | replace hq_50 := bt' hq_50 | replace hq_50 := bf' hq_50 | skip)
                                     first
                                     | (cases hq_50; done) | (exfalso; omega)
                                     | (
                                        refine aw_skip ?_
                                        refine block_n ?_
                                        refine then_n ?_
                                        refine aw_text (by kernel_rfl) ?_
                                        refine al_ro' (ro_move s6_46) trivial rfl ?_
                                        first | (refine al_ro' (ro_add' up_h ev_c ?_) trivial rfl ?_; · (unfold In64; omega)) | refine al_ro' (ro_add up_h ev_c) trivial rfl ?_
                                        refine al_ro' (ro_assign up_h) trivial rfl ?_
                                        refine al_end (fun e_53 he_53 => ?_)
                                        have s1_53 := ef 1 he_53 (up_m rfl (u2 rfl s1_46))
                                        have s2_53 := ef 2 he_53 (up_m rfl (u2 rfl s2_46))
                                        have s6_53 := ef 6 he_53 up_h
                                        clear he_53 s105_46 s1_46 s2_46 s6_46
                                        refine then_n ?_
                                        refine ⟨_, ⟨s6_53, (s1_53.trans s1_42.symm), (s2_53.trans s2_42.symm), (mo1_43.trans mo1_20.symm), (mo0_43.trans mo0_20.symm), ml_43, ?_⟩, ?_⟩
                                        · (refine ⟨by omega, by omega, fun j hj => ?_⟩; by_cases hji : j < k2.toNat; (exact q3 j hji); (rw [show j = k2.toNat by omega]; unfold beaE; rw [‹beaB _ = true›, if_pos rfl]))
                                        · ((try dsimp only); omega)))
                            · (first | replace hq_45 := bnt hq_45 | replace hq_45 := bnf hq_45 | replace hq_45 := bt hq_45 | replace hq_45 := bf hq_45 | replace hq_45 := bt' hq_45 | replace hq_45 := bf' hq_45 | skip)
                              first
                              | (cases hq_45; done) | (exfalso; omega)
                              | (
                                 refine aw_exit ?_
                                 refine then_x ?_
                                 refine then_x ?_
                                 refine block_hit ?_
                                 refine then_n ?_
                                 refine aw_seq ?_
                                 refine aw_seq ?_
                                 refine aw_text (by kernel_rfl) ?_
                                 refine al_ro' (ro_fld_ptr y10_fl26_3 rfl s1_44) trivial rfl ?_
                                 refine al_ro' (ro_eq (ro_ld_ptr y10_ty24 rfl mo0_43 up_h (by first | exact Nat.le_of_ble_eq_true rfl | omega | (simp only [lnS] <;> omega) | (simp <;> omega))) (by first | (simp only [packA_t, packA_f, iE, bE, setAt, cellsA, Value.cells, map_vc, map_vn, Nat.reduceAdd, qS, jnE] <;> rfl) | rfl)) trivial rfl ?_
                                 refine al_ro' (ro_eq (ro_len_row up_h rfl y10_sl24.1) (by first | (simp only [lnS] <;> rfl) | rfl)) trivial rfl ?_
                                 refine al_ro' (ro_gtr up_h ev_c) trivial rfl ?_
                                 refine al_end (fun e_54 he_54 => ?_)
                                 have s1_54 := ef 1 he_54 (u4 rfl s1_44)
                                 have s2_54 := ef 2 he_54 (u4 rfl s2_44)
                                 have s111_54 := ef 111 he_54 up_h
                                 clear he_54 s1_44 s2_44 s6_44 s85_44
                                 refine then_n ?_
                                 refine aw_case s111_54 (fun hq_55 => ?_) (fun hq_55 => ?_)
                                 · (first | replace hq_55 := bnt hq_55 | replace hq_55 := bnf hq_55 | replace hq_55 := bt hq_55 | replace hq_55 := bf hq_55 | replace hq_55 := bt' hq_55 | replace hq_55 := bf' hq_55 | skip)
                                   first
                                   | (cases hq_55; done) | (exfalso; omega)
                                   | (
                                      refine aw_seq ?_
                                      refine aw_text (by kernel_rfl) ?_
                                      refine al_ro' (ro_build evP_nil y10_bz30 y10_bu30 y10_bp30 rfl) trivial rfl ?_
                                      refine al_stm (st_store (up_m rfl s2_54) up_h rfl rfl mo1_43 y10_sz30 rfl (by first | exact Nat.le_of_ble_eq_true rfl | omega | (simp only [lnS] <;> omega) | (simp <;> omega))) trivial rfl (fun m_56 hm_56 => ?_)
                                      have mo1_56 := m_set hm_56 mo1_43
                                      (try simp only [packA_t, packA_f, iE, bE, setAt, cellsA, Value.cells, map_vc, map_vn, Nat.reduceAdd, qS, jnE] at mo1_56)
                                      have mo0_56 := m_set_o hm_56 mo0_43 (by decide)
                                      have ml_56 := m_set_l hm_56 ml_43
                                      clear hm_56 mo1_43 mo0_43
                                      refine al_ro' (ro_assign ev_c) trivial rfl ?_
                                      refine al_end (fun e_57 he_57 => ?_)
                                      have s2_57 := ef 2 he_57 (up_m rfl (up_n (up_m rfl s2_54)))
                                      have s3_57 := ef 3 he_57 up_h
                                      clear he_57 s111_54 s1_54 s2_54
                                      refine then_n ?_
                                      refine aw_ret ?_
                                      refine then_r ?_
                                      refine ret2 (.inr rfl) (by kernel_rfl) (resV_cell s2_57 mo1_56 y10_ty30 (by first | exact Nat.le_of_ble_eq_true rfl | omega | (simp only [lnS] <;> omega) | (simp <;> omega)) (by simp)) (resV_tmp s3_57) (vw_r (.ro _ rfl)) (.ro _ rfl) ?_
                                      clear s2_57 s3_57 mo1_56 mo0_56 ml_56
                                      (rw [hin, lisM_miss (fun j hj => p3 j (by omega)), lisM_miss (fun j hj => q3 j (by omega)), if_pos (by omega)]; rfl))
                                 · (first | replace hq_55 := bnt hq_55 | replace hq_55 := bnf hq_55 | replace hq_55 := bt hq_55 | replace hq_55 := bf hq_55 | replace hq_55 := bt' hq_55 | replace hq_55 := bf' hq_55 | skip)
                                   first
                                   | (cases hq_55; done) | (exfalso; omega)
                                   | (
                                      refine aw_skip ?_
                                      refine then_n ?_
                                      refine aw_seq ?_
                                      refine aw_seq ?_
                                      refine aw_text (by kernel_rfl) ?_
                                      refine al_ro' (ro_assign ev_c) trivial rfl ?_
                                      refine al_end (fun e_58 he_58 => ?_)
                                      have s1_58 := ef 1 he_58 (up_m rfl s1_54)
                                      have s2_58 := ef 2 he_58 (up_m rfl s2_54)
                                      have s7_58 := ef 7 he_58 up_h
                                      clear he_58 s111_54 s1_54 s2_54
                                      refine then_n ?_
                                      refine aw_block ?_
                                      refine aw_loop (S := Int) (fun k3 e mem => (evA e (.tmp 7) = .v (.int .i64 k3)) ∧ (evA e (.tmp 1) = evA e_58 (.tmp 1)) ∧ (evA e (.tmp 2) = evA e_58 (.tmp 2)) ∧ (mem[1]? = m_43[1]?) ∧ (mem[0]? = m_43[0]?) ∧ (mem.length = n_20) ∧ ((0 ≤ k3 ∧ k3 ≤ l.ss.length ∧ ∀ j : Nat, j < k3.toNat → swiE l j = 0))) (fun k3 => (l.ss.length - k3).toNat) _ ⟨s7_58, rfl, rfl, rfl, rfl, ml_43, ?_⟩ ?_
                                      · (exact ⟨by omega, by omega, fun j h => absurd h (by omega)⟩)
                                      · rintro k3 e_59 m_59 ⟨s7_59, k1_59, k2_59, mk1_59, mk0_59, ml_59, hinv⟩
                                        have s1_59 := k1_59.trans s1_58
                                        have s2_59 := k2_59.trans s2_58
                                        have mo1_59 := mk1_59.trans mo1_43
                                        have mo0_59 := mk0_59.trans mo0_43
                                        (obtain ⟨r1, r2, r3⟩ := hinv)
                                        refine aw_seq ?_
                                        refine aw_seq ?_
                                        refine aw_text (by kernel_rfl) ?_
                                        refine al_ro' (ro_move s7_59) trivial rfl ?_
                                        refine al_ro' (ro_fld_ptr y10_fl26_3 rfl (up_m rfl s1_59)) trivial rfl ?_
                                        refine al_ro' (ro_eq (ro_ld_ptr y10_ty24 rfl mo0_59 up_h (by first | exact Nat.le_of_ble_eq_true rfl | omega | (simp only [lnS] <;> omega) | (simp <;> omega))) (by first | (simp only [packA_t, packA_f, iE, bE, setAt, cellsA, Value.cells, map_vc, map_vn, Nat.reduceAdd, qS, jnE] <;> rfl) | rfl)) trivial rfl ?_
                                        refine al_ro' (ro_eq (ro_len_row up_h rfl y10_sl24.1) (by first | (simp only [lnS] <;> rfl) | rfl)) trivial rfl ?_
                                        refine al_ro' (ro_lss (up_m rfl (u2 rfl up_h)) up_h) trivial rfl ?_
                                        refine al_end (fun e_60 he_60 => ?_)
                                        have s1_60 := ef 1 he_60 (up_m rfl (u4 rfl s1_59))
                                        have s2_60 := ef 2 he_60 (up_m rfl (u4 rfl s2_59))
                                        have s7_60 := ef 7 he_60 (up_m rfl (u4 rfl s7_59))
                                        have s117_60 := ef 117 he_60 up_h
                                        clear he_60 s1_59 s2_59 s7_59
                                        refine then_n ?_
                                        refine aw_case s117_60 (fun hq_61 => ?_) (fun hq_61 => ?_)
                                        · (first | replace hq_61 := bnt hq_61 | replace hq_61 := bnf hq_61 | replace hq_61 := bt hq_61 | replace hq_61 := bf hq_61 | replace hq_61 := bt' hq_61 | replace hq_61 := bf' hq_61 | skip)
                                          first
                                          | (cases hq_61; done) | (exfalso; omega)
                                          | (
                                             refine aw_skip ?_
                                             refine then_n ?_
                                             refine aw_seq ?_
                                             refine aw_block ?_
                                             refine aw_seq ?_
                                             refine aw_text (by kernel_rfl) ?_
                                             refine al_ro' (ro_eq (ro_ld_ptr y10_ty26 rfl mo0_59 s1_60 (by first | exact Nat.le_of_ble_eq_true rfl | omega | (simp only [lnS] <;> omega) | (simp <;> omega))) (by first | (simp only [packA_t, packA_f, iE, bE, setAt, cellsA, Value.cells, map_vc, map_vn, Nat.reduceAdd, qS, jnE] <;> rfl) | rfl)) trivial rfl ?_
                                             refine al_ro' (ro_move (up_m rfl s7_60)) trivial rfl ?_
                                             refine al_ro' (ro_call (evL_cons (up_m rfl up_h) (evL_cons up_h evL_nil)) rfl (rSwitch_ok l hl k3 ⟨by omega, by omega⟩) y10_hcf45) trivial rfl ?_
                                             refine al_ro' (ro_assign up_h) trivial rfl ?_
                                             refine al_end (fun e_62 he_62 => ?_)
                                             have s1_62 := ef 1 he_62 (u4 rfl s1_60)
                                             have s2_62 := ef 2 he_62 (u4 rfl s2_60)
                                             have s7_62 := ef 7 he_62 (u4 rfl s7_60)
                                             have s8_62 := ef 8 he_62 up_h
                                             clear he_62 s117_60 s1_60 s2_60 s7_60
                                             refine then_n ?_
                                             refine aw_seq ?_
                                             refine aw_text (by kernel_rfl) ?_
                                             refine al_ro' (ro_move s8_62) trivial rfl ?_
                                             refine al_ro' (ro_neq up_h ev_c) trivial rfl ?_
                                             refine al_end (fun e_63 he_63 => ?_)
                                             have s1_63 := ef 1 he_63 (u2 rfl s1_62)
                                             have s2_63 := ef 2 he_63 (u2 rfl s2_62)
                                             have s7_63 := ef 7 he_63 (u2 rfl s7_62)
                                             have s8_63 := ef 8 he_63 (u2 rfl s8_62)
                                             have s124_63 := ef 124 he_63 up_h
                                             clear he_63 s1_62 s2_62 s7_62 s8_62
                                             refine then_n ?_
                                             refine aw_case s124_63 (fun hq_64 => ?_) (fun hq_64 => ?_)
                                             · (first | replace hq_64 := bnt hq_64 | replace hq_64 := bnf hq_64 | replace hq_64 := bt hq_64 | replace hq_64 := bf hq_64 | replace hq_64 := bt' hq_64 | replace hq_64 := bf' hq_64 | skip)
                                               first
                                               | (cases hq_64; done) | (exfalso; omega)
                                               | (
                                                  refine aw_seq ?_
                                                  refine aw_text (by kernel_rfl) ?_
                                                  refine al_ro' (ro_move s7_63) trivial rfl ?_
                                                  refine al_ro' (ro_build (evP_cons ev_c (evP_cons up_h evP_nil)) y10_bz30 y10_bu30 y10_bp30 rfl) trivial rfl ?_
                                                  refine al_ro' (ro_move (u2 rfl s8_63)) trivial rfl ?_
                                                  refine al_stm (st_store (up_m rfl (u2 rfl s2_63)) (up_m rfl up_h) rfl rfl mo1_59 y10_sz30 rfl (by first | exact Nat.le_of_ble_eq_true rfl | omega | (simp only [lnS] <;> omega) | (simp <;> omega))) trivial rfl (fun m_65 hm_65 => ?_)
                                                  have mo1_65 := m_set hm_65 mo1_59
                                                  (try simp only [packA_t, packA_f, iE, bE, setAt, cellsA, Value.cells, map_vc, map_vn, Nat.reduceAdd, qS, jnE] at mo1_65)
                                                  have mo0_65 := m_set_o hm_65 mo0_59 (by decide)
                                                  have ml_65 := m_set_l hm_65 ml_59
                                                  clear hm_65 mo1_59 mo0_59
                                                  refine al_ro' (ro_assign (up_n up_h)) trivial rfl ?_
                                                  refine al_end (fun e_66 he_66 => ?_)
                                                  have s2_66 := ef 2 he_66 (up_m rfl (up_n (up_m rfl (u2 rfl s2_63))))
                                                  have s3_66 := ef 3 he_66 up_h
                                                  clear he_66 s124_63 s1_63 s2_63 s7_63 s8_63
                                                  refine then_n ?_
                                                  refine aw_ret ?_
                                                  refine block_r ?_
                                                  refine then_r ?_
                                                  refine then_r ?_
                                                  refine block_r ?_
                                                  refine then_r ?_
                                                  refine ret2 (.inr rfl) (by kernel_rfl) (resV_cell s2_66 mo1_65 y10_ty30 (by first | exact Nat.le_of_ble_eq_true rfl | omega | (simp only [lnS] <;> omega) | (simp <;> omega)) (by simp)) (resV_tmp s3_66) (vw_r (.ro _ rfl)) (.ro _ rfl) ?_
                                                  clear s2_66 s3_66 mo1_65 mo0_65 ml_65
                                                  (rw [hin, lisM_miss (fun j hj => p3 j (by omega)), lisM_miss (fun j hj => q3 j (by omega)), if_neg (by omega), lisM_hit (i := k3.toNat) r3 (by assumption) (by omega)]; (first | (simp only [Int.toNat_of_nonneg r1]; done) | (simp only [Int.toNat_of_nonneg r1]; rfl))))
                                             · (first | replace hq_64 := bnt hq_64 | replace hq_64 := bnf hq_64 | replace hq_64 := bt hq_64 | replace hq_64 := bf hq_64 | replace hq_64 := bt' hq_64 | replace hq_64 := bf' hq_64 | skip)
                                               first
                                               | (cases hq_64; done) | (exfalso; omega)
                                               | (
                                                  refine aw_skip ?_
                                                  refine block_n ?_
                                                  refine then_n ?_
                                                  refine aw_text (by kernel_rfl) ?_
                                                  refine al_ro' (ro_move s7_63) trivial rfl ?_
                                                  first | (refine al_ro' (ro_add' up_h ev_c ?_) trivial rfl ?_; · (unfold In64; omega)) | refine al_ro' (ro_add up_h ev_c) trivial rfl ?_
                                                  refine al_ro' (ro_assign up_h) trivial rfl ?_
                                                  refine al_end (fun e_67 he_67 => ?_)
                                                  have s1_67 := ef 1 he_67 (up_m rfl (u2 rfl s1_63))
                                                  have s2_67 := ef 2 he_67 (up_m rfl (u2 rfl s2_63))
                                                  have s7_67 := ef 7 he_67 up_h
                                                  clear he_67 s124_63 s1_63 s2_63 s7_63 s8_63
                                                  refine then_n ?_
                                                  refine ⟨_, ⟨s7_67, (s1_67.trans s1_58.symm), (s2_67.trans s2_58.symm), (mo1_59.trans mo1_43.symm), (mo0_59.trans mo0_43.symm), ml_59, ?_⟩, ?_⟩
                                                  · (refine ⟨by omega, by omega, fun j hj => ?_⟩; by_cases hji : j < k3.toNat; (exact r3 j hji); (rw [show j = k3.toNat by omega]; assumption))
                                                  · ((try dsimp only); omega)))
                                        · (first | replace hq_61 := bnt hq_61 | replace hq_61 := bnf hq_61 | replace hq_61 := bt hq_61 | replace hq_61 := bf hq_61 | replace hq_61 := bt' hq_61 | replace hq_61 := bf' hq_61 | skip)
                                          first
                                          | (cases hq_61; done) | (exfalso; omega)
                                          | (
                                             refine aw_exit ?_
                                             refine then_x ?_
                                             refine then_x ?_
                                             refine block_hit ?_
                                             refine then_n ?_
                                             refine aw_seq ?_
                                             refine aw_text (by kernel_rfl) ?_
                                             refine al_ro' (ro_build evP_nil y10_bz30 y10_bu30 y10_bp30 rfl) trivial rfl ?_
                                             refine al_stm (st_store (up_m rfl s2_60) up_h rfl rfl mo1_59 y10_sz30 rfl (by first | exact Nat.le_of_ble_eq_true rfl | omega | (simp only [lnS] <;> omega) | (simp <;> omega))) trivial rfl (fun m_68 hm_68 => ?_)
                                             have mo1_68 := m_set hm_68 mo1_59
                                             (try simp only [packA_t, packA_f, iE, bE, setAt, cellsA, Value.cells, map_vc, map_vn, Nat.reduceAdd, qS, jnE] at mo1_68)
                                             have mo0_68 := m_set_o hm_68 mo0_59 (by decide)
                                             have ml_68 := m_set_l hm_68 ml_59
                                             clear hm_68 mo1_59 mo0_59
                                             refine al_ro' (ro_assign ev_c) trivial rfl ?_
                                             refine al_end (fun e_69 he_69 => ?_)
                                             have s2_69 := ef 2 he_69 (up_m rfl (up_n (up_m rfl s2_60)))
                                             have s3_69 := ef 3 he_69 up_h
                                             clear he_69 s117_60 s1_60 s2_60 s7_60
                                             refine then_n ?_
                                             refine aw_ret ?_
                                             refine ret2 (.inr rfl) (by kernel_rfl) (resV_cell s2_69 mo1_68 y10_ty30 (by first | exact Nat.le_of_ble_eq_true rfl | omega | (simp only [lnS] <;> omega) | (simp <;> omega)) (by simp)) (resV_tmp s3_69) (vw_r (.ro _ rfl)) (.ro _ rfl) ?_
                                             clear s2_69 s3_69 mo1_68 mo0_68 ml_68
                                             (rw [hin, lisM_miss (fun j hj => p3 j (by omega)), lisM_miss (fun j hj => q3 j (by omega)), if_neg (by omega), lisM_miss (fun j hj => r3 j (by omega))]; rfl))))))))
end Go.Proofs.Ytlebjleebclmgaa

/- Contracts of chapter 1: few items; the document's places. No conditions on a program. -/
namespace Go.Proofs.Ytlebjleebclmgaa
open Go Go.RowKit Go.Proofs
set_option linter.unusedSimpArgs false
set_option linter.unusedVariables false
theorem y11_fl26_1 : FldIs Try.prog 26 1 1 false 1 := by unfold FldIs; kernel_rfl
theorem y11_fl26_2 : FldIs Try.prog 26 2 2 false 1 := by unfold FldIs; kernel_rfl
theorem y11_fl88_0 : FldIs Try.prog 88 0 0 false 1 := by unfold FldIs; kernel_rfl
theorem y11_hcf15 : ∀ args w, (callFunc 15 args).run Try.prog w = .ok (.enter 15 args) w := fun _ _ => by kernel_rfl
theorem y11_hcf44 : ∀ args w, (callFunc 44 args).run Try.prog w = .ok (.enter 44 args) w := fun _ _ => by kernel_rfl
theorem y11_sl22 : SlIs Try.prog 22 85 4 32 (.agg #[.int .i64 0, .int .i64 0, .int .i64 0, .int .i64 0]) := ⟨by kernel_rfl, by kernel_rfl, by kernel_rfl⟩
theorem y11_sl23 : SlIs Try.prog 23 88 2 16 (.agg #[.int .i64 0, .int .i64 0]) := ⟨by kernel_rfl, by kernel_rfl, by kernel_rfl⟩
theorem y11_ty22 : TyIs Try.prog 22 false 1 := ⟨by kernel_rfl, by kernel_rfl⟩
theorem y11_ty23 : TyIs Try.prog 23 false 1 := ⟨by kernel_rfl, by kernel_rfl⟩
theorem y11_ty26 : TyIs Try.prog 26 true 4 := ⟨by kernel_rfl, by kernel_rfl⟩
theorem y11_ty3 : TyIs Try.prog 3 false 1 := ⟨by kernel_rfl, by kernel_rfl⟩

def fewB (n most limit : Int) : Bool := decide (n ≤ most ∨ (limit < n ∧ n ≤ limit + 3))
set_option maxRecDepth 100000 in
set_option maxHeartbeats 1000000 in
theorem few_ok (n most limit : Int) (hl : 0 ≤ limit ∧ limit ≤ 1000) : FnOk Try.prog 36 [mA n, mA most, mA limit] (fun q => q = tbA (fewB n most limit)) := by
  refine fnOk_of (fn := Try.f36) 21 (by kernel_rfl) rfl (by kernel_rfl) (Nat.le_of_ble_eq_true rfl) ?_
  intro e_0 m_0 hA hm_0
  have s0_0 : evA e_0 (.tmp 0) = _ := hA 0 _ rfl
  have s1_0 : evA e_0 (.tmp 1) = _ := hA 1 _ rfl
  have s2_0 : evA e_0 (.tmp 2) = _ := hA 2 _ rfl
  have ml_0 : m_0.length = 0 := by rw [hm_0]; rfl
  clear hA hm_0
  refine aw_seq ?_
  refine aw_text (by kernel_rfl) ?_
  refine al_ro' (ro_assign ev_c) trivial rfl ?_
  refine al_end (fun e_1 he_1 => ?_)
  have s0_1 := ef 0 he_1 (up_m rfl s0_0)
  have s1_1 := ef 1 he_1 (up_m rfl s1_0)
  have s2_1 := ef 2 he_1 (up_m rfl s2_0)
  clear he_1 s0_0 s1_0 s2_0
  refine then_n ?_
  refine aw_seq ?_
  refine aw_text (by kernel_rfl) ?_
  refine al_ro' (ro_move s0_1) trivial rfl ?_
  refine al_ro' (ro_move (up_m rfl s1_1)) trivial rfl ?_
  refine al_ro' (ro_leq (up_m rfl up_h) up_h) trivial rfl ?_
  refine al_ro' (ro_move up_h) trivial rfl ?_
  refine al_case up_h (fun hb_2 hq_2 => ?_) (fun hb_2 hq_2 => ?_)
  · (first | replace hq_2 := bnt hq_2 | replace hq_2 := bnf hq_2 | replace hq_2 := bt hq_2 | replace hq_2 := bf hq_2 | replace hq_2 := bt' hq_2 | replace hq_2 := bf' hq_2 | skip)
    first
    | (cases hq_2; done) | (exfalso; omega)
    | (
       refine al_skip' ⟨_, rfl, .inl hb_2⟩ rfl ?_
       refine al_skip' ⟨_, rfl, .inl (up_m rfl hb_2)⟩ rfl ?_
       refine al_skip' ⟨_, rfl, .inl (u2 rfl hb_2)⟩ rfl ?_
       refine al_skip' ⟨_, rfl, .inl (up_m rfl (u2 rfl hb_2))⟩ rfl ?_
       refine al_skip' ⟨_, rfl, .inr up_h⟩ rfl ?_
       refine al_skip' ⟨_, rfl, .inr (up_m rfl up_h)⟩ rfl ?_
       refine al_skip' ⟨_, rfl, .inr (u2 rfl up_h)⟩ rfl ?_
       refine al_skip' ⟨_, rfl, .inr (up_m rfl (u2 rfl up_h))⟩ rfl ?_
       refine al_skip' ⟨_, rfl, .inl (u8 rfl hb_2)⟩ rfl ?_
       refine al_ro' (ro_pickT (up_m rfl (u8 rfl hb_2)) ev_c) trivial rfl ?_
       refine al_ro' (ro_assign up_h) trivial rfl ?_
       refine al_end (fun e_3 he_3 => ?_)
       have s6_3 := ef 6 he_3 up_h
       clear he_3 hb_2 s0_1 s1_1 s2_1
       refine then_n ?_
       refine aw_ret ?_
       refine ret1 (.inr rfl) (by kernel_rfl) (resV_tmp s6_3) (.ro _ rfl) ?_
       clear s6_3  ml_0
       (refine avb ?_; simp only [fewB, decide_eq_true_eq, Bool.false_eq_true, true_iff, false_iff]; omega))
  · (first | replace hq_2 := bnt hq_2 | replace hq_2 := bnf hq_2 | replace hq_2 := bt hq_2 | replace hq_2 := bf hq_2 | replace hq_2 := bt' hq_2 | replace hq_2 := bf' hq_2 | skip)
    first
    | (cases hq_2; done) | (exfalso; omega)
    | (
       refine al_ro' (ro_move (u4 rfl s0_1)) ⟨_, rfl, hb_2⟩ rfl ?_
       refine al_ro' (ro_move (up_m rfl (u4 rfl s2_1))) ⟨_, rfl, (up_m rfl hb_2)⟩ rfl ?_
       refine al_ro' (ro_gtr (up_m rfl up_h) up_h) ⟨_, rfl, (u2 rfl hb_2)⟩ rfl ?_
       refine al_ro' (ro_move up_h) ⟨_, rfl, (up_m rfl (u2 rfl hb_2))⟩ rfl ?_
       refine al_case up_h (fun hb_4 hq_4 => ?_) (fun hb_4 hq_4 => ?_)
       · (first | replace hq_4 := bnt hq_4 | replace hq_4 := bnf hq_4 | replace hq_4 := bt hq_4 | replace hq_4 := bf hq_4 | replace hq_4 := bt' hq_4 | replace hq_4 := bf' hq_4 | skip)
         first
         | (cases hq_4; done) | (exfalso; omega)
         | (
            refine al_ro' (ro_move (u8 rfl s0_1)) ⟨_, rfl, hb_4⟩ rfl ?_
            refine al_ro' (ro_move (up_m rfl (u8 rfl s2_1))) ⟨_, rfl, (up_m rfl hb_4)⟩ rfl ?_
            first | (refine al_ro' (ro_add' up_h ev_c ?_) ⟨_, rfl, (u2 rfl hb_4)⟩ rfl ?_; · (unfold In64; omega)) | refine al_ro' (ro_add up_h ev_c) ⟨_, rfl, (u2 rfl hb_4)⟩ rfl ?_
            refine al_ro' (ro_leq (u2 rfl up_h) up_h) ⟨_, rfl, (up_m rfl (u2 rfl hb_4))⟩ rfl ?_
            refine al_ro' (ro_pickT (u4 rfl hb_4) up_h) ⟨_, rfl, (u8 rfl hb_2)⟩ rfl ?_
            refine al_ro' (ro_pickF (up_m rfl (u8 rfl hb_2)) up_h) trivial rfl ?_
            refine al_ro' (ro_assign up_h) trivial rfl ?_
            refine al_end (fun e_5 he_5 => ?_)
            have s6_5 := ef 6 he_5 up_h
            clear he_5 hb_2 hb_4 s0_1 s1_1 s2_1
            refine then_n ?_
            refine aw_ret ?_
            refine ret1 (.inr rfl) (by kernel_rfl) (resV_tmp s6_5) (.ro _ rfl) ?_
            clear s6_5  ml_0
            (refine avb ?_; simp only [fewB, decide_eq_true_eq, Bool.false_eq_true, true_iff, false_iff]; omega))
       · (first | replace hq_4 := bnt hq_4 | replace hq_4 := bnf hq_4 | replace hq_4 := bt hq_4 | replace hq_4 := bf hq_4 | replace hq_4 := bt' hq_4 | replace hq_4 := bf' hq_4 | skip)
         first
         | (cases hq_4; done) | (exfalso; omega)
         | (
            refine al_skip' ⟨_, rfl, .inl hb_4⟩ rfl ?_
            refine al_skip' ⟨_, rfl, .inl (up_m rfl hb_4)⟩ rfl ?_
            refine al_skip' ⟨_, rfl, .inl (u2 rfl hb_4)⟩ rfl ?_
            refine al_skip' ⟨_, rfl, .inl (up_m rfl (u2 rfl hb_4))⟩ rfl ?_
            refine al_ro' (ro_pickF (u4 rfl hb_4) ev_c) ⟨_, rfl, (u8 rfl hb_2)⟩ rfl ?_
            refine al_ro' (ro_pickF (up_m rfl (u8 rfl hb_2)) up_h) trivial rfl ?_
            refine al_ro' (ro_assign up_h) trivial rfl ?_
            refine al_end (fun e_6 he_6 => ?_)
            have s6_6 := ef 6 he_6 up_h
            clear he_6 hb_2 hb_4 s0_1 s1_1 s2_1
            refine then_n ?_
            refine aw_ret ?_
            refine ret1 (.inr rfl) (by kernel_rfl) (resV_tmp s6_6) (.ro _ rfl) ?_
            clear s6_6  ml_0
            (refine avb ?_; simp only [fewB, decide_eq_true_eq, Bool.false_eq_true, true_iff, false_iff]; omega)))
def misE (n lo hi : Int) : Int := if withinB n lo hi then 0 else 6
set_option maxRecDepth 100000 in
set_option maxHeartbeats 1000000 in
theorem jointErr_ok (l : Lin) (hl : Sho l) (n : Int) : FnOk Try.prog 14 [lnA l, mA n] (fun q => q = mA (misE n 0 (l.js.length - 1))) := by
  obtain ⟨h1, h2, h3, h4, h5⟩ := id hl
  refine fnOk_of (fn := Try.f14) 12 (by kernel_rfl) rfl (by kernel_rfl) (Nat.le_of_ble_eq_true rfl) ?_
  intro e_0 m_0 hA hm_0
  have s0_0 : evA e_0 (.tmp 0) = _ := hA 0 _ rfl
  have s1_0 : evA e_0 (.tmp 1) = _ := hA 1 _ rfl
  have ml_0 : m_0.length = 0 := by rw [hm_0]; rfl
  clear hA hm_0
  refine aw_seq ?_
  refine aw_text (by kernel_rfl) ?_
  refine al_stm (st_box s0_0 rfl ml_0) trivial rfl (fun m_1 hm_1 => ?_)
  have mo0_1 := m_push hm_1 ml_0
  (try simp only [packA_t, packA_f, iE, bE, setAt, cellsA, Value.cells, map_vc, map_vn, Nat.reduceAdd, qS] at mo0_1)
  have ml_1 := m_push_l hm_1 ml_0
  have ml_1 : _ = 1 := ml_1
  clear hm_1
  refine al_ro' (ro_assign ev_c) trivial rfl ?_
  refine al_end (fun e_2 he_2 => ?_)
  have s1_2 := ef 1 he_2 (u2 rfl s1_0)
  have s2_2 := ef 2 he_2 (up_m rfl up_h)
  clear he_2 s0_0 s1_0
  refine then_n ?_
  refine aw_seq ?_
  refine aw_seq ?_
  refine aw_text (by kernel_rfl) ?_
  refine al_ro' (ro_move s1_2) trivial rfl ?_
  refine al_ro' (ro_fld_ptr y11_fl26_1 rfl (up_m rfl s2_2)) trivial rfl ?_
  refine al_ro' (ro_eq (ro_ld_ptr y11_ty22 rfl mo0_1 up_h (by first | exact Nat.le_of_ble_eq_true rfl | omega | (simp only [lnS] <;> omega) | (simp <;> omega))) (by first | (simp only [packA_t, packA_f, iE, bE, setAt, cellsA, Value.cells, map_vc, map_vn, Nat.reduceAdd, qS] <;> rfl) | rfl)) trivial rfl ?_
  refine al_ro' (ro_eq (ro_len_row up_h rfl y11_sl22.1) (by first | (simp only [lnS] <;> rfl) | rfl)) trivial rfl ?_
  first | (refine al_ro' (ro_sub' up_h ev_c ?_) trivial rfl ?_; · (unfold In64; omega)) | refine al_ro' (ro_sub up_h ev_c) trivial rfl ?_
  refine al_ro' (ro_call (evL_cons (u4 rfl up_h) (evL_cons ev_c (evL_cons up_h evL_nil))) rfl (bWithin_ok _ _ _) y11_hcf44) trivial rfl ?_
  refine al_ro' (ro_not up_h) trivial rfl ?_
  refine al_end (fun e_3 he_3 => ?_)
  have s11_3 := ef 11 he_3 up_h
  clear he_3 s1_2 s2_2
  refine then_n ?_
  refine aw_case s11_3 (fun hq_4 => ?_) (fun hq_4 => ?_)
  · (first | replace hq_4 := bnt hq_4 | replace hq_4 := bnf hq_4 | replace hq_4 := bt hq_4 | replace hq_4 := bf hq_4 | replace hq_4 := bt' hq_4 | replace hq_4 := bf' hq_4 | skip)
    first
    | (cases hq_4; done) | (exfalso; omega)
    | (
       refine aw_seq ?_
       refine aw_text (by kernel_rfl) ?_
       refine al_ro' (ro_assign ev_c) trivial rfl ?_
       refine al_end (fun e_5 he_5 => ?_)
       have s4_5 := ef 4 he_5 up_h
       clear he_5 s11_3
       refine then_n ?_
       refine aw_ret ?_
       refine then_r ?_
       refine ret1 (.inr rfl) (by kernel_rfl) (resV_tmp s4_5) (.ro _ rfl) ?_
       clear s4_5 mo0_1 ml_1
       (unfold misE; simp_all))
  · (first | replace hq_4 := bnt hq_4 | replace hq_4 := bnf hq_4 | replace hq_4 := bt hq_4 | replace hq_4 := bf hq_4 | replace hq_4 := bt' hq_4 | replace hq_4 := bf' hq_4 | skip)
    first
    | (cases hq_4; done) | (exfalso; omega)
    | (
       refine aw_skip ?_
       refine then_n ?_
       refine aw_seq ?_
       refine aw_text (by kernel_rfl) ?_
       refine al_ro' (ro_assign ev_c) trivial rfl ?_
       refine al_end (fun e_6 he_6 => ?_)
       have s4_6 := ef 4 he_6 up_h
       clear he_6 s11_3
       refine then_n ?_
       refine aw_ret ?_
       refine ret1 (.inr rfl) (by kernel_rfl) (resV_tmp s4_6) (.ro _ rfl) ?_
       clear s4_6 mo0_1 ml_1
       (unfold misE; simp_all))
/-- The place of a joint. -/
def plaP (bs : List Bea) : Nat → Int
  | 0 => 0
  | n + 1 => plaP bs n + (bs.getD n default).len
theorem plaP_bd {bs : List Bea} (h : ∀ j : Nat, j < bs.length → 0 ≤ (bs.getD j default).len ∧ (bs.getD j default).len ≤ 30000) : ∀ {n : Nat}, n ≤ bs.length → 0 ≤ plaP bs n ∧ plaP bs n ≤ 30000 * n
  | 0, _ => by simp [plaP]
  | n + 1, hn => by
    have h1 := plaP_bd h (n := n) (by omega)
    have h2 := h n (by omega)
    simp only [plaP]; omega
set_option maxRecDepth 100000 in
set_option maxHeartbeats 4000000 in
theorem rPlaceOf_ok (l : Lin) (hb : l.bs.length ≤ 1000) (h : ∀ j : Nat, j < l.bs.length → 0 ≤ (l.bs.getD j default).len ∧ (l.bs.getD j default).len ≤ 30000) (n : Int) (hn : 0 ≤ n ∧ n ≤ l.bs.length) : FnOk Try.prog 15 [lnA l, mA n] (fun q => q = mA (plaP l.bs n.toNat)) := by
  refine fnOk_of (fn := Try.f15) 21 (by kernel_rfl) rfl (by kernel_rfl) (Nat.le_of_ble_eq_true rfl) ?_
  intro e_0 m_0 hA hm_0
  have s0_0 : evA e_0 (.tmp 0) = _ := hA 0 _ rfl
  have s1_0 : evA e_0 (.tmp 1) = _ := hA 1 _ rfl
  have ml_0 : m_0.length = 0 := by rw [hm_0]; rfl
  clear hA hm_0
  refine aw_seq ?_
  refine aw_text (by kernel_rfl) ?_
  refine al_stm (st_box s0_0 rfl ml_0) trivial rfl (fun m_1 hm_1 => ?_)
  have mo0_1 := m_push hm_1 ml_0
  (try simp only [packA_t, packA_f, iE, bE, setAt, cellsA, Value.cells, map_vc, map_vn, Nat.reduceAdd, qS, beE] at mo0_1)
  have ml_1 := m_push_l hm_1 ml_0
  have ml_1 : _ = 1 := ml_1
  clear hm_1
  refine al_ro' (ro_assign ev_c) trivial rfl ?_
  refine al_end (fun e_2 he_2 => ?_)
  have s1_2 := ef 1 he_2 (u2 rfl s1_0)
  have s2_2 := ef 2 he_2 (up_m rfl up_h)
  clear he_2 s0_0 s1_0
  refine then_n ?_
  refine aw_seq ?_
  refine aw_text (by kernel_rfl) ?_
  refine al_ro' (ro_assign ev_c) trivial rfl ?_
  refine al_end (fun e_3 he_3 => ?_)
  have s1_3 := ef 1 he_3 (up_m rfl s1_2)
  have s2_3 := ef 2 he_3 (up_m rfl s2_2)
  have s5_3 := ef 5 he_3 up_h
  clear he_3 s1_2 s2_2
  refine then_n ?_
  refine aw_seq ?_
  refine aw_seq ?_
  refine aw_text (by kernel_rfl) ?_
  refine al_ro' (ro_assign ev_c) trivial rfl ?_
  refine al_end (fun e_4 he_4 => ?_)
  have s1_4 := ef 1 he_4 (up_m rfl s1_3)
  have s2_4 := ef 2 he_4 (up_m rfl s2_3)
  have s5_4 := ef 5 he_4 (up_m rfl s5_3)
  have s6_4 := ef 6 he_4 up_h
  clear he_4 s1_3 s2_3 s5_3
  refine then_n ?_
  refine aw_block ?_
  refine aw_loop (S := (Int × Int)) (fun s e mem => match s with | ⟨k, sm⟩ => (evA e (.tmp 6) = .v (.int .i64 k)) ∧ (evA e (.tmp 5) = .v (.int .i64 sm)) ∧ (evA e (.tmp 1) = evA e_4 (.tmp 1)) ∧ (evA e (.tmp 2) = evA e_4 (.tmp 2)) ∧ (mem[0]? = m_1[0]?) ∧ (mem.length = 1) ∧ ((0 ≤ k ∧ k ≤ n ∧ sm = plaP l.bs k.toNat))) (fun s => match s with | ⟨k, sm⟩ => (n - k).toNat) ⟨_, 0⟩ ⟨s6_4, s5_4, rfl, rfl, rfl, ml_1, ?_⟩ ?_
  · (exact ⟨by omega, by omega, rfl⟩)
  · rintro ⟨k, sm⟩ e_5 m_5 ⟨s6_5, s5_5, k1_5, k2_5, mk0_5, ml_5, hinv⟩
    have s1_5 := k1_5.trans s1_4
    have s2_5 := k2_5.trans s2_4
    have mo0_5 := mk0_5.trans mo0_1
    (obtain ⟨p1, p2, p3⟩ := hinv; have hp := plaP_bd h (n := k.toNat) (by omega))
    refine aw_seq ?_
    refine aw_seq ?_
    refine aw_text (by kernel_rfl) ?_
    refine al_ro' (ro_move s6_5) trivial rfl ?_
    refine al_ro' (ro_move (up_m rfl s1_5)) trivial rfl ?_
    refine al_ro' (ro_lss (up_m rfl up_h) up_h) trivial rfl ?_
    refine al_end (fun e_6 he_6 => ?_)
    have s1_6 := ef 1 he_6 (up_m rfl (u2 rfl s1_5))
    have s2_6 := ef 2 he_6 (up_m rfl (u2 rfl s2_5))
    have s5_6 := ef 5 he_6 (up_m rfl (u2 rfl s5_5))
    have s6_6 := ef 6 he_6 (up_m rfl (u2 rfl s6_5))
    have s9_6 := ef 9 he_6 up_h
    clear he_6 s1_5 s2_5 s5_5 s6_5
    refine then_n ?_
    refine aw_case s9_6 (fun hq_7 => ?_) (fun hq_7 => ?_)
    · (first | replace hq_7 := bnt hq_7 | replace hq_7 := bnf hq_7 | replace hq_7 := bt hq_7 | replace hq_7 := bf hq_7 | replace hq_7 := bt' hq_7 | replace hq_7 := bf' hq_7 | skip)
      first
      | (cases hq_7; done) | (exfalso; omega)
      | (
         (have hk := h k.toNat (by omega))
         refine aw_skip ?_
         refine then_n ?_
         refine aw_seq ?_
         refine aw_block ?_
         refine aw_text (by kernel_rfl) ?_
         refine al_ro' (ro_move s5_6) trivial rfl ?_
         refine al_ro' (ro_fld_ptr y11_fl26_2 rfl (up_m rfl s2_6)) trivial rfl ?_
         refine al_ro' (ro_eq (ro_ld_ptr y11_ty23 rfl mo0_5 up_h (by first | exact Nat.le_of_ble_eq_true rfl | omega | (simp only [lnS] <;> omega) | (simp <;> omega))) (by first | (simp only [packA_t, packA_f, iE, bE, setAt, cellsA, Value.cells, map_vc, map_vn, Nat.reduceAdd, qS, beE] <;> rfl) | rfl)) trivial rfl ?_
         refine al_ro' (ro_move (up_m rfl (u2 rfl s6_6))) trivial rfl ?_
         refine al_ro' (ro_eq (ro_ix y11_sl23 (up_m rfl up_h) up_h (by first | decide | omega | (simp <;> omega)) (by first | (refine idx_map ?_; first | omega | (simp only [lnS]; omega)) | (refine idx_mapI ?_; first | omega | (simp only [lnS]; omega)) | (refine idx_mapN ?_; first | omega | (simp only [lnS]; omega)) | rfl)) (by first | (simp only [packA_t, packA_f, iE, bE, setAt, cellsA, Value.cells, map_vc, map_vn, Nat.reduceAdd, qS, beE] <;> rfl) | rfl)) trivial rfl ?_
         refine al_ro' (ro_eq (ro_fld_ref y11_fl88_0 rfl up_h) (by first | (simp only [packA_t, packA_f, iE, bE, setAt, cellsA, Value.cells, map_vc, map_vn, Nat.reduceAdd, qS, beE] <;> rfl) | rfl)) trivial rfl ?_
         refine al_ro' (ro_eq (ro_ld_ref y11_ty3 rfl up_h (by first | exact Nat.le_of_ble_eq_true rfl | omega | (simp only [lnS] <;> omega) | (simp <;> omega))) (by first | (simp only [packA_t, packA_f, iE, bE, setAt, cellsA, Value.cells, map_vc, map_vn, Nat.reduceAdd, qS, beE] <;> rfl) | rfl)) trivial rfl ?_
         first | (refine al_ro' (ro_add' (u2 rfl (u4 rfl up_h)) up_h ?_) trivial rfl ?_; · (unfold In64; omega)) | refine al_ro' (ro_add (u2 rfl (u4 rfl up_h)) up_h) trivial rfl ?_
         refine al_ro' (ro_assign up_h) trivial rfl ?_
         refine al_end (fun e_8 he_8 => ?_)
         have s1_8 := ef 1 he_8 (up_m rfl (u8 rfl s1_6))
         have s2_8 := ef 2 he_8 (up_m rfl (u8 rfl s2_6))
         have s5_8 := ef 5 he_8 up_h
         have s6_8 := ef 6 he_8 (up_m rfl (u8 rfl s6_6))
         clear he_8 s1_6 s2_6 s5_6 s6_6 s9_6
         refine block_n ?_
         refine then_n ?_
         refine aw_text (by kernel_rfl) ?_
         refine al_ro' (ro_move s6_8) trivial rfl ?_
         first | (refine al_ro' (ro_add' up_h ev_c ?_) trivial rfl ?_; · (unfold In64; omega)) | refine al_ro' (ro_add up_h ev_c) trivial rfl ?_
         refine al_ro' (ro_assign up_h) trivial rfl ?_
         refine al_end (fun e_9 he_9 => ?_)
         have s1_9 := ef 1 he_9 (up_m rfl (u2 rfl s1_8))
         have s2_9 := ef 2 he_9 (up_m rfl (u2 rfl s2_8))
         have s5_9 := ef 5 he_9 (up_m rfl (u2 rfl s5_8))
         have s6_9 := ef 6 he_9 up_h
         clear he_9 s1_8 s2_8 s5_8 s6_8
         refine then_n ?_
         refine ⟨⟨_, _⟩, ⟨s6_9, s5_9, (s1_9.trans s1_4.symm), (s2_9.trans s2_4.symm), (mo0_5.trans mo0_1.symm), ml_5, ?_⟩, ?_⟩
         · (refine ⟨by omega, by omega, ?_⟩; rw [show (k + 1).toNat = k.toNat + 1 by omega, plaP, p3])
         · ((try dsimp only); omega))
    · (first | replace hq_7 := bnt hq_7 | replace hq_7 := bnf hq_7 | replace hq_7 := bt hq_7 | replace hq_7 := bf hq_7 | replace hq_7 := bt' hq_7 | replace hq_7 := bf' hq_7 | skip)
      first
      | (cases hq_7; done) | (exfalso; omega)
      | (
         refine aw_exit ?_
         refine then_x ?_
         refine then_x ?_
         refine block_hit ?_
         refine then_n ?_
         refine aw_seq ?_
         refine aw_text (by kernel_rfl) ?_
         refine al_ro' (ro_move s5_6) trivial rfl ?_
         refine al_ro' (ro_assign up_h) trivial rfl ?_
         refine al_end (fun e_10 he_10 => ?_)
         have s4_10 := ef 4 he_10 up_h
         clear he_10 s1_6 s2_6 s5_6 s6_6 s9_6
         refine then_n ?_
         refine aw_ret ?_
         refine ret1 (.inr rfl) (by kernel_rfl) (resV_tmp s4_10) (.ro _ rfl) ?_
         clear s4_10 mo0_5 ml_5
         (rw [p3, show k.toNat = n.toNat by omega]))
set_option maxRecDepth 100000 in
set_option maxHeartbeats 1000000 in
theorem rLengthOf_ok (l : Lin) (hb : l.bs.length ≤ 1000) (h : ∀ j : Nat, j < l.bs.length → 0 ≤ (l.bs.getD j default).len ∧ (l.bs.getD j default).len ≤ 30000) : FnOk Try.prog 13 [lnA l] (fun q => q = mA (plaP l.bs l.bs.length)) := by
  refine fnOk_of (fn := Try.f13) 8 (by kernel_rfl) rfl (by kernel_rfl) (Nat.le_of_ble_eq_true rfl) ?_
  intro e_0 m_0 hA hm_0
  have s0_0 : evA e_0 (.tmp 0) = _ := hA 0 _ rfl
  have ml_0 : m_0.length = 0 := by rw [hm_0]; rfl
  clear hA hm_0
  refine aw_seq ?_
  refine aw_text (by kernel_rfl) ?_
  refine al_stm (st_box s0_0 rfl ml_0) trivial rfl (fun m_1 hm_1 => ?_)
  have mo0_1 := m_push hm_1 ml_0
  (try simp only [packA_t, packA_f, iE, bE, setAt, cellsA, Value.cells, map_vc, map_vn, Nat.reduceAdd, qS] at mo0_1)
  have ml_1 := m_push_l hm_1 ml_0
  have ml_1 : _ = 1 := ml_1
  clear hm_1
  refine al_ro' (ro_assign ev_c) trivial rfl ?_
  refine al_end (fun e_2 he_2 => ?_)
  have s1_2 := ef 1 he_2 (up_m rfl up_h)
  clear he_2 s0_0
  refine then_n ?_
  refine aw_seq ?_
  refine aw_text (by kernel_rfl) ?_
  refine al_ro' (ro_eq (ro_ld_ptr y11_ty26 rfl mo0_1 s1_2 (by first | exact Nat.le_of_ble_eq_true rfl | omega | (simp only [lnS] <;> omega) | (simp <;> omega))) (by first | (simp only [packA_t, packA_f, iE, bE, setAt, cellsA, Value.cells, map_vc, map_vn, Nat.reduceAdd, qS] <;> rfl) | rfl)) trivial rfl ?_
  refine al_ro' (ro_fld_ptr y11_fl26_2 rfl (up_m rfl s1_2)) trivial rfl ?_
  refine al_ro' (ro_eq (ro_ld_ptr y11_ty23 rfl mo0_1 up_h (by first | exact Nat.le_of_ble_eq_true rfl | omega | (simp only [lnS] <;> omega) | (simp <;> omega))) (by first | (simp only [packA_t, packA_f, iE, bE, setAt, cellsA, Value.cells, map_vc, map_vn, Nat.reduceAdd, qS] <;> rfl) | rfl)) trivial rfl ?_
  refine al_ro' (ro_eq (ro_len_row up_h rfl y11_sl23.1) (by first | (simp only [lnS] <;> rfl) | rfl)) trivial rfl ?_
  refine al_ro' (ro_call (evL_cons (up_m rfl (u2 rfl up_h)) (evL_cons up_h evL_nil)) rfl (rPlaceOf_ok l hb h _ ⟨by omega, by omega⟩) y11_hcf15) trivial rfl ?_
  refine al_ro' (ro_assign up_h) trivial rfl ?_
  refine al_end (fun e_3 he_3 => ?_)
  have s2_3 := ef 2 he_3 up_h
  clear he_3 s1_2
  refine then_n ?_
  refine aw_ret ?_
  refine ret1 (.inr rfl) (by kernel_rfl) (resV_tmp s2_3) (.ro _ rfl) ?_
  clear s2_3 mo0_1 ml_1
  rfl
end Go.Proofs.Ytlebjleebclmgaa

/- Contracts of chapter 1: a line of few items. No conditions on a program. -/
namespace Go.Proofs.Ytlebjleebclmgaa
open Go Go.RowKit Go.Proofs
set_option linter.unusedSimpArgs false
set_option linter.unusedVariables false
theorem y12_fl26_0 : FldIs Try.prog 26 0 0 false 1 := by unfold FldIs; kernel_rfl
theorem y12_fl26_1 : FldIs Try.prog 26 1 1 false 1 := by unfold FldIs; kernel_rfl
theorem y12_fl26_2 : FldIs Try.prog 26 2 2 false 1 := by unfold FldIs; kernel_rfl
theorem y12_fl26_3 : FldIs Try.prog 26 3 3 false 1 := by unfold FldIs; kernel_rfl
theorem y12_fl69_0 : FldIs Try.prog 69 0 0 false 1 := by unfold FldIs; kernel_rfl
theorem y12_fl69_2 : FldIs Try.prog 69 2 2 false 1 := by unfold FldIs; kernel_rfl
theorem y12_hcf36 : ∀ args w, (callFunc 36 args).run Try.prog w = .ok (.enter 36 args) w := fun _ _ => by kernel_rfl
theorem y12_sl22 : SlIs Try.prog 22 85 4 32 (.agg #[.int .i64 0, .int .i64 0, .int .i64 0, .int .i64 0]) := ⟨by kernel_rfl, by kernel_rfl, by kernel_rfl⟩
theorem y12_sl23 : SlIs Try.prog 23 88 2 16 (.agg #[.int .i64 0, .int .i64 0]) := ⟨by kernel_rfl, by kernel_rfl, by kernel_rfl⟩
theorem y12_sl24 : SlIs Try.prog 24 69 3 48 (.agg #[.string ByteArray.empty, .int .i64 0, .slice none 0 0]) := ⟨by kernel_rfl, by kernel_rfl, by kernel_rfl⟩
theorem y12_sl67 : SlIs Try.prog 67 3 1 8 (.int .i64 0) := ⟨by kernel_rfl, by kernel_rfl, by kernel_rfl⟩
theorem y12_ty22 : TyIs Try.prog 22 false 1 := ⟨by kernel_rfl, by kernel_rfl⟩
theorem y12_ty23 : TyIs Try.prog 23 false 1 := ⟨by kernel_rfl, by kernel_rfl⟩
theorem y12_ty24 : TyIs Try.prog 24 false 1 := ⟨by kernel_rfl, by kernel_rfl⟩
theorem y12_ty67 : TyIs Try.prog 67 false 1 := ⟨by kernel_rfl, by kernel_rfl⟩
theorem y12_ty9 : TyIs Try.prog 9 false 1 := ⟨by kernel_rfl, by kernel_rfl⟩
theorem y12_un9 : Try.prog.underlying 9 = some .string := by kernel_rfl

def swF (s : Swi) : Bool := decide (s.nam.size ≤ 20 ∧ s.acr.length ≤ 6)
def few0 (l : Lin) : Bool := decide (l.nam.size ≤ 20 ∧ (l.bs.length ≤ 8 ∨ (40 < l.bs.length ∧ l.bs.length ≤ 43)) ∧ (l.js.length ≤ 9 ∨ (41 < l.js.length ∧ l.js.length ≤ 44)) ∧ l.ss.length ≤ 6)
def fewL (l : Lin) : Bool := few0 l && l.ss.all swF
theorem all_hit {α : Type} [Inhabited α] {p : α → Bool} {l : List α} {j : Nat} (hj : j < l.length) (h : p (l.getD j default) = false) : l.all p = false := by
  rw [List.all_eq_false]
  exact ⟨l[j], List.getElem_mem hj, by rw [List.getD_eq_getElem?_getD, List.getElem?_eq_getElem hj] at h; simpa using h⟩
theorem all_miss {α : Type} [Inhabited α] {p : α → Bool} {l : List α} (h : ∀ j : Nat, j < l.length → p (l.getD j default) = true) : l.all p = true := by
  rw [List.all_eq_true]
  intro x hx
  obtain ⟨j, hj, rfl⟩ := List.getElem_of_mem hx
  have := h j hj
  rwa [List.getD_eq_getElem?_getD, List.getElem?_eq_getElem hj] at this
theorem fewL_sho {l : Lin} (h : fewL l = true) : Sho l := by
  simp only [fewL, few0, Bool.and_eq_true, decide_eq_true_eq, List.all_eq_true, swF] at h
  obtain ⟨⟨a, b, c, d⟩, e⟩ := h
  exact ⟨by omega, by omega, by omega, by omega, fun s hs => by have := e s hs; omega⟩
set_option maxRecDepth 100000 in
set_option maxHeartbeats 4000000 in
theorem fewL_ok (l : Lin) : FnOk Try.prog 7 [lnA l] (fun q => q = tbA (fewL l)) := by
  refine fnOk_of (fn := Try.f7) 53 (by kernel_rfl) rfl (by kernel_rfl) (Nat.le_of_ble_eq_true rfl) ?_
  intro e_0 m_0 hA hm_0
  have s0_0 : evA e_0 (.tmp 0) = _ := hA 0 _ rfl
  have ml_0 : m_0.length = 0 := by rw [hm_0]; rfl
  clear hA hm_0
  refine aw_seq ?_
  refine aw_text (by kernel_rfl) ?_
  refine al_stm (st_box s0_0 rfl ml_0) trivial rfl (fun m_1 hm_1 => ?_)
  have mo0_1 := m_push hm_1 ml_0
  (try simp only [packA_t, packA_f, iE, bE, setAt, cellsA, Value.cells, map_vc, map_vn, Nat.reduceAdd, qS, swE] at mo0_1)
  have ml_1 := m_push_l hm_1 ml_0
  have ml_1 : _ = 1 := ml_1
  clear hm_1
  refine al_ro' (ro_assign ev_c) trivial rfl ?_
  refine al_end (fun e_2 he_2 => ?_)
  have s1_2 := ef 1 he_2 (up_m rfl up_h)
  clear he_2 s0_0
  refine then_n ?_
  refine aw_seq ?_
  refine aw_seq ?_
  refine aw_cut (fun e mem => (evA e (.tmp 27) = .v (.bool (!few0 l))) ∧ (evA e (.tmp 1) = evA e_2 (.tmp 1)) ∧ m_1 = mem) ?_ ?_
  ·
    refine aw_text (by kernel_rfl) ?_
    refine al_ro' (ro_fld_ptr y12_fl26_0 rfl s1_2) trivial rfl ?_
    refine al_ro' (ro_eq (ro_ld_ptr y12_ty9 rfl mo0_1 up_h (by first | exact Nat.le_of_ble_eq_true rfl | omega | (simp only [lnS] <;> omega) | (simp <;> omega))) (by first | (simp only [packA_t, packA_f, iE, bE, setAt, cellsA, Value.cells, map_vc, map_vn, Nat.reduceAdd, qS, swE] <;> rfl) | rfl)) trivial rfl ?_
    refine al_ro' (ro_len_str up_h rfl y12_un9) trivial rfl ?_
    refine al_ro' (ro_gtr up_h ev_c) trivial rfl ?_
    refine al_ro' (ro_move up_h) trivial rfl ?_
    refine al_case up_h (fun hb_4 hq_4 => ?_) (fun hb_4 hq_4 => ?_)
    · (first | replace hq_4 := bnt hq_4 | replace hq_4 := bnf hq_4 | replace hq_4 := bt hq_4 | replace hq_4 := bf hq_4 | replace hq_4 := bt' hq_4 | replace hq_4 := bf' hq_4 | skip)
      first
      | (cases hq_4; done) | (exfalso; omega)
      | (
         refine al_skip' ⟨_, rfl, .inl hb_4⟩ rfl ?_
         refine al_skip' ⟨_, rfl, .inl (up_m rfl hb_4)⟩ rfl ?_
         refine al_skip' ⟨_, rfl, .inl (u2 rfl hb_4)⟩ rfl ?_
         refine al_skip' ⟨_, rfl, .inl (up_m rfl (u2 rfl hb_4))⟩ rfl ?_
         refine al_skip' ⟨_, rfl, .inl (u4 rfl hb_4)⟩ rfl ?_
         refine al_ro' (ro_pickT (up_m rfl (u4 rfl hb_4)) ev_c) trivial rfl ?_
         refine al_ro' (ro_move up_h) trivial rfl ?_
         refine al_skip' ⟨_, rfl, .inl up_h⟩ rfl ?_
         refine al_skip' ⟨_, rfl, .inl (up_m rfl up_h)⟩ rfl ?_
         refine al_skip' ⟨_, rfl, .inl (u2 rfl up_h)⟩ rfl ?_
         refine al_skip' ⟨_, rfl, .inl (up_m rfl (u2 rfl up_h))⟩ rfl ?_
         refine al_skip' ⟨_, rfl, .inl (u4 rfl up_h)⟩ rfl ?_
         refine al_ro' (ro_pickT (up_m rfl (u4 rfl up_h)) ev_c) trivial rfl ?_
         refine al_ro' (ro_move up_h) trivial rfl ?_
         refine al_skip' ⟨_, rfl, .inl up_h⟩ rfl ?_
         refine al_skip' ⟨_, rfl, .inl (up_m rfl up_h)⟩ rfl ?_
         refine al_skip' ⟨_, rfl, .inl (u2 rfl up_h)⟩ rfl ?_
         refine al_skip' ⟨_, rfl, .inl (up_m rfl (u2 rfl up_h))⟩ rfl ?_
         refine al_ro' (ro_pickT (u4 rfl up_h) ev_c) trivial rfl ?_
         refine al_end (fun e_5 he_5 => ?_)
         have s1_5 := ef 1 he_5 (u8 rfl (u16 rfl s1_2))
         have s27_5 := ef 27 he_5 up_h
         clear he_5
         refine then_n ⟨(s27_5).trans (by (refine avb ?_; simp only [few0, fewB, Bool.not_eq_true', decide_eq_false_iff_not, decide_eq_true_eq, Bool.false_eq_true, true_iff, false_iff, iff_true, iff_false] at *; omega)), (s1_5).trans (s1_2).symm, rfl⟩)
    · (first | replace hq_4 := bnt hq_4 | replace hq_4 := bnf hq_4 | replace hq_4 := bt hq_4 | replace hq_4 := bf hq_4 | replace hq_4 := bt' hq_4 | replace hq_4 := bf' hq_4 | skip)
      first
      | (cases hq_4; done) | (exfalso; omega)
      | (
         refine al_ro' (ro_fld_ptr y12_fl26_2 rfl (up_m rfl (u4 rfl s1_2))) ⟨_, rfl, hb_4⟩ rfl ?_
         refine al_ro' (ro_eq (ro_ld_ptr y12_ty23 rfl mo0_1 up_h (by first | exact Nat.le_of_ble_eq_true rfl | omega | (simp only [lnS] <;> omega) | (simp <;> omega))) (by first | (simp only [packA_t, packA_f, iE, bE, setAt, cellsA, Value.cells, map_vc, map_vn, Nat.reduceAdd, qS, swE] <;> rfl) | rfl)) ⟨_, rfl, (up_m rfl hb_4)⟩ rfl ?_
         refine al_ro' (ro_eq (ro_len_row up_h rfl y12_sl23.1) (by first | (simp only [lnS] <;> rfl) | rfl)) ⟨_, rfl, (u2 rfl hb_4)⟩ rfl ?_
         refine al_ro' (ro_call (evL_cons up_h (evL_cons ev_c (evL_cons ev_c evL_nil))) rfl (few_ok _ _ _ (by decide)) y12_hcf36) ⟨_, rfl, (up_m rfl (u2 rfl hb_4))⟩ rfl ?_
         refine al_ro' (ro_not up_h) ⟨_, rfl, (u4 rfl hb_4)⟩ rfl ?_
         refine al_ro' (ro_pickF (up_m rfl (u4 rfl hb_4)) up_h) trivial rfl ?_
         refine al_ro' (ro_move up_h) trivial rfl ?_
         refine al_case up_h (fun hb_6 hq_6 => ?_) (fun hb_6 hq_6 => ?_)
         · (first | replace hq_6 := bnt hq_6 | replace hq_6 := bnf hq_6 | replace hq_6 := bt hq_6 | replace hq_6 := bf hq_6 | replace hq_6 := bt' hq_6 | replace hq_6 := bf' hq_6 | skip)
           first
           | (cases hq_6; done) | (exfalso; omega)
           | (
              refine al_skip' ⟨_, rfl, .inl hb_6⟩ rfl ?_
              refine al_skip' ⟨_, rfl, .inl (up_m rfl hb_6)⟩ rfl ?_
              refine al_skip' ⟨_, rfl, .inl (u2 rfl hb_6)⟩ rfl ?_
              refine al_skip' ⟨_, rfl, .inl (up_m rfl (u2 rfl hb_6))⟩ rfl ?_
              refine al_skip' ⟨_, rfl, .inl (u4 rfl hb_6)⟩ rfl ?_
              refine al_ro' (ro_pickT (up_m rfl (u4 rfl hb_6)) ev_c) trivial rfl ?_
              refine al_ro' (ro_move up_h) trivial rfl ?_
              refine al_skip' ⟨_, rfl, .inl up_h⟩ rfl ?_
              refine al_skip' ⟨_, rfl, .inl (up_m rfl up_h)⟩ rfl ?_
              refine al_skip' ⟨_, rfl, .inl (u2 rfl up_h)⟩ rfl ?_
              refine al_skip' ⟨_, rfl, .inl (up_m rfl (u2 rfl up_h))⟩ rfl ?_
              refine al_ro' (ro_pickT (u4 rfl up_h) ev_c) trivial rfl ?_
              refine al_end (fun e_7 he_7 => ?_)
              have s1_7 := ef 1 he_7 (u8 rfl (u16 rfl s1_2))
              have s27_7 := ef 27 he_7 up_h
              clear he_7
              refine then_n ⟨(s27_7).trans (by (refine avb ?_; simp only [few0, fewB, Bool.not_eq_true', decide_eq_false_iff_not, decide_eq_true_eq, Bool.false_eq_true, true_iff, false_iff, iff_true, iff_false] at *; omega)), (s1_7).trans (s1_2).symm, rfl⟩)
         · (first | replace hq_6 := bnt hq_6 | replace hq_6 := bnf hq_6 | replace hq_6 := bt hq_6 | replace hq_6 := bf hq_6 | replace hq_6 := bt' hq_6 | replace hq_6 := bf' hq_6 | skip)
           first
           | (cases hq_6; done) | (exfalso; omega)
           | (
              refine al_ro' (ro_fld_ptr y12_fl26_1 rfl (u4 rfl (u8 rfl s1_2))) ⟨_, rfl, hb_6⟩ rfl ?_
              refine al_ro' (ro_eq (ro_ld_ptr y12_ty22 rfl mo0_1 up_h (by first | exact Nat.le_of_ble_eq_true rfl | omega | (simp only [lnS] <;> omega) | (simp <;> omega))) (by first | (simp only [packA_t, packA_f, iE, bE, setAt, cellsA, Value.cells, map_vc, map_vn, Nat.reduceAdd, qS, swE] <;> rfl) | rfl)) ⟨_, rfl, (up_m rfl hb_6)⟩ rfl ?_
              refine al_ro' (ro_eq (ro_len_row up_h rfl y12_sl22.1) (by first | (simp only [lnS] <;> rfl) | rfl)) ⟨_, rfl, (u2 rfl hb_6)⟩ rfl ?_
              refine al_ro' (ro_call (evL_cons up_h (evL_cons ev_c (evL_cons ev_c evL_nil))) rfl (few_ok _ _ _ (by decide)) y12_hcf36) ⟨_, rfl, (up_m rfl (u2 rfl hb_6))⟩ rfl ?_
              refine al_ro' (ro_not up_h) ⟨_, rfl, (u4 rfl hb_6)⟩ rfl ?_
              refine al_ro' (ro_pickF (up_m rfl (u4 rfl hb_6)) up_h) trivial rfl ?_
              refine al_ro' (ro_move up_h) trivial rfl ?_
              refine al_case up_h (fun hb_8 hq_8 => ?_) (fun hb_8 hq_8 => ?_)
              · (first | replace hq_8 := bnt hq_8 | replace hq_8 := bnf hq_8 | replace hq_8 := bt hq_8 | replace hq_8 := bf hq_8 | replace hq_8 := bt' hq_8 | replace hq_8 := bf' hq_8 | skip)
                first
                | (cases hq_8; done) | (exfalso; omega)
                | (
                   refine al_skip' ⟨_, rfl, .inl hb_8⟩ rfl ?_
                   refine al_skip' ⟨_, rfl, .inl (up_m rfl hb_8)⟩ rfl ?_
                   refine al_skip' ⟨_, rfl, .inl (u2 rfl hb_8)⟩ rfl ?_
                   refine al_skip' ⟨_, rfl, .inl (up_m rfl (u2 rfl hb_8))⟩ rfl ?_
                   refine al_ro' (ro_pickT (u4 rfl hb_8) ev_c) trivial rfl ?_
                   refine al_end (fun e_9 he_9 => ?_)
                   have s1_9 := ef 1 he_9 (u8 rfl (u16 rfl s1_2))
                   have s27_9 := ef 27 he_9 up_h
                   clear he_9
                   refine then_n ⟨(s27_9).trans (by (refine avb ?_; simp only [few0, fewB, Bool.not_eq_true', decide_eq_false_iff_not, decide_eq_true_eq, Bool.false_eq_true, true_iff, false_iff, iff_true, iff_false] at *; omega)), (s1_9).trans (s1_2).symm, rfl⟩)
              · (first | replace hq_8 := bnt hq_8 | replace hq_8 := bnf hq_8 | replace hq_8 := bt hq_8 | replace hq_8 := bf hq_8 | replace hq_8 := bt' hq_8 | replace hq_8 := bf' hq_8 | skip)
                first
                | (cases hq_8; done) | (exfalso; omega)
                | (
                   refine al_ro' (ro_fld_ptr y12_fl26_3 rfl (up_m rfl (u2 rfl (u16 rfl s1_2)))) ⟨_, rfl, hb_8⟩ rfl ?_
                   refine al_ro' (ro_eq (ro_ld_ptr y12_ty24 rfl mo0_1 up_h (by first | exact Nat.le_of_ble_eq_true rfl | omega | (simp only [lnS] <;> omega) | (simp <;> omega))) (by first | (simp only [packA_t, packA_f, iE, bE, setAt, cellsA, Value.cells, map_vc, map_vn, Nat.reduceAdd, qS, swE] <;> rfl) | rfl)) ⟨_, rfl, (up_m rfl hb_8)⟩ rfl ?_
                   refine al_ro' (ro_eq (ro_len_row up_h rfl y12_sl24.1) (by first | (simp only [lnS] <;> rfl) | rfl)) ⟨_, rfl, (u2 rfl hb_8)⟩ rfl ?_
                   refine al_ro' (ro_gtr up_h ev_c) ⟨_, rfl, (up_m rfl (u2 rfl hb_8))⟩ rfl ?_
                   refine al_ro' (ro_pickF (u4 rfl hb_8) up_h) trivial rfl ?_
                   refine al_end (fun e_10 he_10 => ?_)
                   have s1_10 := ef 1 he_10 (u8 rfl (u16 rfl s1_2))
                   have s27_10 := ef 27 he_10 up_h
                   clear he_10
                   refine then_n ⟨(s27_10).trans (by (refine avb ?_; simp only [few0, fewB, Bool.not_eq_true', decide_eq_false_iff_not, decide_eq_true_eq, Bool.false_eq_true, true_iff, false_iff, iff_true, iff_false] at *; omega)), (s1_10).trans (s1_2).symm, rfl⟩)))
  · rintro e_3 _ ⟨s27_3, k1_3, rfl⟩
    have s1_3 := k1_3.trans s1_2
    refine aw_case s27_3 (fun hq_11 => ?_) (fun hq_11 => ?_)
    · (first | replace hq_11 := bnt hq_11 | replace hq_11 := bnf hq_11 | replace hq_11 := bt hq_11 | replace hq_11 := bf hq_11 | replace hq_11 := bt' hq_11 | replace hq_11 := bf' hq_11 | skip)
      first
      | (cases hq_11; done) | (exfalso; omega)
      | (
         refine aw_seq ?_
         refine aw_text (by kernel_rfl) ?_
         refine al_ro' (ro_assign ev_c) trivial rfl ?_
         refine al_end (fun e_12 he_12 => ?_)
         have s2_12 := ef 2 he_12 up_h
         clear he_12 s1_3 s27_3
         refine then_n ?_
         refine aw_ret ?_
         refine then_r ?_
         refine ret1 (.inr rfl) (by kernel_rfl) (resV_tmp s2_12) (.ro _ rfl) ?_
         clear s2_12 mo0_1 ml_1
         (have e : few0 l = false := (by unfold few0; rw [decide_eq_false_iff_not]; first | assumption | omega); rw [fewL, e]; rfl))
    · (first | replace hq_11 := bnt hq_11 | replace hq_11 := bnf hq_11 | replace hq_11 := bt hq_11 | replace hq_11 := bf hq_11 | replace hq_11 := bt' hq_11 | replace hq_11 := bf' hq_11 | skip)
      first
      | (cases hq_11; done) | (exfalso; omega)
      | (
         (have hf0 : few0 l = true := (by unfold few0; rw [decide_eq_true_eq]; first | assumption | omega); have hss : l.ss.length ≤ 6 := (by simp only [few0, decide_eq_true_eq] at hf0; exact hf0.2.2.2))
         refine aw_skip ?_
         refine then_n ?_
         refine aw_seq ?_
         refine aw_seq ?_
         refine aw_text (by kernel_rfl) ?_
         refine al_ro' (ro_assign ev_c) trivial rfl ?_
         refine al_end (fun e_13 he_13 => ?_)
         have s1_13 := ef 1 he_13 (up_m rfl s1_3)
         have s3_13 := ef 3 he_13 up_h
         clear he_13 s1_3 s27_3
         refine then_n ?_
         refine aw_block ?_
         refine aw_loop (S := Int) (fun k e mem => (evA e (.tmp 3) = .v (.int .i64 k)) ∧ (evA e (.tmp 1) = evA e_13 (.tmp 1)) ∧ (mem[0]? = m_1[0]?) ∧ (mem.length = 1) ∧ ((0 ≤ k ∧ k ≤ l.ss.length ∧ ∀ j : Nat, j < k.toNat → swF (l.ss.getD j default) = true))) (fun k => (l.ss.length - k).toNat) _ ⟨s3_13, rfl, rfl, ml_1, ?_⟩ ?_
         · (exact ⟨by omega, by omega, fun j h => absurd h (by omega)⟩)
         · rintro k e_14 m_14 ⟨s3_14, k1_14, mk0_14, ml_14, hinv⟩
           have s1_14 := k1_14.trans s1_13
           have mo0_14 := mk0_14.trans mo0_1
           (obtain ⟨p1, p2, p3⟩ := hinv)
           refine aw_seq ?_
           refine aw_seq ?_
           refine aw_text (by kernel_rfl) ?_
           refine al_ro' (ro_move s3_14) trivial rfl ?_
           refine al_ro' (ro_fld_ptr y12_fl26_3 rfl (up_m rfl s1_14)) trivial rfl ?_
           refine al_ro' (ro_eq (ro_ld_ptr y12_ty24 rfl mo0_14 up_h (by first | exact Nat.le_of_ble_eq_true rfl | omega | (simp only [lnS] <;> omega) | (simp <;> omega))) (by first | (simp only [packA_t, packA_f, iE, bE, setAt, cellsA, Value.cells, map_vc, map_vn, Nat.reduceAdd, qS, swE] <;> rfl) | rfl)) trivial rfl ?_
           refine al_ro' (ro_eq (ro_len_row up_h rfl y12_sl24.1) (by first | (simp only [lnS] <;> rfl) | rfl)) trivial rfl ?_
           refine al_ro' (ro_lss (up_m rfl (u2 rfl up_h)) up_h) trivial rfl ?_
           refine al_end (fun e_15 he_15 => ?_)
           have s1_15 := ef 1 he_15 (up_m rfl (u4 rfl s1_14))
           have s3_15 := ef 3 he_15 (up_m rfl (u4 rfl s3_14))
           have s32_15 := ef 32 he_15 up_h
           clear he_15 s1_14 s3_14
           refine then_n ?_
           refine aw_case s32_15 (fun hq_16 => ?_) (fun hq_16 => ?_)
           · (first | replace hq_16 := bnt hq_16 | replace hq_16 := bnf hq_16 | replace hq_16 := bt hq_16 | replace hq_16 := bf hq_16 | replace hq_16 := bt' hq_16 | replace hq_16 := bf' hq_16 | skip)
             first
             | (cases hq_16; done) | (exfalso; omega)
             | (
                refine aw_skip ?_
                refine then_n ?_
                refine aw_seq ?_
                refine aw_block ?_
                refine aw_seq ?_
                refine aw_cut (fun e mem => (evA e (.tmp 52) = .v (.bool (!swF (l.ss.getD k.toNat default)))) ∧ (evA e (.tmp 1) = evA e_15 (.tmp 1)) ∧ (evA e (.tmp 3) = evA e_15 (.tmp 3)) ∧ m_14 = mem) ?_ ?_
                ·
                  refine aw_text (by kernel_rfl) ?_
                  refine al_ro' (ro_fld_ptr y12_fl26_3 rfl s1_15) trivial rfl ?_
                  refine al_ro' (ro_eq (ro_ld_ptr y12_ty24 rfl mo0_14 up_h (by first | exact Nat.le_of_ble_eq_true rfl | omega | (simp only [lnS] <;> omega) | (simp <;> omega))) (by first | (simp only [packA_t, packA_f, iE, bE, setAt, cellsA, Value.cells, map_vc, map_vn, Nat.reduceAdd, qS, swE] <;> rfl) | rfl)) trivial rfl ?_
                  refine al_ro' (ro_move (u2 rfl s3_15)) trivial rfl ?_
                  refine al_ro' (ro_eq (ro_ix y12_sl24 (up_m rfl up_h) up_h (by first | decide | omega | (simp <;> omega)) (by first | (refine idx_map ?_; first | omega | (simp only [lnS]; omega)) | (refine idx_mapI ?_; first | omega | (simp only [lnS]; omega)) | (refine idx_mapN ?_; first | omega | (simp only [lnS]; omega)) | rfl)) (by first | (simp only [packA_t, packA_f, iE, bE, setAt, cellsA, Value.cells, map_vc, map_vn, Nat.reduceAdd, qS, swE] <;> rfl) | rfl)) trivial rfl ?_
                  refine al_ro' (ro_eq (ro_fld_ref y12_fl69_0 rfl up_h) (by first | (simp only [packA_t, packA_f, iE, bE, setAt, cellsA, Value.cells, map_vc, map_vn, Nat.reduceAdd, qS, swE] <;> rfl) | rfl)) trivial rfl ?_
                  refine al_ro' (ro_eq (ro_ld_ref y12_ty9 rfl up_h (by first | exact Nat.le_of_ble_eq_true rfl | omega | (simp only [lnS] <;> omega) | (simp <;> omega))) (by first | (simp only [packA_t, packA_f, iE, bE, setAt, cellsA, Value.cells, map_vc, map_vn, Nat.reduceAdd, qS, swE] <;> rfl) | rfl)) trivial rfl ?_
                  refine al_ro' (ro_len_str up_h rfl y12_un9) trivial rfl ?_
                  refine al_ro' (ro_gtr up_h ev_c) trivial rfl ?_
                  refine al_ro' (ro_move up_h) trivial rfl ?_
                  refine al_case up_h (fun hb_18 hq_18 => ?_) (fun hb_18 hq_18 => ?_)
                  · (first | replace hq_18 := bnt hq_18 | replace hq_18 := bnf hq_18 | replace hq_18 := bt hq_18 | replace hq_18 := bf hq_18 | replace hq_18 := bt' hq_18 | replace hq_18 := bf' hq_18 | skip)
                    first
                    | (cases hq_18; done) | (exfalso; omega)
                    | (
                       refine al_skip' ⟨_, rfl, .inl hb_18⟩ rfl ?_
                       refine al_skip' ⟨_, rfl, .inl (up_m rfl hb_18)⟩ rfl ?_
                       refine al_skip' ⟨_, rfl, .inl (u2 rfl hb_18)⟩ rfl ?_
                       refine al_skip' ⟨_, rfl, .inl (up_m rfl (u2 rfl hb_18))⟩ rfl ?_
                       refine al_skip' ⟨_, rfl, .inl (u4 rfl hb_18)⟩ rfl ?_
                       refine al_skip' ⟨_, rfl, .inl (up_m rfl (u4 rfl hb_18))⟩ rfl ?_
                       refine al_skip' ⟨_, rfl, .inl (u2 rfl (u4 rfl hb_18))⟩ rfl ?_
                       refine al_skip' ⟨_, rfl, .inl (up_m rfl (u2 rfl (u4 rfl hb_18)))⟩ rfl ?_
                       refine al_ro' (ro_pickT (u8 rfl hb_18) ev_c) trivial rfl ?_
                       refine al_end (fun e_19 he_19 => ?_)
                       have s1_19 := ef 1 he_19 (u2 rfl (u16 rfl s1_15))
                       have s3_19 := ef 3 he_19 (u2 rfl (u16 rfl s3_15))
                       have s52_19 := ef 52 he_19 up_h
                       clear he_19
                       refine then_n ⟨(s52_19).trans (by (refine avb ?_; simp only [swF, Bool.not_eq_true', decide_eq_false_iff_not, decide_eq_true_eq, Bool.false_eq_true, true_iff, false_iff]; omega)), (s1_19).trans (s1_15).symm, (s3_19).trans (s3_15).symm, rfl⟩)
                  · (first | replace hq_18 := bnt hq_18 | replace hq_18 := bnf hq_18 | replace hq_18 := bt hq_18 | replace hq_18 := bf hq_18 | replace hq_18 := bt' hq_18 | replace hq_18 := bf' hq_18 | skip)
                    first
                    | (cases hq_18; done) | (exfalso; omega)
                    | (
                       refine al_ro' (ro_fld_ptr y12_fl26_3 rfl (up_m rfl (u8 rfl s1_15))) ⟨_, rfl, hb_18⟩ rfl ?_
                       refine al_ro' (ro_eq (ro_ld_ptr y12_ty24 rfl mo0_14 up_h (by first | exact Nat.le_of_ble_eq_true rfl | omega | (simp only [lnS] <;> omega) | (simp <;> omega))) (by first | (simp only [packA_t, packA_f, iE, bE, setAt, cellsA, Value.cells, map_vc, map_vn, Nat.reduceAdd, qS, swE] <;> rfl) | rfl)) ⟨_, rfl, (up_m rfl hb_18)⟩ rfl ?_
                       refine al_ro' (ro_move (up_m rfl (u2 rfl (u8 rfl s3_15)))) ⟨_, rfl, (u2 rfl hb_18)⟩ rfl ?_
                       refine al_ro' (ro_eq (ro_ix y12_sl24 (up_m rfl up_h) up_h (by first | decide | omega | (simp <;> omega)) (by first | (refine idx_map ?_; first | omega | (simp only [lnS]; omega)) | (refine idx_mapI ?_; first | omega | (simp only [lnS]; omega)) | (refine idx_mapN ?_; first | omega | (simp only [lnS]; omega)) | rfl)) (by first | (simp only [packA_t, packA_f, iE, bE, setAt, cellsA, Value.cells, map_vc, map_vn, Nat.reduceAdd, qS, swE] <;> rfl) | rfl)) ⟨_, rfl, (up_m rfl (u2 rfl hb_18))⟩ rfl ?_
                       refine al_ro' (ro_eq (ro_fld_ref y12_fl69_2 rfl up_h) (by first | (simp only [packA_t, packA_f, iE, bE, setAt, cellsA, Value.cells, map_vc, map_vn, Nat.reduceAdd, qS, swE] <;> rfl) | rfl)) ⟨_, rfl, (u4 rfl hb_18)⟩ rfl ?_
                       refine al_ro' (ro_eq (ro_ld_ref y12_ty67 rfl up_h (by first | exact Nat.le_of_ble_eq_true rfl | omega | (simp only [lnS] <;> omega) | (simp <;> omega))) (by first | (simp only [packA_t, packA_f, iE, bE, setAt, cellsA, Value.cells, map_vc, map_vn, Nat.reduceAdd, qS, swE] <;> rfl) | rfl)) ⟨_, rfl, (up_m rfl (u4 rfl hb_18))⟩ rfl ?_
                       refine al_ro' (ro_eq (ro_len_row up_h rfl y12_sl67.1) (by first | (simp only [lnS] <;> rfl) | rfl)) ⟨_, rfl, (u2 rfl (u4 rfl hb_18))⟩ rfl ?_
                       refine al_ro' (ro_gtr up_h ev_c) ⟨_, rfl, (up_m rfl (u2 rfl (u4 rfl hb_18)))⟩ rfl ?_
                       refine al_ro' (ro_pickF (u8 rfl hb_18) up_h) trivial rfl ?_
                       refine al_end (fun e_20 he_20 => ?_)
                       have s1_20 := ef 1 he_20 (u2 rfl (u16 rfl s1_15))
                       have s3_20 := ef 3 he_20 (u2 rfl (u16 rfl s3_15))
                       have s52_20 := ef 52 he_20 up_h
                       clear he_20
                       refine then_n ⟨(s52_20).trans (by (refine avb ?_; simp only [swF, Bool.not_eq_true', decide_eq_false_iff_not, decide_eq_true_eq, Bool.false_eq_true, true_iff, false_iff]; omega)), (s1_20).trans (s1_15).symm, (s3_20).trans (s3_15).symm, rfl⟩)
                · rintro e_17 _ ⟨s52_17, k1_17, k3_17, rfl⟩
                  have s1_17 := k1_17.trans s1_15
                  have s3_17 := k3_17.trans s3_15
                  refine aw_case s52_17 (fun hq_21 => ?_) (fun hq_21 => ?_)
                  · (first | replace hq_21 := bnt hq_21 | replace hq_21 := bnf hq_21 | replace hq_21 := bt hq_21 | replace hq_21 := bf hq_21 | replace hq_21 := bt' hq_21 | replace hq_21 := bf' hq_21 | skip)
                    first
                    | (cases hq_21; done) | (exfalso; omega)
                    | (
                       refine aw_seq ?_
                       refine aw_text (by kernel_rfl) ?_
                       refine al_ro' (ro_assign ev_c) trivial rfl ?_
                       refine al_end (fun e_22 he_22 => ?_)
                       have s2_22 := ef 2 he_22 up_h
                       clear he_22 s1_17 s3_17 s52_17
                       refine then_n ?_
                       refine aw_ret ?_
                       refine block_r ?_
                       refine then_r ?_
                       refine then_r ?_
                       refine block_r ?_
                       refine then_r ?_
                       refine ret1 (.inr rfl) (by kernel_rfl) (resV_tmp s2_22) (.ro _ rfl) ?_
                       clear s2_22 mo0_14 ml_14
                       (rw [fewL, hf0, all_hit (j := k.toNat) (by omega) (by first | assumption | (unfold swF; rw [decide_eq_false_iff_not]; first | assumption | omega))]; rfl))
                  · (first | replace hq_21 := bnt hq_21 | replace hq_21 := bnf hq_21 | replace hq_21 := bt hq_21 | replace hq_21 := bf hq_21 | replace hq_21 := bt' hq_21 | replace hq_21 := bf' hq_21 | skip)
                    first
                    | (cases hq_21; done) | (exfalso; omega)
                    | (
                       refine aw_skip ?_
                       refine block_n ?_
                       refine then_n ?_
                       refine aw_text (by kernel_rfl) ?_
                       refine al_ro' (ro_move s3_17) trivial rfl ?_
                       first | (refine al_ro' (ro_add' up_h ev_c ?_) trivial rfl ?_; · (unfold In64; omega)) | refine al_ro' (ro_add up_h ev_c) trivial rfl ?_
                       refine al_ro' (ro_assign up_h) trivial rfl ?_
                       refine al_end (fun e_23 he_23 => ?_)
                       have s1_23 := ef 1 he_23 (up_m rfl (u2 rfl s1_17))
                       have s3_23 := ef 3 he_23 up_h
                       clear he_23 s1_17 s3_17 s52_17
                       refine then_n ?_
                       refine ⟨_, ⟨s3_23, (s1_23.trans s1_13.symm), (mo0_14.trans mo0_1.symm), ml_14, ?_⟩, ?_⟩
                       · (refine ⟨by omega, by omega, fun j hj => ?_⟩; by_cases hji : j < k.toNat; (exact p3 j hji); (rw [show j = k.toNat by omega]; first | assumption | (unfold swF; rw [decide_eq_true_eq]; first | assumption | omega)))
                       · ((try dsimp only); omega)))
           · (first | replace hq_16 := bnt hq_16 | replace hq_16 := bnf hq_16 | replace hq_16 := bt hq_16 | replace hq_16 := bf hq_16 | replace hq_16 := bt' hq_16 | replace hq_16 := bf' hq_16 | skip)
             first
             | (cases hq_16; done) | (exfalso; omega)
             | (
                refine aw_exit ?_
                refine then_x ?_
                refine then_x ?_
                refine block_hit ?_
                refine then_n ?_
                refine aw_seq ?_
                refine aw_text (by kernel_rfl) ?_
                refine al_ro' (ro_assign ev_c) trivial rfl ?_
                refine al_end (fun e_24 he_24 => ?_)
                have s2_24 := ef 2 he_24 up_h
                clear he_24 s1_15 s32_15 s3_15
                refine then_n ?_
                refine aw_ret ?_
                refine ret1 (.inr rfl) (by kernel_rfl) (resV_tmp s2_24) (.ro _ rfl) ?_
                clear s2_24 mo0_14 ml_14
                (rw [fewL, hf0, all_miss (fun j hj => p3 j (by omega))]; rfl)))
end Go.Proofs.Ytlebjleebclmgaa

/- Contracts of chapter 1: a line copied. No conditions on a program. -/
namespace Go.Proofs.Ytlebjleebclmgaa
open Go Go.RowKit Go.Proofs
set_option linter.unusedSimpArgs false
set_option linter.unusedVariables false
theorem y13_az26 : (Try.prog.info? 26).bind (·.zero) = some (.agg #[.string ByteArray.empty, .slice none 0 0, .slice none 0 0, .slice none 0 0]) := by kernel_rfl
theorem y13_az69 : (Try.prog.info? 69).bind (·.zero) = some (.agg #[.string ByteArray.empty, .int .i64 0, .slice none 0 0]) := by kernel_rfl
theorem y13_fl26_1 : FldIs Try.prog 26 1 1 false 1 := by unfold FldIs; kernel_rfl
theorem y13_fl26_2 : FldIs Try.prog 26 2 2 false 1 := by unfold FldIs; kernel_rfl
theorem y13_fl26_3 : FldIs Try.prog 26 3 3 false 1 := by unfold FldIs; kernel_rfl
theorem y13_fl69_2 : FldIs Try.prog 69 2 2 false 1 := by unfold FldIs; kernel_rfl
theorem y13_hcf38 : ∀ args w, (callFunc 38 args).run Try.prog w = .ok (.enter 38 args) w := fun _ _ => by kernel_rfl
theorem y13_sl22 : SlIs Try.prog 22 85 4 32 (.agg #[.int .i64 0, .int .i64 0, .int .i64 0, .int .i64 0]) := ⟨by kernel_rfl, by kernel_rfl, by kernel_rfl⟩
theorem y13_sl23 : SlIs Try.prog 23 88 2 16 (.agg #[.int .i64 0, .int .i64 0]) := ⟨by kernel_rfl, by kernel_rfl, by kernel_rfl⟩
theorem y13_sl24 : SlIs Try.prog 24 69 3 48 (.agg #[.string ByteArray.empty, .int .i64 0, .slice none 0 0]) := ⟨by kernel_rfl, by kernel_rfl, by kernel_rfl⟩
theorem y13_sl67 : SlIs Try.prog 67 3 1 8 (.int .i64 0) := ⟨by kernel_rfl, by kernel_rfl, by kernel_rfl⟩
theorem y13_sz22 : (Try.prog.info? 22).map (·.size) = some 1 := by kernel_rfl
theorem y13_sz23 : (Try.prog.info? 23).map (·.size) = some 1 := by kernel_rfl
theorem y13_sz24 : (Try.prog.info? 24).map (·.size) = some 1 := by kernel_rfl
theorem y13_sz26 : (Try.prog.info? 26).map (·.size) = some 4 := by kernel_rfl
theorem y13_sz67 : (Try.prog.info? 67).map (·.size) = some 1 := by kernel_rfl
theorem y13_sz69 : (Try.prog.info? 69).map (·.size) = some 3 := by kernel_rfl
theorem y13_ty22 : TyIs Try.prog 22 false 1 := ⟨by kernel_rfl, by kernel_rfl⟩
theorem y13_ty23 : TyIs Try.prog 23 false 1 := ⟨by kernel_rfl, by kernel_rfl⟩
theorem y13_ty24 : TyIs Try.prog 24 false 1 := ⟨by kernel_rfl, by kernel_rfl⟩
theorem y13_ty26 : TyIs Try.prog 26 true 4 := ⟨by kernel_rfl, by kernel_rfl⟩
theorem y13_ty67 : TyIs Try.prog 67 false 1 := ⟨by kernel_rfl, by kernel_rfl⟩
theorem y13_ty69 : TyIs Try.prog 69 true 3 := ⟨by kernel_rfl, by kernel_rfl⟩

theorem one_swE (a : ByteArray) (b : Int) (c : List Int) : [[AV.v (.string a), AV.v (.int .i64 b), AV.row 1 (c.map iE)]] = [(⟨a, b, c⟩ : Swi)].map swE := rfl
theorem take_suc {l : List Swi} {i : Int} (h0 : 0 ≤ i) (h : i < l.length) : l.take (i + 1).toNat = l.take i.toNat ++ [l.getD i.toNat default] := by
  rw [show (i + 1).toNat = i.toNat + 1 by omega, List.take_add_one, List.getElem?_eq_getElem (by omega : i.toNat < l.length), List.getD_eq_getElem?_getD, List.getElem?_eq_getElem (by omega : i.toNat < l.length)]
  rfl
set_option maxRecDepth 100000 in
set_option maxHeartbeats 1000000 in
theorem yCopyInts_ok (xs : List Int) (hc : xs.length ≤ 1000000) : FnOk Try.prog 38 [.row 1 (xs.map iE)] (fun q => q = .row 1 (xs.map iE)) := by
  refine fnOk_of (fn := Try.f38) 6 (by kernel_rfl) rfl (by kernel_rfl) (Nat.le_of_ble_eq_true rfl) ?_
  intro e_0 m_0 hA hm_0
  have s0_0 : evA e_0 (.tmp 0) = _ := hA 0 _ rfl
  have ml_0 : m_0.length = 0 := by rw [hm_0]; rfl
  clear hA hm_0
  refine aw_seq ?_
  refine aw_text (by kernel_rfl) ?_
  refine al_ro' (ro_assign ev_c) trivial rfl ?_
  refine al_end (fun e_1 he_1 => ?_)
  have s0_1 := ef 0 he_1 (up_m rfl s0_0)
  clear he_1 s0_0
  refine then_n ?_
  refine aw_seq ?_
  refine aw_text (by kernel_rfl) ?_
  refine al_ro' (ro_lit0 y13_sl67) trivial rfl ?_
  refine al_ro' (ro_move (up_m rfl s0_1)) trivial rfl ?_
  refine al_ro' (ro_ape y13_sl67 rfl (up_m rfl up_h) up_h (by first | omega | (simp only [lnS] <;> omega) | (simp <;> omega))) trivial rfl ?_
  refine al_ro' (ro_assign up_h) trivial rfl ?_
  refine al_end (fun e_2 he_2 => ?_)
  have s2_2 := ef 2 he_2 up_h
  clear he_2 s0_1
  refine then_n ?_
  refine aw_ret ?_
  refine ret1 (.inr rfl) (by kernel_rfl) (resV_tmp s2_2) (.ro _ rfl) ?_
  clear s2_2  ml_0
  rfl
set_option maxRecDepth 100000 in
set_option maxHeartbeats 4000000 in
theorem yCopy_ok (l : Lin) (hl : Sho l) : FnOk Try.prog 9 [lnA l] (fun q => q = lnA l) := by
  obtain ⟨h1, h2, h3, h4, h5⟩ := id hl
  refine fnOk_of (fn := Try.f9) 39 (by kernel_rfl) rfl (by kernel_rfl) (Nat.le_of_ble_eq_true rfl) ?_
  intro e_0 m_0 hA hm_0
  have s0_0 : evA e_0 (.tmp 0) = _ := hA 0 _ rfl
  have ml_0 : m_0.length = 0 := by rw [hm_0]; rfl
  clear hA hm_0
  refine aw_seq ?_
  refine aw_text (by kernel_rfl) ?_
  refine al_stm (st_box s0_0 rfl ml_0) trivial rfl (fun m_1 hm_1 => ?_)
  have mo0_1 := m_push hm_1 ml_0
  (try simp only [packA_t, packA_f, iE, bE, setAt, cellsA, Value.cells, map_vc, map_vn, Nat.reduceAdd, qS, swE, one_swE, app_m] at mo0_1)
  have ml_1 := m_push_l hm_1 ml_0
  have ml_1 : _ = 1 := ml_1
  clear hm_1
  refine al_stm (st_alloc y13_az26 rfl ml_1) trivial rfl (fun m_2 hm_2 => ?_)
  have mo1_2 := m_push hm_2 ml_1
  (try simp only [packA_t, packA_f, iE, bE, setAt, cellsA, Value.cells, map_vc, map_vn, Nat.reduceAdd, qS, swE, one_swE, app_m] at mo1_2)
  have mo0_2 := m_push_o hm_2 mo0_1
  have ml_2 := m_push_l hm_2 ml_1
  have ml_2 : _ = 2 := ml_2
  clear hm_2 mo0_1
  refine al_end (fun e_3 he_3 => ?_)
  have s1_3 := ef 1 he_3 (up_m rfl up_h)
  have s2_3 := ef 2 he_3 up_h
  clear he_3 s0_0
  refine then_n ?_
  refine aw_seq ?_
  refine aw_text (by kernel_rfl) ?_
  refine al_ro' (ro_lit0 y13_sl22) trivial rfl ?_
  refine al_ro' (ro_fld_ptr y13_fl26_1 rfl (up_m rfl s1_3)) trivial rfl ?_
  refine al_ro' (ro_eq (ro_ld_ptr y13_ty22 rfl mo0_2 up_h (by first | exact Nat.le_of_ble_eq_true rfl | omega | (simp only [lnS] <;> omega) | (simp <;> omega))) (by first | (simp only [packA_t, packA_f, iE, bE, setAt, cellsA, Value.cells, map_vc, map_vn, Nat.reduceAdd, qS, swE, one_swE, app_m] <;> rfl) | rfl)) trivial rfl ?_
  refine al_ro' (ro_ape y13_sl22 rfl (u2 rfl up_h) up_h (by first | omega | (simp only [lnS] <;> omega) | (simp <;> omega))) trivial rfl ?_
  refine al_ro' (ro_fld_ptr y13_fl26_1 rfl (u4 rfl s1_3)) trivial rfl ?_
  refine al_stm (st_store up_h (up_m rfl up_h) rfl rfl mo0_2 y13_sz22 rfl (by first | exact Nat.le_of_ble_eq_true rfl | omega | (simp only [lnS] <;> omega) | (simp <;> omega))) trivial rfl (fun m_4 hm_4 => ?_)
  have mo0_4 := m_set hm_4 mo0_2
  (try simp only [packA_t, packA_f, iE, bE, setAt, cellsA, Value.cells, map_vc, map_vn, Nat.reduceAdd, qS, swE, one_swE, app_m] at mo0_4)
  have mo1_4 := m_set_o hm_4 mo1_2 (by decide)
  have ml_4 := m_set_l hm_4 ml_2
  clear hm_4 mo1_2 mo0_2
  refine al_end (fun e_5 he_5 => ?_)
  have s1_5 := ef 1 he_5 (up_n (up_m rfl (u4 rfl s1_3)))
  have s2_5 := ef 2 he_5 (up_n (up_m rfl (u4 rfl s2_3)))
  clear he_5 s1_3 s2_3
  refine then_n ?_
  refine aw_seq ?_
  refine aw_text (by kernel_rfl) ?_
  refine al_ro' (ro_lit0 y13_sl23) trivial rfl ?_
  refine al_ro' (ro_fld_ptr y13_fl26_2 rfl (up_m rfl s1_5)) trivial rfl ?_
  refine al_ro' (ro_eq (ro_ld_ptr y13_ty23 rfl mo0_4 up_h (by first | exact Nat.le_of_ble_eq_true rfl | omega | (simp only [lnS] <;> omega) | (simp <;> omega))) (by first | (simp only [packA_t, packA_f, iE, bE, setAt, cellsA, Value.cells, map_vc, map_vn, Nat.reduceAdd, qS, swE, one_swE, app_m] <;> rfl) | rfl)) trivial rfl ?_
  refine al_ro' (ro_ape y13_sl23 rfl (u2 rfl up_h) up_h (by first | omega | (simp only [lnS] <;> omega) | (simp <;> omega))) trivial rfl ?_
  refine al_ro' (ro_fld_ptr y13_fl26_2 rfl (u4 rfl s1_5)) trivial rfl ?_
  refine al_stm (st_store up_h (up_m rfl up_h) rfl rfl mo0_4 y13_sz23 rfl (by first | exact Nat.le_of_ble_eq_true rfl | omega | (simp only [lnS] <;> omega) | (simp <;> omega))) trivial rfl (fun m_6 hm_6 => ?_)
  have mo0_6 := m_set hm_6 mo0_4
  (try simp only [packA_t, packA_f, iE, bE, setAt, cellsA, Value.cells, map_vc, map_vn, Nat.reduceAdd, qS, swE, one_swE, app_m] at mo0_6)
  have mo1_6 := m_set_o hm_6 mo1_4 (by decide)
  have ml_6 := m_set_l hm_6 ml_4
  clear hm_6 mo0_4 mo1_4
  refine al_end (fun e_7 he_7 => ?_)
  have s1_7 := ef 1 he_7 (up_n (up_m rfl (u4 rfl s1_5)))
  have s2_7 := ef 2 he_7 (up_n (up_m rfl (u4 rfl s2_5)))
  clear he_7 s1_5 s2_5
  refine then_n ?_
  refine aw_seq ?_
  refine aw_text (by kernel_rfl) ?_
  refine al_ro' (ro_assign ev_c) trivial rfl ?_
  refine al_end (fun e_8 he_8 => ?_)
  have s1_8 := ef 1 he_8 (up_m rfl s1_7)
  have s2_8 := ef 2 he_8 (up_m rfl s2_7)
  have s3_8 := ef 3 he_8 up_h
  clear he_8 s1_7 s2_7
  refine then_n ?_
  refine aw_seq ?_
  refine aw_seq ?_
  refine aw_text (by kernel_rfl) ?_
  refine al_ro' (ro_assign ev_c) trivial rfl ?_
  refine al_end (fun e_9 he_9 => ?_)
  have s1_9 := ef 1 he_9 (up_m rfl s1_8)
  have s2_9 := ef 2 he_9 (up_m rfl s2_8)
  have s3_9 := ef 3 he_9 (up_m rfl s3_8)
  have s4_9 := ef 4 he_9 up_h
  clear he_9 s1_8 s2_8 s3_8
  refine then_n ?_
  refine aw_block ?_
  refine aw_adopt 69 3 s3_9 ml_6 (fun m_10 e_10 hm_10 he_10 => ?_)
  have mo2_10 := m_push hm_10 ml_6
  have mo0_10 := m_push_o hm_10 mo0_6
  have mo1_10 := m_push_o hm_10 mo1_6
  have ml_10 := m_push_l hm_10 ml_6
  have ml_10 : _ = 3 := ml_10
  have s1_10 : evA e_10 (.tmp 1) = _ := (congrArg (fun q => evA q (.tmp 1)) he_10).trans (up_m rfl s1_9)
  have s2_10 : evA e_10 (.tmp 2) = _ := (congrArg (fun q => evA q (.tmp 2)) he_10).trans (up_m rfl s2_9)
  have s3_10 : evA e_10 (.tmp 3) = _ := (congrArg (fun q => evA q (.tmp 3)) he_10).trans up_h
  have s4_10 : evA e_10 (.tmp 4) = _ := (congrArg (fun q => evA q (.tmp 4)) he_10).trans (up_m rfl s4_9)
  clear hm_10 he_10
  refine aw_loop (S := (Int × List Swi)) (fun s e mem => match s with | ⟨k, xs⟩ => (evA e (.tmp 4) = .v (.int .i64 k)) ∧ (evA e (.tmp 1) = evA e_10 (.tmp 1)) ∧ (evA e (.tmp 2) = evA e_10 (.tmp 2)) ∧ (mem[0]? = m_10[0]?) ∧ (mem[1]? = m_10[1]?) ∧ (∃ j, evA e (.tmp 3) = .own j ∧ mem[j]? = some (.row 69 3 (xs.map swE)) ∧ j ≠ 0 ∧ j ≠ 1) ∧ (∃ n, mem.length = n ∧ 3 ≤ n) ∧ ((0 ≤ k ∧ k ≤ l.ss.length ∧ xs = l.ss.take k.toNat))) (fun s => match s with | ⟨k, xs⟩ => (l.ss.length - k).toNat) ⟨_, []⟩ ⟨s4_10, rfl, rfl, rfl, rfl, ⟨_, s3_10, mo2_10, (by decide), (by decide)⟩, ⟨_, ml_10, Nat.le_refl _⟩, ?_⟩ ?_
  · (exact ⟨by omega, by omega, rfl⟩)
  · rintro ⟨k, xs⟩ e_11 m_11 ⟨s4_11, k1_11, k2_11, mk0_11, mk1_11, ⟨j3_11, s3_11, mo_j3_11, nj3_0_11, nj3_1_11⟩, ⟨n_11, ml_11, hn_11⟩, hinv⟩
    have s1_11 := k1_11.trans s1_10
    have s2_11 := k2_11.trans s2_10
    have mo0_11 := mk0_11.trans mo0_10
    have mo1_11 := mk1_11.trans mo1_10
    have jl3_11 := m_lt mo_j3_11 ml_11
    (obtain ⟨p1, p2, p3⟩ := hinv; have hso := hl.at k.toNat; have hxl : xs.length ≤ 1000000 := (by rw [p3, List.length_take]; omega))
    refine aw_seq ?_
    refine aw_seq ?_
    refine aw_text (by kernel_rfl) ?_
    refine al_ro' (ro_move s4_11) trivial rfl ?_
    refine al_ro' (ro_fld_ptr y13_fl26_3 rfl (up_m rfl s1_11)) trivial rfl ?_
    refine al_ro' (ro_eq (ro_ld_ptr y13_ty24 rfl mo0_11 up_h (by first | exact Nat.le_of_ble_eq_true rfl | omega | (simp only [lnS] <;> omega) | (simp <;> omega))) (by first | (simp only [packA_t, packA_f, iE, bE, setAt, cellsA, Value.cells, map_vc, map_vn, Nat.reduceAdd, qS, swE, one_swE, app_m] <;> rfl) | rfl)) trivial rfl ?_
    refine al_ro' (ro_eq (ro_len_row up_h rfl y13_sl24.1) (by first | (simp only [lnS] <;> rfl) | rfl)) trivial rfl ?_
    refine al_ro' (ro_lss (up_m rfl (u2 rfl up_h)) up_h) trivial rfl ?_
    refine al_end (fun e_12 he_12 => ?_)
    have s1_12 := ef 1 he_12 (up_m rfl (u4 rfl s1_11))
    have s2_12 := ef 2 he_12 (up_m rfl (u4 rfl s2_11))
    have s3_12 := ef 3 he_12 (up_m rfl (u4 rfl s3_11))
    have s4_12 := ef 4 he_12 (up_m rfl (u4 rfl s4_11))
    have s20_12 := ef 20 he_12 up_h
    clear he_12 s1_11 s2_11 s3_11 s4_11
    refine then_n ?_
    refine aw_case s20_12 (fun hq_13 => ?_) (fun hq_13 => ?_)
    · (first | replace hq_13 := bnt hq_13 | replace hq_13 := bnf hq_13 | replace hq_13 := bt hq_13 | replace hq_13 := bf hq_13 | replace hq_13 := bt' hq_13 | replace hq_13 := bf' hq_13 | skip)
      first
      | (cases hq_13; done) | (exfalso; omega)
      | (
         refine aw_skip ?_
         refine then_n ?_
         refine aw_seq ?_
         refine aw_block ?_
         refine aw_seq ?_
         refine aw_text (by kernel_rfl) ?_
         refine al_ro' (ro_fld_ptr y13_fl26_3 rfl s1_12) trivial rfl ?_
         refine al_ro' (ro_eq (ro_ld_ptr y13_ty24 rfl mo0_11 up_h (by first | exact Nat.le_of_ble_eq_true rfl | omega | (simp only [lnS] <;> omega) | (simp <;> omega))) (by first | (simp only [packA_t, packA_f, iE, bE, setAt, cellsA, Value.cells, map_vc, map_vn, Nat.reduceAdd, qS, swE, one_swE, app_m] <;> rfl) | rfl)) trivial rfl ?_
         refine al_ro' (ro_move (u2 rfl s4_12)) trivial rfl ?_
         refine al_ro' (ro_eq (ro_ix y13_sl24 (up_m rfl up_h) up_h (by first | decide | omega | (simp <;> omega)) (by first | (refine idx_map ?_; first | omega | (simp only [lnS]; omega)) | (refine idx_mapI ?_; first | omega | (simp only [lnS]; omega)) | (refine idx_mapN ?_; first | omega | (simp only [lnS]; omega)) | rfl)) (by first | (simp only [packA_t, packA_f, iE, bE, setAt, cellsA, Value.cells, map_vc, map_vn, Nat.reduceAdd, qS, swE, one_swE, app_m] <;> rfl) | rfl)) trivial rfl ?_
         refine al_ro' (ro_eq (ro_ld_ref y13_ty69 rfl up_h (by first | exact Nat.le_of_ble_eq_true rfl | omega | (simp only [lnS] <;> omega) | (simp <;> omega))) (by first | (simp only [packA_t, packA_f, iE, bE, setAt, cellsA, Value.cells, map_vc, map_vn, Nat.reduceAdd, qS, swE, one_swE, app_m] <;> rfl) | rfl)) trivial rfl ?_
         refine al_stm (st_alloc y13_az69 rfl ml_11) trivial rfl (fun m_14 hm_14 => ?_)
         have mon_11_14 := m_push hm_14 ml_11
         (try simp only [packA_t, packA_f, iE, bE, setAt, cellsA, Value.cells, map_vc, map_vn, Nat.reduceAdd, qS, swE, one_swE, app_m] at mon_11_14)
         have mo0_14 := m_push_o hm_14 mo0_11
         have mo1_14 := m_push_o hm_14 mo1_11
         have moj3_11_14 := m_push_o hm_14 mo_j3_11
         have ml_14 := m_push_l hm_14 ml_11
         clear hm_14 mo0_11 mo1_11 mo_j3_11
         refine al_stm (st_store up_h (up_m rfl up_h) rfl rfl mon_11_14 y13_sz69 rfl (by first | exact Nat.le_of_ble_eq_true rfl | omega | (simp only [lnS] <;> omega) | (simp <;> omega))) trivial rfl (fun m_15 hm_15 => ?_)
         have mon_11_15 := m_set hm_15 mon_11_14
         (try simp only [packA_t, packA_f, iE, bE, setAt, cellsA, Value.cells, map_vc, map_vn, Nat.reduceAdd, qS, swE, one_swE, app_m] at mon_11_15)
         have mo0_15 := m_set_o hm_15 mo0_14 (by omega)
         have mo1_15 := m_set_o hm_15 mo1_14 (by omega)
         have moj3_11_15 := m_set_o hm_15 moj3_11_14 (by omega)
         have ml_15 := m_set_l hm_15 ml_14
         clear hm_15 mon_11_14 mo0_14 mo1_14 moj3_11_14
         refine al_end (fun e_16 he_16 => ?_)
         have s1_16 := ef 1 he_16 (up_n (u2 rfl (u4 rfl s1_12)))
         have s2_16 := ef 2 he_16 (up_n (u2 rfl (u4 rfl s2_12)))
         have s3_16 := ef 3 he_16 (up_n (u2 rfl (u4 rfl s3_12)))
         have s4_16 := ef 4 he_16 (up_n (u2 rfl (u4 rfl s4_12)))
         have s5_16 := ef 5 he_16 (up_n up_h)
         clear he_16 s1_12 s20_12 s2_12 s3_12 s4_12
         refine then_n ?_
         refine aw_seq ?_
         refine aw_text (by kernel_rfl) ?_
         refine al_ro' (ro_fld_ptr y13_fl69_2 rfl s5_16) trivial rfl ?_
         refine al_ro' (ro_eq (ro_ld_ptr y13_ty67 rfl mon_11_15 up_h (by first | exact Nat.le_of_ble_eq_true rfl | omega | (simp only [lnS] <;> omega) | (simp <;> omega))) (by first | (simp only [packA_t, packA_f, iE, bE, setAt, cellsA, Value.cells, map_vc, map_vn, Nat.reduceAdd, qS, swE, one_swE, app_m] <;> rfl) | rfl)) trivial rfl ?_
         refine al_ro' (ro_call (evL_cons up_h evL_nil) rfl (yCopyInts_ok _ (by omega)) y13_hcf38) trivial rfl ?_
         refine al_ro' (ro_fld_ptr y13_fl69_2 rfl (up_m rfl (u2 rfl s5_16))) trivial rfl ?_
         refine al_stm (st_store up_h (up_m rfl up_h) rfl rfl mon_11_15 y13_sz67 rfl (by first | exact Nat.le_of_ble_eq_true rfl | omega | (simp only [lnS] <;> omega) | (simp <;> omega))) trivial rfl (fun m_17 hm_17 => ?_)
         have mon_11_17 := m_set hm_17 mon_11_15
         (try simp only [packA_t, packA_f, iE, bE, setAt, cellsA, Value.cells, map_vc, map_vn, Nat.reduceAdd, qS, swE, one_swE, app_m] at mon_11_17)
         have mo0_17 := m_set_o hm_17 mo0_15 (by omega)
         have mo1_17 := m_set_o hm_17 mo1_15 (by omega)
         have moj3_11_17 := m_set_o hm_17 moj3_11_15 (by omega)
         have ml_17 := m_set_l hm_17 ml_15
         clear hm_17 mon_11_15 mo0_15 mo1_15 moj3_11_15
         refine al_end (fun e_18 he_18 => ?_)
         have s1_18 := ef 1 he_18 (up_n (u4 rfl s1_16))
         have s2_18 := ef 2 he_18 (up_n (u4 rfl s2_16))
         have s3_18 := ef 3 he_18 (up_n (u4 rfl s3_16))
         have s4_18 := ef 4 he_18 (up_n (u4 rfl s4_16))
         have s5_18 := ef 5 he_18 (up_n (u4 rfl s5_16))
         clear he_18 s1_16 s2_16 s3_16 s4_16 s5_16
         refine then_n ?_
         refine aw_text (by kernel_rfl) ?_
         refine al_ro' (ro_move s3_18) trivial rfl ?_
         refine al_ro' (ro_eq (ro_ld_ptr y13_ty69 rfl mon_11_17 (up_m rfl s5_18) (by first | exact Nat.le_of_ble_eq_true rfl | omega | (simp only [lnS] <;> omega) | (simp <;> omega))) (by first | (simp only [packA_t, packA_f, iE, bE, setAt, cellsA, Value.cells, map_vc, map_vn, Nat.reduceAdd, qS, swE, one_swE, app_m] <;> rfl) | rfl)) trivial rfl ?_
         refine al_ro' (ro_lit y13_sl24 (evP_cons up_h evP_nil) rfl rfl rfl rfl) trivial rfl ?_
         refine al_stm (st_app y13_sl24 rfl ml_17 moj3_11_17 (u2 rfl up_h) up_h (by first | rfl | (simp [oneA]; done)) (by first | omega | (simp only [lnS] <;> omega) | (simp <;> omega))) trivial rfl (fun m_19 hm_19 => ?_)
         have mon_11_1_19 := m_swap hm_19 ml_17
         (try simp only [packA_t, packA_f, iE, bE, setAt, cellsA, Value.cells, map_vc, map_vn, Nat.reduceAdd, qS, swE, one_swE, app_m] at mon_11_1_19)
         have mon_11_19 := m_swap_o hm_19 mon_11_17 (by omega)
         have mo0_19 := m_swap_o hm_19 mo0_17 (by omega)
         have mo1_19 := m_swap_o hm_19 mo1_17 (by omega)
         have ml_19 := m_swap_l hm_19 ml_17
         clear hm_19 mon_11_17 mo0_17 mo1_17 moj3_11_17
         refine al_ro' (ro_assign up_h) trivial rfl ?_
         refine al_end (fun e_20 he_20 => ?_)
         have s1_20 := ef 1 he_20 (up_m rfl (u4 rfl s1_18))
         have s2_20 := ef 2 he_20 (up_m rfl (u4 rfl s2_18))
         have s3_20 := ef 3 he_20 up_h
         have s4_20 := ef 4 he_20 (up_m rfl (u4 rfl s4_18))
         clear he_20 s1_18 s2_18 s3_18 s4_18 s5_18
         refine block_n ?_
         refine then_n ?_
         refine aw_text (by kernel_rfl) ?_
         refine al_ro' (ro_move s4_20) trivial rfl ?_
         first | (refine al_ro' (ro_add' up_h ev_c ?_) trivial rfl ?_; · (unfold In64; omega)) | refine al_ro' (ro_add up_h ev_c) trivial rfl ?_
         refine al_ro' (ro_assign up_h) trivial rfl ?_
         refine al_end (fun e_21 he_21 => ?_)
         have s1_21 := ef 1 he_21 (up_m rfl (u2 rfl s1_20))
         have s2_21 := ef 2 he_21 (up_m rfl (u2 rfl s2_20))
         have s3_21 := ef 3 he_21 (up_m rfl (u2 rfl s3_20))
         have s4_21 := ef 4 he_21 up_h
         clear he_21 s1_20 s2_20 s3_20 s4_20
         refine then_n ?_
         refine ⟨⟨_, _⟩, ⟨s4_21, (s1_21.trans s1_10.symm), (s2_21.trans s2_10.symm), (mo0_19.trans mo0_10.symm), (mo1_19.trans mo1_10.symm), ⟨_, s3_21, mon_11_1_19, (by omega), (by omega)⟩, ⟨_, ml_19, by omega⟩, ?_⟩, ?_⟩
         · (refine ⟨by omega, by omega, ?_⟩; rw [take_suc p1 (by omega), ← p3])
         · ((try dsimp only); omega))
    · (first | replace hq_13 := bnt hq_13 | replace hq_13 := bnf hq_13 | replace hq_13 := bt hq_13 | replace hq_13 := bf hq_13 | replace hq_13 := bt' hq_13 | replace hq_13 := bf' hq_13 | skip)
      first
      | (cases hq_13; done) | (exfalso; omega)
      | (
         refine aw_exit ?_
         refine then_x ?_
         refine then_x ?_
         refine block_hit ?_
         refine then_n ?_
         refine aw_seq ?_
         refine aw_text (by kernel_rfl) ?_
         refine al_ro' (ro_move s3_12) trivial rfl ?_
         refine al_ro' (ro_fld_ptr y13_fl26_3 rfl (up_m rfl s1_12)) trivial rfl ?_
         refine al_stm (st_store_own up_h (up_m rfl up_h) mo0_11 mo_j3_11 y13_sz24 (by first | exact Nat.le_of_ble_eq_true rfl | omega | (simp only [lnS] <;> omega) | (simp <;> omega))) trivial rfl (fun m_22 hm_22 => ?_)
         have mo0_22 := m_set hm_22 mo0_11
         (try simp only [packA_t, packA_f, iE, bE, setAt, cellsA, Value.cells, map_vc, map_vn, Nat.reduceAdd, qS, swE, one_swE, app_m] at mo0_22)
         have mo1_22 := m_set_o hm_22 mo1_11 (by decide)
         have moj3_11_22 := m_set_o hm_22 mo_j3_11 (by omega)
         have ml_22 := m_set_l hm_22 ml_11
         clear hm_22 mo0_11 mo1_11 mo_j3_11
         refine al_end (fun e_23 he_23 => ?_)
         have s1_23 := ef 1 he_23 (up_n (u2 rfl s1_12))
         have s2_23 := ef 2 he_23 (up_n (u2 rfl s2_12))
         clear he_23 s1_12 s20_12 s2_12 s3_12 s4_12
         refine then_n ?_
         refine aw_seq ?_
         refine aw_text (by kernel_rfl) ?_
         refine al_ro' (ro_eq (ro_ld_ptr y13_ty26 rfl mo0_22 s1_23 (by first | exact Nat.le_of_ble_eq_true rfl | omega | (simp only [lnS] <;> omega) | (simp <;> omega))) (by first | (simp only [packA_t, packA_f, iE, bE, setAt, cellsA, Value.cells, map_vc, map_vn, Nat.reduceAdd, qS, swE, one_swE, app_m] <;> rfl) | rfl)) trivial rfl ?_
         refine al_stm (st_storeO (up_m rfl s2_23) up_h rfl (oneL_c rfl (oneL_c rfl (oneL_c rfl (oneL_o moj3_11_22 oneL_nil)))) mo1_22 y13_sz26 rfl (by first | exact Nat.le_of_ble_eq_true rfl | omega | (simp only [lnS] <;> omega) | (simp <;> omega))) trivial rfl (fun m_24 hm_24 => ?_)
         have mo1_24 := m_set hm_24 mo1_22
         (try simp only [packA_t, packA_f, iE, bE, setAt, cellsA, Value.cells, map_vc, map_vn, Nat.reduceAdd, qS, swE, one_swE, app_m] at mo1_24)
         have mo0_24 := m_set_o hm_24 mo0_22 (by decide)
         have moj3_11_24 := m_set_o hm_24 moj3_11_22 (by omega)
         have ml_24 := m_set_l hm_24 ml_22
         clear hm_24 mo0_22 mo1_22 moj3_11_22
         refine al_end (fun e_25 he_25 => ?_)
         have s2_25 := ef 2 he_25 (up_n (up_m rfl s2_23))
         clear he_25 s1_23 s2_23
         refine then_n ?_
         refine aw_ret ?_
         refine ret1 (.inr rfl) (by kernel_rfl) (resV_cell s2_25 mo1_24 y13_ty26 (by first | exact Nat.le_of_ble_eq_true rfl | omega | (simp only [lnS] <;> omega) | (simp <;> omega)) (by simp)) (vw_r (vw_agg (vwl_cons (.ro _ rfl) (vwl_cons (.ro _ rfl) (vwl_cons (.ro _ rfl) (vwl_cons (.own _ _ _ _ moj3_11_24) vwl_nil)))))) ?_
         clear s2_25 mo1_24 mo0_24 moj3_11_24 ml_24
         (rw [p3, List.take_of_length_le (by omega)]))
end Go.Proofs.Ytlebjleebclmgaa

/- Contracts of chapter 1: a track opened. No conditions on a program. -/
namespace Go.Proofs.Ytlebjleebclmgaa
open Go Go.RowKit Go.Proofs
set_option linter.unusedSimpArgs false
set_option linter.unusedVariables false
theorem y14_az30 : (Try.prog.info? 30).bind (·.zero) = some (.agg #[.int .i64 0, .int .i64 0]) := by kernel_rfl
theorem y14_bz82 : (Try.prog.info? 82).bind (·.zero) = some (.agg #[.string ByteArray.empty, .slice none 0 0, .slice none 0 0, .slice none 0 0, .slice none 0 0]) := by kernel_rfl
theorem y14_bu82 : Try.prog.underlying 82 = some (.struct (fsOf Try.prog 82)) := by kernel_rfl
theorem y14_bp82 : ∀ w, ((fsOf Try.prog 82).mapM fun f => Prod.mk f.offset <$> sizeOf f.type : Sem (Array (Nat × Nat))).run Try.prog w = .ok (#[(0, 4), (4, 1)]) w := fun _ => by kernel_rfl
theorem y14_fl26_2 : FldIs Try.prog 26 2 2 false 1 := by unfold FldIs; kernel_rfl
theorem y14_hcf8 : ∀ args w, (callFunc 8 args).run Try.prog w = .ok (.enter 8 args) w := fun _ _ => by kernel_rfl
theorem y14_sl23 : SlIs Try.prog 23 88 2 16 (.agg #[.int .i64 0, .int .i64 0]) := ⟨by kernel_rfl, by kernel_rfl, by kernel_rfl⟩
theorem y14_sl67 : SlIs Try.prog 67 3 1 8 (.int .i64 0) := ⟨by kernel_rfl, by kernel_rfl, by kernel_rfl⟩
theorem y14_sz30 : (Try.prog.info? 30).map (·.size) = some 2 := by kernel_rfl
theorem y14_ty23 : TyIs Try.prog 23 false 1 := ⟨by kernel_rfl, by kernel_rfl⟩
theorem y14_ty26 : TyIs Try.prog 26 true 4 := ⟨by kernel_rfl, by kernel_rfl⟩

set_option maxRecDepth 100000 in
set_option maxHeartbeats 4000000 in
theorem yOpen_bad (l : Lin) (hl : Sho l) (hb : (linM l).2 ≠ 0) : FnOk Try.prog 39 [lnA l] (fun q => q = .tuple [.v (.pointer none), mA (linM l).2]) := by
  refine fnOk_of (fn := Try.f39) 50 (by kernel_rfl) rfl (by kernel_rfl) (Nat.le_of_ble_eq_true rfl) ?_
  intro e_0 m_0 hA hm_0
  have s0_0 : evA e_0 (.tmp 0) = _ := hA 0 _ rfl
  have ml_0 : m_0.length = 0 := by rw [hm_0]; rfl
  clear hA hm_0
  refine aw_seq ?_
  refine aw_text (by kernel_rfl) ?_
  refine al_stm (st_box s0_0 rfl ml_0) trivial rfl (fun m_1 hm_1 => ?_)
  have mo0_1 := m_push hm_1 ml_0
  (try simp only [packA_t, packA_f, iE, bE, setAt, cellsA, Value.cells, map_vc, map_vn, Nat.reduceAdd, qS] at mo0_1)
  have ml_1 := m_push_l hm_1 ml_0
  have ml_1 : _ = 1 := ml_1
  clear hm_1
  refine al_ro' (ro_assign ev_c) trivial rfl ?_
  refine al_ro' (ro_assign ev_c) trivial rfl ?_
  refine al_end (fun e_2 he_2 => ?_)
  have s1_2 := ef 1 he_2 (u2 rfl up_h)
  clear he_2 s0_0
  refine then_n ?_
  refine aw_seq ?_
  refine aw_seq ?_
  refine aw_text (by kernel_rfl) ?_
  refine al_ro' (ro_eq (ro_ld_ptr y14_ty26 rfl mo0_1 s1_2 (by first | exact Nat.le_of_ble_eq_true rfl | omega | (simp only [lnS] <;> omega) | (simp <;> omega))) (by first | (simp only [packA_t, packA_f, iE, bE, setAt, cellsA, Value.cells, map_vc, map_vn, Nat.reduceAdd, qS] <;> rfl) | rfl)) trivial rfl ?_
  refine al_ro' (ro_call (evL_cons up_h evL_nil) rfl (yCheckLine_ok l hl) y14_hcf8) trivial rfl ?_
  refine al_ro' (ro_move up_h) trivial rfl ?_
  refine al_ro' (ro_extract up_h rfl) trivial rfl ?_
  refine al_ro' (ro_extract (up_m rfl up_h) rfl) trivial rfl ?_
  refine al_stm (st_alloc y14_az30 rfl ml_1) trivial rfl (fun m_3 hm_3 => ?_)
  have mo1_3 := m_push hm_3 ml_1
  (try simp only [packA_t, packA_f, iE, bE, setAt, cellsA, Value.cells, map_vc, map_vn, Nat.reduceAdd, qS] at mo1_3)
  have mo0_3 := m_push_o hm_3 mo0_1
  have ml_3 := m_push_l hm_3 ml_1
  have ml_3 : _ = 2 := ml_3
  clear hm_3 mo0_1
  refine al_stm (st_store up_h (u2 rfl up_h) rfl rfl mo1_3 y14_sz30 rfl (by first | exact Nat.le_of_ble_eq_true rfl | omega | (simp only [lnS] <;> omega) | (simp <;> omega))) trivial rfl (fun m_4 hm_4 => ?_)
  have mo1_4 := m_set hm_4 mo1_3
  (try simp only [packA_t, packA_f, iE, bE, setAt, cellsA, Value.cells, map_vc, map_vn, Nat.reduceAdd, qS] at mo1_4)
  have mo0_4 := m_set_o hm_4 mo0_3 (by decide)
  have ml_4 := m_set_l hm_4 ml_3
  clear hm_4 mo1_3 mo0_3
  refine al_ro' (ro_assign (up_n (up_m rfl up_h))) trivial rfl ?_
  refine al_end (fun e_5 he_5 => ?_)
  have s1_5 := ef 1 he_5 (up_m rfl (up_n (u2 rfl (u4 rfl s1_2))))
  have s5_5 := ef 5 he_5 up_h
  clear he_5 s1_2
  refine then_n ?_
  refine aw_seq ?_
  refine aw_text (by kernel_rfl) ?_
  refine al_ro' (ro_move s5_5) trivial rfl ?_
  refine al_ro' (ro_neq up_h ev_c) trivial rfl ?_
  refine al_end (fun e_6 he_6 => ?_)
  have s1_6 := ef 1 he_6 (u2 rfl s1_5)
  have s5_6 := ef 5 he_6 (u2 rfl s5_5)
  have s15_6 := ef 15 he_6 up_h
  clear he_6 s1_5 s5_5
  refine then_n ?_
  refine aw_case s15_6 (fun hq_7 => ?_) (fun hq_7 => ?_)
  · skip
    first
    | (cases hq_7; done) | ((first | replace hq_7 := bnt hq_7 | replace hq_7 := bnf hq_7 | replace hq_7 := bt hq_7 | replace hq_7 := bf hq_7 | replace hq_7 := bt' hq_7 | replace hq_7 := bf' hq_7 | skip); exfalso; omega) | first | (simp at hq_7; done) | (exact absurd (by simpa using hq_7) hb)
    | ((first | replace hq_7 := bnt hq_7 | replace hq_7 := bnf hq_7 | replace hq_7 := bt hq_7 | replace hq_7 := bf hq_7 | replace hq_7 := bt' hq_7 | replace hq_7 := bf' hq_7 | skip)
       refine aw_seq ?_
       refine aw_text (by kernel_rfl) ?_
       refine al_ro' (ro_move s5_6) trivial rfl ?_
       refine al_ro' (ro_assign ev_c) trivial rfl ?_
       refine al_ro' (ro_assign (up_m rfl up_h)) trivial rfl ?_
       refine al_end (fun e_8 he_8 => ?_)
       have s2_8 := ef 2 he_8 (up_m rfl up_h)
       have s3_8 := ef 3 he_8 up_h
       clear he_8 s15_6 s1_6 s5_6
       refine then_n ?_
       refine aw_ret ?_
       refine then_r ?_
       refine ret2 (.inr rfl) (by kernel_rfl) (resV_tmp s2_8) (resV_tmp s3_8) (.ro _ rfl) (.ro _ rfl) ?_
       clear s2_8 s3_8 mo1_4 mo0_4 ml_4
       rfl)
  · skip
    first
    | (cases hq_7; done) | ((first | replace hq_7 := bnt hq_7 | replace hq_7 := bnf hq_7 | replace hq_7 := bt hq_7 | replace hq_7 := bf hq_7 | replace hq_7 := bt' hq_7 | replace hq_7 := bf' hq_7 | skip); exfalso; omega) | first | (simp at hq_7; done) | (exact absurd (by simpa using hq_7) hb)
    | ((first | replace hq_7 := bnt hq_7 | replace hq_7 := bnf hq_7 | replace hq_7 := bt hq_7 | replace hq_7 := bf hq_7 | replace hq_7 := bt' hq_7 | replace hq_7 := bf' hq_7 | skip)
       refine aw_skip ?_
       refine then_n ?_
       refine aw_seq ?_
       refine aw_text (by kernel_rfl) ?_
       refine al_ro' (ro_eq (ro_ld_ptr y14_ty26 rfl mo0_4 s1_6 (by first | exact Nat.le_of_ble_eq_true rfl | omega | (simp only [lnS] <;> omega) | (simp <;> omega))) (by first | (simp only [packA_t, packA_f, iE, bE, setAt, cellsA, Value.cells, map_vc, map_vn, Nat.reduceAdd, qS] <;> rfl) | rfl)) trivial rfl ?_
       refine al_ro' (ro_lit y14_sl67 (evP_cons ev_c evP_nil) rfl rfl rfl rfl) trivial rfl ?_
       refine al_ro' (ro_build (evP_cons (up_m rfl up_h) (evP_cons up_h evP_nil)) y14_bz82 y14_bu82 y14_bp82 rfl) trivial rfl ?_
       refine al_stm (st_box up_h rfl ml_4) trivial rfl (fun m_9 hm_9 => ?_)
       have mo2_9 := m_push hm_9 ml_4
       (try simp only [packA_t, packA_f, iE, bE, setAt, cellsA, Value.cells, map_vc, map_vn, Nat.reduceAdd, qS] at mo2_9)
       have mo1_9 := m_push_o hm_9 mo1_4
       have mo0_9 := m_push_o hm_9 mo0_4
       have ml_9 := m_push_l hm_9 ml_4
       have ml_9 : _ = 3 := ml_9
       clear hm_9 mo1_4 mo0_4
       refine al_ro' (ro_assign up_h) trivial rfl ?_
       refine al_end (fun e_10 he_10 => ?_)
       have s1_10 := ef 1 he_10 (up_m rfl (u4 rfl s1_6))
       have s6_10 := ef 6 he_10 up_h
       clear he_10 s15_6 s1_6 s5_6
       refine then_n ?_
       refine aw_seq ?_
       refine aw_seq ?_
       refine aw_text (by kernel_rfl) ?_
       refine al_ro' (ro_fld_ptr y14_fl26_2 rfl s1_10) trivial rfl ?_
       refine al_ro' (ro_eq (ro_ld_ptr y14_ty23 rfl mo0_9 up_h (by first | exact Nat.le_of_ble_eq_true rfl | omega | (simp only [lnS] <;> omega) | (simp <;> omega))) (by first | (simp only [packA_t, packA_f, iE, bE, setAt, cellsA, Value.cells, map_vc, map_vn, Nat.reduceAdd, qS] <;> rfl) | rfl)) trivial rfl ?_
       refine al_ro' (ro_eq (ro_len_row up_h rfl y14_sl23.1) (by first | (simp only [lnS] <;> rfl) | rfl)) trivial rfl ?_
       refine al_ro' (ro_move ev_c) trivial rfl ?_
       refine al_end (fun e_11 he_11 => ?_)
       have s6_11 := ef 6 he_11 (u4 rfl s6_10)
       have s22_11 := ef 22 he_11 (u2 rfl up_h)
       have s23_11 := ef 23 he_11 (up_m rfl up_h)
       have s24_11 := ef 24 he_11 up_h
       clear he_11 s1_10 s6_10
       refine then_n ?_
       refine aw_block ?_
       fail "STOPPED loop 1 has no relation")
end Go.Proofs.Ytlebjleebclmgaa

