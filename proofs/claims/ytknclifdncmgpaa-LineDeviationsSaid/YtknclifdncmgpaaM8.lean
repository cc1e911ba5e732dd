/- Texts of this claim, one behind the other: lemmas for the statement. -/
import Derived.Test.YtknclifdncmgpaaM7
/- Contracts of chapter 1: deviations, as the document has them. No conditions on a program. -/
namespace Go.Proofs.Ytknclifdncmgpaa
open Go Go.RowKit Go.Proofs
set_option linter.unusedSimpArgs false
set_option linter.unusedVariables false
theorem y36_az40 : (Try.prog.info? 40).bind (·.zero) = some (.agg #[.int .i64 0, .int .i64 0]) := by kernel_rfl
theorem y36_bz40 : (Try.prog.info? 40).bind (·.zero) = some (.agg #[.int .i64 0, .int .i64 0]) := by kernel_rfl
theorem y36_bu40 : Try.prog.underlying 40 = some (.struct (fsOf Try.prog 40)) := by kernel_rfl
theorem y36_bp40 : ∀ w, ((fsOf Try.prog 40).mapM fun f => Prod.mk f.offset <$> sizeOf f.type : Sem (Array (Nat × Nat))).run Try.prog w = .ok (#[(0, 1), (1, 1)]) w := fun _ => by kernel_rfl
theorem y36_fl26_1 : FldIs Try.prog 26 1 1 false 1 := by unfold FldIs; kernel_rfl
theorem y36_fl26_2 : FldIs Try.prog 26 2 2 false 1 := by unfold FldIs; kernel_rfl
theorem y36_fl40_0 : FldIs Try.prog 40 0 0 false 1 := by unfold FldIs; kernel_rfl
theorem y36_fl40_1 : FldIs Try.prog 40 1 1 false 1 := by unfold FldIs; kernel_rfl
theorem y36_fl42_0 : FldIs Try.prog 42 0 0 false 1 := by unfold FldIs; kernel_rfl
theorem y36_fl42_2 : FldIs Try.prog 42 2 2 true 2 := by unfold FldIs; kernel_rfl
theorem y36_fl47_0 : FldIs Try.prog 47 0 0 false 1 := by unfold FldIs; kernel_rfl
theorem y36_fl52_0 : FldIs Try.prog 52 0 0 false 1 := by unfold FldIs; kernel_rfl
theorem y36_fl52_1 : FldIs Try.prog 52 1 1 false 1 := by unfold FldIs; kernel_rfl
theorem y36_fl52_2 : FldIs Try.prog 52 2 2 false 1 := by unfold FldIs; kernel_rfl
theorem y36_hcf22 : ∀ args w, (callFunc 22 args).run Try.prog w = .ok (.enter 22 args) w := fun _ _ => by kernel_rfl
theorem y36_hcf39 : ∀ args w, (callFunc 39 args).run Try.prog w = .ok (.enter 39 args) w := fun _ _ => by kernel_rfl
theorem y36_hcf81 : ∀ args w, (callFunc 81 args).run Try.prog w = .ok (.enter 81 args) w := fun _ _ => by kernel_rfl
theorem y36_hcf82 : ∀ args w, (callFunc 82 args).run Try.prog w = .ok (.enter 82 args) w := fun _ _ => by kernel_rfl
theorem y36_hcf83 : ∀ args w, (callFunc 83 args).run Try.prog w = .ok (.enter 83 args) w := fun _ _ => by kernel_rfl
theorem y36_hcf84 : ∀ args w, (callFunc 84 args).run Try.prog w = .ok (.enter 84 args) w := fun _ _ => by kernel_rfl
theorem y36_sl22 : SlIs Try.prog 22 42 4 32 (.agg #[.int .i64 0, .int .i64 0, .int .i64 0, .int .i64 0]) := ⟨by kernel_rfl, by kernel_rfl, by kernel_rfl⟩
theorem y36_sl23 : SlIs Try.prog 23 47 2 16 (.agg #[.int .i64 0, .int .i64 0]) := ⟨by kernel_rfl, by kernel_rfl, by kernel_rfl⟩
theorem y36_sl60 : SlIs Try.prog 60 3 1 8 (.int .i64 0) := ⟨by kernel_rfl, by kernel_rfl, by kernel_rfl⟩
theorem y36_sz3 : (Try.prog.info? 3).map (·.size) = some 1 := by kernel_rfl
theorem y36_sz40 : (Try.prog.info? 40).map (·.size) = some 2 := by kernel_rfl
theorem y36_ty22 : TyIs Try.prog 22 false 1 := ⟨by kernel_rfl, by kernel_rfl⟩
theorem y36_ty23 : TyIs Try.prog 23 false 1 := ⟨by kernel_rfl, by kernel_rfl⟩
theorem y36_ty26 : TyIs Try.prog 26 true 4 := ⟨by kernel_rfl, by kernel_rfl⟩
theorem y36_ty3 : TyIs Try.prog 3 false 1 := ⟨by kernel_rfl, by kernel_rfl⟩
theorem y36_ty40 : TyIs Try.prog 40 true 2 := ⟨by kernel_rfl, by kernel_rfl⟩

set_option maxRecDepth 100000 in
set_option maxHeartbeats 4000000 in
theorem rVehicleErr_ok (L c s : Int) : FnOk Try.prog 28 [vehA L c s] (fun q => q = mA (vehE L c s)) := by
  refine fnOk_of (fn := Try.f28) 19 (by kernel_rfl) rfl (by kernel_rfl) (Nat.le_of_ble_eq_true rfl) ?_
  intro e_0 m_0 hA hm_0
  have s0_0 : evA e_0 (.tmp 0) = _ := hA 0 _ rfl
  have ml_0 : m_0.length = 0 := by rw [hm_0]; rfl
  clear hA hm_0
  refine aw_seq ?_
  refine aw_text (by kernel_rfl) ?_
  refine al_stm (st_box s0_0 rfl ml_0) trivial rfl (fun m_1 hm_1 => ?_)
  have mo0_1 := m_push hm_1 ml_0
  have ml_1 := m_push_l hm_1 ml_0
  have ml_1 : _ = 1 := ml_1
  clear hm_1
  refine al_ro' (ro_assign ev_c) trivial rfl ?_
  refine al_end (fun e_2 he_2 => ?_)
  have s1_2 := ef 1 he_2 (up_m rfl up_h)
  clear he_2 s0_0
  refine then_n ?_
  refine aw_seq ?_
  refine aw_seq ?_
  refine aw_text (by kernel_rfl) ?_
  refine al_ro' (ro_fld_ptr y36_fl52_0 rfl s1_2) trivial rfl ?_
  refine al_ro' (ro_eq (ro_ld_ptr y36_ty3 rfl mo0_1 up_h (by exact Nat.le_of_ble_eq_true rfl)) (by simp only [packA_t, packA_f, iE, bE, setAt, cellsA, Value.cells, map_vc, map_vn, Nat.reduceAdd, qS] <;> rfl)) trivial rfl ?_
  refine al_ro' (ro_call (evL_cons up_h (evL_cons ev_c (evL_cons ev_c evL_nil))) rfl (bWithin_ok _ _ _) y36_hcf22) trivial rfl ?_
  refine al_ro' (ro_not up_h) trivial rfl ?_
  refine al_ro' (ro_move up_h) trivial rfl ?_
  refine al_case up_h (fun hb_3 hq_3 => ?_) (fun hb_3 hq_3 => ?_)
  ·replace hq_3 := bt' hq_3
   refine al_skip' ⟨_, rfl, .inl hb_3⟩ rfl ?_
   refine al_skip' ⟨_, rfl, .inl (up_m rfl hb_3)⟩ rfl ?_
   refine al_skip' ⟨_, rfl, .inl (u2 rfl hb_3)⟩ rfl ?_
   refine al_skip' ⟨_, rfl, .inl (up_m rfl (u2 rfl hb_3))⟩ rfl ?_
   refine al_ro' (ro_pickT (u4 rfl hb_3) ev_c) trivial rfl ?_
   refine al_ro' (ro_move up_h) trivial rfl ?_
   refine al_skip' ⟨_, rfl, .inl up_h⟩ rfl ?_
   refine al_skip' ⟨_, rfl, .inl (up_m rfl up_h)⟩ rfl ?_
   refine al_skip' ⟨_, rfl, .inl (u2 rfl up_h)⟩ rfl ?_
   refine al_skip' ⟨_, rfl, .inl (up_m rfl (u2 rfl up_h))⟩ rfl ?_
   refine al_ro' (ro_pickT (u4 rfl up_h) ev_c) trivial rfl ?_
   refine al_end (fun e_4 he_4 => ?_)
   have s18_4 := ef 18 he_4 up_h
   clear he_4 hb_3 s1_2
   refine then_n ?_
   refine aw_true s18_4 ?_
   refine aw_seq ?_
   refine aw_text (by kernel_rfl) ?_
   refine al_ro' (ro_assign ev_c) trivial rfl ?_
   refine al_end (fun e_6 he_6 => ?_)
   have s2_6 := ef 2 he_6 up_h
   clear he_6 s18_4
   refine then_n ?_
   refine aw_ret ?_
   refine then_r ?_
   refine ret1 (.inr rfl) (by kernel_rfl) (resV_tmp s2_6) (.ro _ rfl) ?_
   clear s2_6 mo0_1 ml_1
   (unfold vehE unlessE; simp_all)
  replace hq_3 := bf' hq_3
  refine al_ro' (ro_fld_ptr y36_fl52_1 rfl (up_m rfl (u4 rfl s1_2))) ⟨_, rfl, hb_3⟩ rfl ?_
  refine al_ro' (ro_eq (ro_ld_ptr y36_ty3 rfl mo0_1 up_h (by exact Nat.le_of_ble_eq_true rfl)) (by simp only [packA_t, packA_f, iE, bE, setAt, cellsA, Value.cells, map_vc, map_vn, Nat.reduceAdd, qS] <;> rfl)) ⟨_, rfl, (up_m rfl hb_3)⟩ rfl ?_
  refine al_ro' (ro_call (evL_cons up_h (evL_cons ev_c (evL_cons ev_c evL_nil))) rfl (bWithin_ok _ _ _) y36_hcf22) ⟨_, rfl, (u2 rfl hb_3)⟩ rfl ?_
  refine al_ro' (ro_not up_h) ⟨_, rfl, (up_m rfl (u2 rfl hb_3))⟩ rfl ?_
  refine al_ro' (ro_pickF (u4 rfl hb_3) up_h) trivial rfl ?_
  refine al_ro' (ro_move up_h) trivial rfl ?_
  refine al_case up_h (fun hb_7 hq_7 => ?_) (fun hb_7 hq_7 => ?_)
  ·replace hq_7 := bt' hq_7
   refine al_skip' ⟨_, rfl, .inl hb_7⟩ rfl ?_
   refine al_skip' ⟨_, rfl, .inl (up_m rfl hb_7)⟩ rfl ?_
   refine al_skip' ⟨_, rfl, .inl (u2 rfl hb_7)⟩ rfl ?_
   refine al_skip' ⟨_, rfl, .inl (up_m rfl (u2 rfl hb_7))⟩ rfl ?_
   refine al_ro' (ro_pickT (u4 rfl hb_7) ev_c) trivial rfl ?_
   refine al_end (fun e_8 he_8 => ?_)
   have s18_8 := ef 18 he_8 up_h
   clear he_8 hb_3 hb_7 s1_2
   refine then_n ?_
   refine aw_true s18_8 ?_
   refine aw_seq ?_
   refine aw_text (by kernel_rfl) ?_
   refine al_ro' (ro_assign ev_c) trivial rfl ?_
   refine al_end (fun e_10 he_10 => ?_)
   have s2_10 := ef 2 he_10 up_h
   clear he_10 s18_8
   refine then_n ?_
   refine aw_ret ?_
   refine then_r ?_
   refine ret1 (.inr rfl) (by kernel_rfl) (resV_tmp s2_10) (.ro _ rfl) ?_
   clear s2_10 mo0_1 ml_1
   (unfold vehE unlessE; simp_all)
  replace hq_7 := bf' hq_7
  refine al_ro' (ro_fld_ptr y36_fl52_2 rfl (up_m rfl (u2 rfl (u8 rfl s1_2)))) ⟨_, rfl, hb_7⟩ rfl ?_
  refine al_ro' (ro_eq (ro_ld_ptr y36_ty3 rfl mo0_1 up_h (by exact Nat.le_of_ble_eq_true rfl)) (by simp only [packA_t, packA_f, iE, bE, setAt, cellsA, Value.cells, map_vc, map_vn, Nat.reduceAdd, qS] <;> rfl)) ⟨_, rfl, (up_m rfl hb_7)⟩ rfl ?_
  refine al_ro' (ro_call (evL_cons up_h (evL_cons ev_c (evL_cons ev_c evL_nil))) rfl (bWithin_ok _ _ _) y36_hcf22) ⟨_, rfl, (u2 rfl hb_7)⟩ rfl ?_
  refine al_ro' (ro_not up_h) ⟨_, rfl, (up_m rfl (u2 rfl hb_7))⟩ rfl ?_
  refine al_ro' (ro_pickF (u4 rfl hb_7) up_h) trivial rfl ?_
  refine al_end (fun e_11 he_11 => ?_)
  have s18_11 := ef 18 he_11 up_h
  clear he_11 hb_3 hb_7 s1_2
  refine then_n ?_
  refine aw_case s18_11 (fun hq_12 => ?_) (fun hq_12 => ?_)
  ·replace hq_12 := bt' hq_12
   refine aw_seq ?_
   refine aw_text (by kernel_rfl) ?_
   refine al_ro' (ro_assign ev_c) trivial rfl ?_
   refine al_end (fun e_13 he_13 => ?_)
   have s2_13 := ef 2 he_13 up_h
   clear he_13 s18_11
   refine then_n ?_
   refine aw_ret ?_
   refine then_r ?_
   refine ret1 (.inr rfl) (by kernel_rfl) (resV_tmp s2_13) (.ro _ rfl) ?_
   clear s2_13 mo0_1 ml_1
   (unfold vehE unlessE; simp_all)
  replace hq_12 := bf' hq_12
  refine aw_skip ?_
  refine then_n ?_
  refine aw_seq ?_
  refine aw_text (by kernel_rfl) ?_
  refine al_ro' (ro_assign ev_c) trivial rfl ?_
  refine al_end (fun e_14 he_14 => ?_)
  have s2_14 := ef 2 he_14 up_h
  clear he_14 s18_11
  refine then_n ?_
  refine aw_ret ?_
  refine ret1 (.inr rfl) (by kernel_rfl) (resV_tmp s2_14) (.ro _ rfl) ?_
  clear s2_14 mo0_1 ml_1
  (unfold vehE unlessE; simp_all)
set_option maxRecDepth 100000 in
set_option maxHeartbeats 4000000 in
theorem rPoseErr_ok (l : Lin) (h : Rgt l) (L c s p : Int) (hs : 1 ≤ s) (hL : 0 ≤ L ∧ L ≤ 1000000) : FnOk Try.prog 29 [lnA l, vehA L c s, mA p] (fun q => q = mA (posE l L s p)) := by
  refine fnOk_of (fn := Try.f29) 22 (by kernel_rfl) rfl (by kernel_rfl) (Nat.le_of_ble_eq_true rfl) ?_
  intro e_0 m_0 hA hm_0
  have s0_0 : evA e_0 (.tmp 0) = _ := hA 0 _ rfl
  have s1_0 : evA e_0 (.tmp 1) = _ := hA 1 _ rfl
  have s2_0 : evA e_0 (.tmp 2) = _ := hA 2 _ rfl
  have ml_0 : m_0.length = 0 := by rw [hm_0]; rfl
  clear hA hm_0
  have hn1 := h.n1; have hpb := h.pla (n := l.bs.length) (Nat.le_refl _)
  refine aw_seq ?_
  refine aw_text (by kernel_rfl) ?_
  refine al_stm (st_box s0_0 rfl ml_0) trivial rfl (fun m_1 hm_1 => ?_)
  have mo0_1 := m_push hm_1 ml_0
  have ml_1 := m_push_l hm_1 ml_0
  have ml_1 : _ = 1 := ml_1
  clear hm_1
  refine al_stm (st_box (up_m rfl s1_0) rfl ml_1) trivial rfl (fun m_2 hm_2 => ?_)
  have mo1_2 := m_push hm_2 ml_1
  have mo0_2 := m_push_o hm_2 mo0_1
  have ml_2 := m_push_l hm_2 ml_1
  have ml_2 : _ = 2 := ml_2
  clear hm_2 mo0_1
  refine al_ro' (ro_assign ev_c) trivial rfl ?_
  refine al_end (fun e_3 he_3 => ?_)
  have s2_3 := ef 2 he_3 (up_m rfl (u2 rfl s2_0))
  have s3_3 := ef 3 he_3 (u2 rfl up_h)
  have s4_3 := ef 4 he_3 (up_m rfl up_h)
  clear he_3 s0_0 s1_0 s2_0
  refine then_n ?_
  refine aw_seq ?_
  refine aw_seq ?_
  refine aw_draw 15 (by kernel_rfl) (by kernel_rfl) (by kernel_rfl) (by kernel_rfl) ?_
  refine ds_ro' (ro_move s2_3) trivial rfl ?_
  refine ds_ro' (ro_eq (ro_ld_ptr y36_ty26 rfl mo0_2 (up_m rfl s3_3) (by exact Nat.le_of_ble_eq_true rfl)) (by simp only [packA_t, packA_f, iE, bE, setAt, cellsA, Value.cells, map_vc, map_vn, Nat.reduceAdd, qS] <;> rfl)) trivial rfl ?_
  refine ds_ro' (ro_call (evL_cons up_h evL_nil) rfl (rLengthOf_ok l (by omega) h.len) y36_hcf39) trivial rfl ?_
  refine ds_ro' (ro_fld_ptr y36_fl52_0 rfl (up_m rfl (u2 rfl s4_3))) trivial rfl ?_
  refine ds_ro' (ro_eq (ro_ld_ptr y36_ty3 rfl mo1_2 up_h (by exact Nat.le_of_ble_eq_true rfl)) (by simp only [packA_t, packA_f, iE, bE, setAt, cellsA, Value.cells, map_vc, map_vn, Nat.reduceAdd, qS] <;> rfl)) trivial rfl ?_
  (refine ds_ro' (ro_sub' (u2 rfl up_h) up_h ?_) trivial rfl ?_; · (unfold In64; omega))
  refine ds_ro' (ro_call (evL_cons (up_m rfl (u4 rfl up_h)) (evL_cons ev_c (evL_cons up_h evL_nil))) rfl (bWithin_ok _ _ _) y36_hcf22) trivial rfl ?_
  refine ds_ro' (ro_not up_h) trivial rfl ?_
  refine ds_ro' (ro_move up_h) trivial rfl ?_
  refine ds_case up_h (fun hb_4 hq_4 => ?_) (fun hb_4 hq_4 => ?_)
  ·replace hq_4 := bt' hq_4
   refine ds_skip' ⟨_, rfl, .inl hb_4⟩ rfl ?_
   refine ds_skip' ⟨_, rfl, .inl (up_m rfl hb_4)⟩ rfl ?_
   refine ds_skip' ⟨_, rfl, .inl (u2 rfl hb_4)⟩ rfl ?_
   refine ds_skip' ⟨_, rfl, .inl (up_m rfl (u2 rfl hb_4))⟩ rfl ?_
   refine ds_skip' ⟨_, rfl, .inl (u4 rfl hb_4)⟩ rfl ?_
   refine ds_ro' (ro_pickT (up_m rfl (u4 rfl hb_4)) ev_c) trivial rfl ?_
   refine ds_nil ?_
   refine al_end (fun e_5 he_5 => ?_)
   have s21_5 := ef 21 he_5 up_h
   clear he_5 hb_4 s2_3 s3_3 s4_3
   refine then_n ?_
   refine aw_true s21_5 ?_
   refine aw_seq ?_
   refine aw_text (by kernel_rfl) ?_
   refine al_ro' (ro_assign ev_c) trivial rfl ?_
   refine al_end (fun e_7 he_7 => ?_)
   have s6_7 := ef 6 he_7 up_h
   clear he_7 s21_5
   refine then_n ?_
   refine aw_ret ?_
   refine then_r ?_
   refine ret1 (.inr rfl) (by kernel_rfl) (resV_tmp s6_7) (.ro _ rfl) ?_
   clear s6_7 mo1_2 mo0_2 ml_2
   (unfold posE unlessE; simp_all)
  replace hq_4 := bf' hq_4
  refine ds_ro' (ro_move (up_m rfl (u8 rfl s2_3))) ⟨_, rfl, hb_4⟩ rfl ?_
  refine ds_ro' (ro_fld_ptr y36_fl52_2 rfl (u2 rfl (u8 rfl s4_3))) ⟨_, rfl, (up_m rfl hb_4)⟩ rfl ?_
  refine ds_ro' (ro_eq (ro_ld_ptr y36_ty3 rfl mo1_2 up_h (by exact Nat.le_of_ble_eq_true rfl)) (by simp only [packA_t, packA_f, iE, bE, setAt, cellsA, Value.cells, map_vc, map_vn, Nat.reduceAdd, qS] <;> rfl)) ⟨_, rfl, (u2 rfl hb_4)⟩ rfl ?_
  refine ds_ro' (ro_rem (u2 rfl up_h) up_h (by omega)) ⟨_, rfl, (up_m rfl (u2 rfl hb_4))⟩ rfl ?_
  refine ds_ro' (ro_neq up_h ev_c) ⟨_, rfl, (u4 rfl hb_4)⟩ rfl ?_
  refine ds_ro' (ro_pickF (up_m rfl (u4 rfl hb_4)) up_h) trivial rfl ?_
  refine ds_nil ?_
  refine al_end (fun e_8 he_8 => ?_)
  have s21_8 := ef 21 he_8 up_h
  clear he_8 hb_4 s2_3 s3_3 s4_3
  refine then_n ?_
  refine aw_case s21_8 (fun hq_9 => ?_) (fun hq_9 => ?_)
  ·replace hq_9 := bnt hq_9
   refine aw_seq ?_
   refine aw_text (by kernel_rfl) ?_
   refine al_ro' (ro_assign ev_c) trivial rfl ?_
   refine al_end (fun e_10 he_10 => ?_)
   have s6_10 := ef 6 he_10 up_h
   clear he_10 s21_8
   refine then_n ?_
   refine aw_ret ?_
   refine then_r ?_
   refine ret1 (.inr rfl) (by kernel_rfl) (resV_tmp s6_10) (.ro _ rfl) ?_
   clear s6_10 mo1_2 mo0_2 ml_2
   (unfold posE unlessE; simp_all)
  replace hq_9 := bnf hq_9
  refine aw_skip ?_
  refine then_n ?_
  refine aw_seq ?_
  refine aw_text (by kernel_rfl) ?_
  refine al_ro' (ro_assign ev_c) trivial rfl ?_
  refine al_end (fun e_11 he_11 => ?_)
  have s6_11 := ef 6 he_11 up_h
  clear he_11 s21_8
  refine then_n ?_
  refine aw_ret ?_
  refine ret1 (.inr rfl) (by kernel_rfl) (resV_tmp s6_11) (.ro _ rfl) ?_
  clear s6_11 mo1_2 mo0_2 ml_2
  (unfold posE unlessE; simp_all)
/-- A number is none of the first ones. -/
def NotIn (xs : List Int) (n : Int) (k : Nat) : Prop := ∀ j : Nat, j < k → xs.getD j default ≠ n
def hasB (xs : List Int) (n : Int) : Bool := decide (n ∈ xs)
theorem hasB_yes {xs : List Int} {n : Int} {k : Nat} (hk : k < xs.length) (h : xs.getD k default = n) : hasB xs n = true := by
  unfold hasB
  rw [decide_eq_true_eq, ← h, List.getD_eq_getElem?_getD, List.getElem?_eq_getElem hk]
  exact List.getElem_mem hk
theorem hasB_no {xs : List Int} {n : Int} (h : NotIn xs n xs.length) : hasB xs n = false := by
  unfold hasB
  rw [decide_eq_false_iff_not]
  intro hm
  obtain ⟨k, hk, he⟩ := List.getElem_of_mem hm
  refine h k hk ?_
  rw [List.getD_eq_getElem?_getD, List.getElem?_eq_getElem hk]; exact he
set_option maxRecDepth 100000 in
set_option maxHeartbeats 4000000 in
theorem has_ok (xs : List Int) (n : Int) (hx : xs.length ≤ 1000000) : FnOk Try.prog 30 [.row 1 (xs.map iE), mA n] (fun q => q = tbA (hasB xs n)) := by
  refine fnOk_of (fn := Try.f30) 18 (by kernel_rfl) rfl (by kernel_rfl) (Nat.le_of_ble_eq_true rfl) ?_
  intro e_0 m_0 hA hm_0
  have s0_0 : evA e_0 (.tmp 0) = _ := hA 0 _ rfl
  have s1_0 : evA e_0 (.tmp 1) = _ := hA 1 _ rfl
  have ml_0 : m_0.length = 0 := by rw [hm_0]; rfl
  clear hA hm_0
  refine aw_seq ?_
  refine aw_text (by kernel_rfl) ?_
  refine al_ro' (ro_assign ev_c) trivial rfl ?_
  refine al_end (fun e_1 he_1 => ?_)
  have s0_1 := ef 0 he_1 (up_m rfl s0_0)
  have s1_1 := ef 1 he_1 (up_m rfl s1_0)
  clear he_1 s0_0 s1_0
  refine then_n ?_
  refine aw_seq ?_
  refine aw_seq ?_
  refine aw_text (by kernel_rfl) ?_
  refine al_ro' (ro_assign ev_c) trivial rfl ?_
  refine al_end (fun e_2 he_2 => ?_)
  have s0_2 := ef 0 he_2 (up_m rfl s0_1)
  have s1_2 := ef 1 he_2 (up_m rfl s1_1)
  have s5_2 := ef 5 he_2 up_h
  clear he_2 s0_1 s1_1
  refine then_n ?_
  refine aw_block ?_
  refine aw_loop (S := Int) (fun k e mem => (evA e (.tmp 5) = .v (.int .i64 k)) ∧ (evA e (.tmp 0) = evA e_2 (.tmp 0)) ∧ (evA e (.tmp 1) = evA e_2 (.tmp 1)) ∧ (mem.length = 0) ∧ ((0 ≤ k ∧ k ≤ xs.length ∧ NotIn xs n k.toNat))) (fun k => (xs.length - k).toNat) _ ⟨s5_2, rfl, rfl, ml_0, ?_⟩ ?_
  · (exact ⟨by omega, by omega, fun j hj => absurd hj (by simp)⟩)
  · rintro k e_3 m_3 ⟨s5_3, k0_3, k1_3, ml_3, hinv⟩
    have s0_3 := k0_3.trans s0_2
    have s1_3 := k1_3.trans s1_2
    (obtain ⟨p1, p2, p3⟩ := hinv)
    refine aw_seq ?_
    refine aw_seq ?_
    refine aw_text (by kernel_rfl) ?_
    refine al_ro' (ro_move s5_3) trivial rfl ?_
    refine al_ro' (ro_move (up_m rfl s0_3)) trivial rfl ?_
    refine al_ro' (ro_eq (ro_len_row up_h rfl y36_sl60.1) (by simp only [lnS] <;> rfl)) trivial rfl ?_
    refine al_ro' (ro_lss (u2 rfl up_h) up_h) trivial rfl ?_
    refine al_end (fun e_4 he_4 => ?_)
    have s0_4 := ef 0 he_4 (u4 rfl s0_3)
    have s1_4 := ef 1 he_4 (u4 rfl s1_3)
    have s5_4 := ef 5 he_4 (u4 rfl s5_3)
    have s9_4 := ef 9 he_4 up_h
    clear he_4 s0_3 s1_3 s5_3
    refine then_n ?_
    refine aw_case s9_4 (fun hq_5 => ?_) (fun hq_5 => ?_)
    ·replace hq_5 := bt hq_5
     refine aw_skip ?_
     refine then_n ?_
     refine aw_seq ?_
     refine aw_block ?_
     refine aw_seq ?_
     refine aw_text (by kernel_rfl) ?_
     refine al_ro' (ro_move s0_4) trivial rfl ?_
     refine al_ro' (ro_move (up_m rfl s5_4)) trivial rfl ?_
     refine al_ro' (ro_eq (ro_ix y36_sl60 (up_m rfl up_h) up_h (by omega) (by first | (refine idx_map ?_; first | omega | (simp only [lnS]; omega)) | (refine idx_mapI ?_; first | omega | (simp only [lnS]; omega)) | (refine idx_mapN ?_; first | omega | (simp only [lnS]; omega)) | rfl)) (by simp only [packA_t, packA_f, iE, bE, setAt, cellsA, Value.cells, map_vc, map_vn, Nat.reduceAdd, qS] <;> rfl)) trivial rfl ?_
     refine al_ro' (ro_eq (ro_ld_ref y36_ty3 rfl up_h (by exact Nat.le_of_ble_eq_true rfl)) (by simp only [packA_t, packA_f, iE, bE, setAt, cellsA, Value.cells, map_vc, map_vn, Nat.reduceAdd, qS] <;> rfl)) trivial rfl ?_
     refine al_ro' (ro_move (u4 rfl s1_4)) trivial rfl ?_
     refine al_ro' (ro_eql (up_m rfl up_h) up_h) trivial rfl ?_
     refine al_end (fun e_6 he_6 => ?_)
     have s0_6 := ef 0 he_6 (u2 rfl (u4 rfl s0_4))
     have s1_6 := ef 1 he_6 (u2 rfl (u4 rfl s1_4))
     have s5_6 := ef 5 he_6 (u2 rfl (u4 rfl s5_4))
     have s17_6 := ef 17 he_6 up_h
     clear he_6 s0_4 s1_4 s5_4 s9_4
     refine then_n ?_
     refine aw_case s17_6 (fun hq_7 => ?_) (fun hq_7 => ?_)
     ·replace hq_7 := bt hq_7
      refine aw_seq ?_
      refine aw_text (by kernel_rfl) ?_
      refine al_ro' (ro_assign ev_c) trivial rfl ?_
      refine al_end (fun e_8 he_8 => ?_)
      have s4_8 := ef 4 he_8 up_h
      clear he_8 s0_6 s17_6 s1_6 s5_6
      refine then_n ?_
      refine aw_ret ?_
      refine block_r ?_
      refine then_r ?_
      refine then_r ?_
      refine block_r ?_
      refine then_r ?_
      refine ret1 (.inr rfl) (by kernel_rfl) (resV_tmp s4_8) (.ro _ rfl) ?_
      clear s4_8  ml_3
      (rw [hasB_yes (k := k.toNat) (by omega) (by assumption)])
     replace hq_7 := bf hq_7
     refine aw_skip ?_
     refine block_n ?_
     refine then_n ?_
     refine aw_text (by kernel_rfl) ?_
     refine al_ro' (ro_move s5_6) trivial rfl ?_
     (refine al_ro' (ro_add' up_h ev_c ?_) trivial rfl ?_; · (unfold In64; omega))
     refine al_ro' (ro_assign up_h) trivial rfl ?_
     refine al_end (fun e_9 he_9 => ?_)
     have s0_9 := ef 0 he_9 (up_m rfl (u2 rfl s0_6))
     have s1_9 := ef 1 he_9 (up_m rfl (u2 rfl s1_6))
     have s5_9 := ef 5 he_9 up_h
     clear he_9 s0_6 s17_6 s1_6 s5_6
     refine then_n ?_
     refine ⟨_, ⟨s5_9, (s0_9.trans s0_2.symm), (s1_9.trans s1_2.symm), ml_3, ?_⟩, ?_⟩
     · (have hk : ¬ xs.getD k.toNat default = n := (by assumption); refine ⟨by omega, by omega, fun j hj => ?_⟩; by_cases hjk : j = k.toNat; (rw [hjk]; exact hk); exact p3 j (by omega))
     · ((try dsimp only); omega)
    replace hq_5 := bf hq_5
    refine aw_exit ?_
    refine then_x ?_
    refine then_x ?_
    refine block_hit ?_
    refine then_n ?_
    refine aw_seq ?_
    refine aw_text (by kernel_rfl) ?_
    refine al_ro' (ro_assign ev_c) trivial rfl ?_
    refine al_end (fun e_10 he_10 => ?_)
    have s4_10 := ef 4 he_10 up_h
    clear he_10 s0_4 s1_4 s5_4 s9_4
    refine then_n ?_
    refine aw_ret ?_
    refine ret1 (.inr rfl) (by kernel_rfl) (resV_tmp s4_10) (.ro _ rfl) ?_
    clear s4_10  ml_3
    (rw [show k.toNat = xs.length by omega] at p3; rw [hasB_no p3])
/-- The joints beneath a pose, of the first n. -/
def benP (l : Lin) (L p : Int) (n : Nat) : List Int := ((List.range n).filter (benB l L p)).map fun (i : Nat) => (i : Int)
theorem benP_yes {l : Lin} {L p k : Int} (hk : 0 ≤ k) (h : benB l L p k.toNat = true) : benP l L p (k + 1).toNat = benP l L p k.toNat ++ [k] := by
  rw [show (k + 1).toNat = k.toNat + 1 by omega]
  unfold benP
  rw [List.range_succ, List.filter_append, List.map_append]
  simp [h]; omega
theorem benP_no {l : Lin} {L p k : Int} (hk : 0 ≤ k) (h : benB l L p k.toNat = false) : benP l L p (k + 1).toNat = benP l L p k.toNat := by
  rw [show (k + 1).toNat = k.toNat + 1 by omega]
  unfold benP
  rw [List.range_succ, List.filter_append, List.map_append]
  simp [h]
theorem benP_len {l : Lin} {L p : Int} {n : Nat} : (benP l L p n).length ≤ n := by
  unfold benP
  rw [List.length_map]
  have := List.length_filter_le (benB l L p) (List.range n)
  simpa using this
theorem benP_has {l : Lin} {L p j : Int} : hasB (benP l L p l.js.length) j = benI l L p j := by
  unfold hasB benI benP
  by_cases h0 : 0 ≤ j
  · by_cases h1 : j < l.js.length
    · by_cases h2 : benB l L p j.toNat = true
      · have : j ∈ List.map (fun (i : Nat) => (i : Int)) (List.filter (benB l L p) (List.range l.js.length)) := List.mem_map.2 ⟨j.toNat, List.mem_filter.2 ⟨List.mem_range.2 (by omega), h2⟩, by omega⟩
        simp only [this, decide_true, h0, h1, h2, Bool.and_self]
      · have : ¬ j ∈ List.map (fun (i : Nat) => (i : Int)) (List.filter (benB l L p) (List.range l.js.length)) := fun hm => by
          obtain ⟨i, hi, he⟩ := List.mem_map.1 hm
          rw [List.mem_filter] at hi
          exact h2 (by rw [show j.toNat = i by omega]; exact hi.2)
        simp only [this, decide_false]
        simp [h2]
    · have : ¬ j ∈ List.map (fun (i : Nat) => (i : Int)) (List.filter (benB l L p) (List.range l.js.length)) := fun hm => by
        obtain ⟨i, hi, he⟩ := List.mem_map.1 hm
        rw [List.mem_filter, List.mem_range] at hi
        omega
      simp only [this, decide_false]
      simp [h1]
  · have : ¬ j ∈ List.map (fun (i : Nat) => (i : Int)) (List.filter (benB l L p) (List.range l.js.length)) := fun hm => by
      obtain ⟨i, hi, he⟩ := List.mem_map.1 hm
      omega
    simp only [this, decide_false]
    simp [h0]
theorem benB_w {l : Lin} {L p : Int} {k : Nat} : withinB (plaP l.bs k) (p + 1) (p + L - 1) = benB l L p k := by
  unfold withinB benB
  congr 1 <;> (rw [decide_eq_decide]; omega)
set_option maxRecDepth 100000 in
set_option maxHeartbeats 4000000 in
theorem rBeneath_ok (l : Lin) (h : Rgt l) (L c s p : Int) (hL : 0 ≤ L ∧ L ≤ 1000000) (hp : 0 ≤ p ∧ p ≤ 10000000) : FnOk Try.prog 31 [lnA l, vehA L c s, mA p] (fun q => q = .row 1 ((benP l L p l.js.length).map iE)) := by
  refine fnOk_of (fn := Try.f31) 32 (by kernel_rfl) rfl (by kernel_rfl) (Nat.le_of_ble_eq_true rfl) ?_
  intro e_0 m_0 hA hm_0
  have s0_0 : evA e_0 (.tmp 0) = _ := hA 0 _ rfl
  have s1_0 : evA e_0 (.tmp 1) = _ := hA 1 _ rfl
  have s2_0 : evA e_0 (.tmp 2) = _ := hA 2 _ rfl
  have ml_0 : m_0.length = 0 := by rw [hm_0]; rfl
  clear hA hm_0
  have hn1 := h.n1; have hjs := h.js
  refine aw_seq ?_
  refine aw_text (by kernel_rfl) ?_
  refine al_stm (st_box s0_0 rfl ml_0) trivial rfl (fun m_1 hm_1 => ?_)
  have mo0_1 := m_push hm_1 ml_0
  have ml_1 := m_push_l hm_1 ml_0
  have ml_1 : _ = 1 := ml_1
  clear hm_1
  refine al_stm (st_box (up_m rfl s1_0) rfl ml_1) trivial rfl (fun m_2 hm_2 => ?_)
  have mo1_2 := m_push hm_2 ml_1
  have mo0_2 := m_push_o hm_2 mo0_1
  have ml_2 := m_push_l hm_2 ml_1
  have ml_2 : _ = 2 := ml_2
  clear hm_2 mo0_1
  refine al_ro' (ro_assign ev_c) trivial rfl ?_
  refine al_end (fun e_3 he_3 => ?_)
  have s2_3 := ef 2 he_3 (up_m rfl (u2 rfl s2_0))
  have s3_3 := ef 3 he_3 (u2 rfl up_h)
  have s4_3 := ef 4 he_3 (up_m rfl up_h)
  clear he_3 s0_0 s1_0 s2_0
  refine then_n ?_
  refine aw_seq ?_
  refine aw_text (by kernel_rfl) ?_
  refine al_ro' (ro_assign ev_c) trivial rfl ?_
  refine al_end (fun e_4 he_4 => ?_)
  have s2_4 := ef 2 he_4 (up_m rfl s2_3)
  have s3_4 := ef 3 he_4 (up_m rfl s3_3)
  have s4_4 := ef 4 he_4 (up_m rfl s4_3)
  have s7_4 := ef 7 he_4 up_h
  clear he_4 s2_3 s3_3 s4_3
  refine then_n ?_
  refine aw_seq ?_
  refine aw_seq ?_
  refine aw_text (by kernel_rfl) ?_
  refine al_ro' (ro_assign ev_c) trivial rfl ?_
  refine al_end (fun e_5 he_5 => ?_)
  have s2_5 := ef 2 he_5 (up_m rfl s2_4)
  have s3_5 := ef 3 he_5 (up_m rfl s3_4)
  have s4_5 := ef 4 he_5 (up_m rfl s4_4)
  have s7_5 := ef 7 he_5 (up_m rfl s7_4)
  have s8_5 := ef 8 he_5 up_h
  clear he_5 s2_4 s3_4 s4_4 s7_4
  refine then_n ?_
  refine aw_block ?_
  refine aw_adopt 3 1 s7_5 ml_2 (fun m_6 e_6 hm_6 he_6 => ?_)
  have mo2_6 := m_push hm_6 ml_2
  have mo1_6 := m_push_o hm_6 mo1_2
  have mo0_6 := m_push_o hm_6 mo0_2
  have ml_6 := m_push_l hm_6 ml_2
  have ml_6 : _ = 3 := ml_6
  have s2_6 : evA e_6 (.tmp 2) = _ := (congrArg (fun q => evA q (.tmp 2)) he_6).trans (up_m rfl s2_5)
  have s3_6 : evA e_6 (.tmp 3) = _ := (congrArg (fun q => evA q (.tmp 3)) he_6).trans (up_m rfl s3_5)
  have s4_6 : evA e_6 (.tmp 4) = _ := (congrArg (fun q => evA q (.tmp 4)) he_6).trans (up_m rfl s4_5)
  have s7_6 : evA e_6 (.tmp 7) = _ := (congrArg (fun q => evA q (.tmp 7)) he_6).trans up_h
  have s8_6 : evA e_6 (.tmp 8) = _ := (congrArg (fun q => evA q (.tmp 8)) he_6).trans (up_m rfl s8_5)
  clear hm_6 he_6
  refine aw_loop (S := (Int × List Int)) (fun s e mem => match s with | ⟨k, xs⟩ => (evA e (.tmp 8) = .v (.int .i64 k)) ∧ (evA e (.tmp 2) = evA e_6 (.tmp 2)) ∧ (evA e (.tmp 3) = evA e_6 (.tmp 3)) ∧ (evA e (.tmp 4) = evA e_6 (.tmp 4)) ∧ (mem[1]? = m_6[1]?) ∧ (mem[0]? = m_6[0]?) ∧ (∃ j, evA e (.tmp 7) = .own j ∧ mem[j]? = some (.row 3 1 (xs.map iE)) ∧ j ≠ 1 ∧ j ≠ 0) ∧ (∃ n, mem.length = n ∧ 3 ≤ n) ∧ ((0 ≤ k ∧ k ≤ l.js.length ∧ xs = benP l L p k.toNat))) (fun s => match s with | ⟨k, xs⟩ => (l.js.length - k).toNat) ⟨_, []⟩ ⟨s8_6, rfl, rfl, rfl, rfl, rfl, ⟨_, s7_6, mo2_6, (by decide), (by decide)⟩, ⟨_, ml_6, Nat.le_refl _⟩, ?_⟩ ?_
  · (exact ⟨by omega, by omega, rfl⟩)
  · rintro ⟨k, xs⟩ e_7 m_7 ⟨s8_7, k2_7, k3_7, k4_7, mk1_7, mk0_7, ⟨j7_7, s7_7, mo_j7_7, nj7_1_7, nj7_0_7⟩, ⟨n_7, ml_7, hn_7⟩, hinv⟩
    have s2_7 := k2_7.trans s2_6
    have s3_7 := k3_7.trans s3_6
    have s4_7 := k4_7.trans s4_6
    have mo1_7 := mk1_7.trans mo1_6
    have mo0_7 := mk0_7.trans mo0_6
    have jl7_7 := m_lt mo_j7_7 ml_7
    (obtain ⟨p1, p2, p3⟩ := hinv; have hxl : xs.length ≤ 1000000 := (by rw [p3]; have := benP_len (l := l) (L := L) (p := p) (n := k.toNat); omega))
    refine aw_seq ?_
    refine aw_seq ?_
    refine aw_text (by kernel_rfl) ?_
    refine al_ro' (ro_move s8_7) trivial rfl ?_
    refine al_ro' (ro_fld_ptr y36_fl26_1 rfl (up_m rfl s3_7)) trivial rfl ?_
    refine al_ro' (ro_eq (ro_ld_ptr y36_ty22 rfl mo0_7 up_h (by exact Nat.le_of_ble_eq_true rfl)) (by simp only [packA_t, packA_f, iE, bE, setAt, cellsA, Value.cells, map_vc, map_vn, Nat.reduceAdd, qS, one_iE, app_m] <;> rfl)) trivial rfl ?_
    refine al_ro' (ro_eq (ro_len_row up_h rfl y36_sl22.1) (by simp only [lnS] <;> rfl)) trivial rfl ?_
    refine al_ro' (ro_lss (up_m rfl (u2 rfl up_h)) up_h) trivial rfl ?_
    refine al_end (fun e_8 he_8 => ?_)
    have s2_8 := ef 2 he_8 (up_m rfl (u4 rfl s2_7))
    have s3_8 := ef 3 he_8 (up_m rfl (u4 rfl s3_7))
    have s4_8 := ef 4 he_8 (up_m rfl (u4 rfl s4_7))
    have s7_8 := ef 7 he_8 (up_m rfl (u4 rfl s7_7))
    have s8_8 := ef 8 he_8 (up_m rfl (u4 rfl s8_7))
    have s13_8 := ef 13 he_8 up_h
    clear he_8 s2_7 s3_7 s4_7 s7_7 s8_7
    refine then_n ?_
    refine aw_case s13_8 (fun hq_9 => ?_) (fun hq_9 => ?_)
    ·replace hq_9 := bt hq_9
     refine aw_skip ?_
     refine then_n ?_
     refine aw_seq ?_
     refine aw_block ?_
     refine aw_seq ?_
     refine aw_draw 11 (by kernel_rfl) (by kernel_rfl) (by kernel_rfl) (by kernel_rfl) ?_
     refine ds_ro' (ro_eq (ro_ld_ptr y36_ty26 rfl mo0_7 s3_8 (by exact Nat.le_of_ble_eq_true rfl)) (by simp only [packA_t, packA_f, iE, bE, setAt, cellsA, Value.cells, map_vc, map_vn, Nat.reduceAdd, qS, one_iE, app_m] <;> rfl)) trivial rfl ?_
     refine ds_ro' (ro_move (up_m rfl s8_8)) trivial rfl ?_
     refine ds_ro' (ro_call (evL_cons (up_m rfl up_h) (evL_cons up_h evL_nil)) rfl (rPlaceOf_ok l (by omega) h.len k (by omega)) y36_hcf81) trivial rfl ?_
     refine ds_ro' (ro_move (up_m rfl (u2 rfl s2_8))) trivial rfl ?_
     (refine ds_ro' (ro_add' up_h ev_c ?_) trivial rfl ?_; · (unfold In64; omega))
     refine ds_ro' (ro_move (up_m rfl (u4 rfl s2_8))) trivial rfl ?_
     refine ds_ro' (ro_fld_ptr y36_fl52_0 rfl (u2 rfl (u4 rfl s4_8))) trivial rfl ?_
     refine ds_ro' (ro_eq (ro_ld_ptr y36_ty3 rfl mo1_7 up_h (by exact Nat.le_of_ble_eq_true rfl)) (by simp only [packA_t, packA_f, iE, bE, setAt, cellsA, Value.cells, map_vc, map_vn, Nat.reduceAdd, qS, one_iE, app_m] <;> rfl)) trivial rfl ?_
     (refine ds_ro' (ro_add' (u2 rfl up_h) up_h ?_) trivial rfl ?_; · (unfold In64; omega))
     (refine ds_ro' (ro_sub' up_h ev_c ?_) trivial rfl ?_; · (unfold In64; omega))
     refine ds_ro' (ro_call (evL_cons (up_m rfl (u2 rfl (u4 rfl up_h))) (evL_cons (up_m rfl (u4 rfl up_h)) (evL_cons up_h evL_nil))) rfl ((bWithin_ok _ _ _).mono (fun q h => show q = tbA (benB l L p k.toNat) from h.trans (by rw [benB_w]))) y36_hcf22) trivial rfl ?_
     refine ds_nil ?_
     refine al_end (fun e_10 he_10 => ?_)
     have s2_10 := ef 2 he_10 (up_m rfl (u2 rfl (u8 rfl s2_8)))
     have s3_10 := ef 3 he_10 (up_m rfl (u2 rfl (u8 rfl s3_8)))
     have s4_10 := ef 4 he_10 (up_m rfl (u2 rfl (u8 rfl s4_8)))
     have s7_10 := ef 7 he_10 (up_m rfl (u2 rfl (u8 rfl s7_8)))
     have s8_10 := ef 8 he_10 (up_m rfl (u2 rfl (u8 rfl s8_8)))
     have s26_10 := ef 26 he_10 up_h
     clear he_10 s13_8 s2_8 s3_8 s4_8 s7_8 s8_8
     refine then_n ?_
     refine aw_case s26_10 (fun hq_11 => ?_) (fun hq_11 => ?_)
     ·skip
      refine aw_text (by kernel_rfl) ?_
      refine al_ro' (ro_move s7_10) trivial rfl ?_
      refine al_ro' (ro_move (up_m rfl s8_10)) trivial rfl ?_
      refine al_ro' (ro_lit y36_sl60 (evP_cons up_h evP_nil) rfl rfl rfl rfl) trivial rfl ?_
      refine al_stm (st_app y36_sl60 rfl ml_7 mo_j7_7 (u2 rfl up_h) up_h (by rfl) (by simp only [lnS] <;> omega)) trivial rfl (fun m_12 hm_12 => ?_)
      have mon_7_12 := m_swap hm_12 ml_7
      simp only [packA_t, packA_f, iE, bE, setAt, cellsA, Value.cells, map_vc, map_vn, Nat.reduceAdd, qS, one_iE, app_m] at mon_7_12
      have mo1_12 := m_swap_o hm_12 mo1_7 (by omega)
      have mo0_12 := m_swap_o hm_12 mo0_7 (by omega)
      have ml_12 := m_swap_l hm_12 ml_7
      clear hm_12 mo1_7 mo0_7 mo_j7_7
      refine al_ro' (ro_assign up_h) trivial rfl ?_
      refine al_end (fun e_13 he_13 => ?_)
      have s2_13 := ef 2 he_13 (up_m rfl (u4 rfl s2_10))
      have s3_13 := ef 3 he_13 (up_m rfl (u4 rfl s3_10))
      have s4_13 := ef 4 he_13 (up_m rfl (u4 rfl s4_10))
      have s7_13 := ef 7 he_13 up_h
      have s8_13 := ef 8 he_13 (up_m rfl (u4 rfl s8_10))
      clear he_13 s26_10 s2_10 s3_10 s4_10 s7_10 s8_10
      refine block_n ?_
      refine then_n ?_
      refine aw_text (by kernel_rfl) ?_
      refine al_ro' (ro_move s8_13) trivial rfl ?_
      (refine al_ro' (ro_add' up_h ev_c ?_) trivial rfl ?_; · (unfold In64; omega))
      refine al_ro' (ro_assign up_h) trivial rfl ?_
      refine al_end (fun e_14 he_14 => ?_)
      have s2_14 := ef 2 he_14 (up_m rfl (u2 rfl s2_13))
      have s3_14 := ef 3 he_14 (up_m rfl (u2 rfl s3_13))
      have s4_14 := ef 4 he_14 (up_m rfl (u2 rfl s4_13))
      have s7_14 := ef 7 he_14 (up_m rfl (u2 rfl s7_13))
      have s8_14 := ef 8 he_14 up_h
      clear he_14 s2_13 s3_13 s4_13 s7_13 s8_13
      refine then_n ?_
      refine ⟨⟨_, _⟩, ⟨s8_14, (s2_14.trans s2_6.symm), (s3_14.trans s3_6.symm), (s4_14.trans s4_6.symm), (mo1_12.trans mo1_6.symm), (mo0_12.trans mo0_6.symm), ⟨_, s7_14, mon_7_12, (by omega), (by omega)⟩, ⟨_, ml_12, by omega⟩, ?_⟩, ?_⟩
      · (refine ⟨by omega, by omega, ?_⟩; rw [p3]; first | (rw [benP_yes p1 (by assumption)]; done) | (rw [benP_no p1 (by first | assumption | (simpa using ‹¬ _ = true›))]; done))
      · ((try dsimp only); omega)
     refine aw_skip ?_
     refine block_n ?_
     refine then_n ?_
     refine aw_text (by kernel_rfl) ?_
     refine al_ro' (ro_move s8_10) trivial rfl ?_
     (refine al_ro' (ro_add' up_h ev_c ?_) trivial rfl ?_; · (unfold In64; omega))
     refine al_ro' (ro_assign up_h) trivial rfl ?_
     refine al_end (fun e_15 he_15 => ?_)
     have s2_15 := ef 2 he_15 (up_m rfl (u2 rfl s2_10))
     have s3_15 := ef 3 he_15 (up_m rfl (u2 rfl s3_10))
     have s4_15 := ef 4 he_15 (up_m rfl (u2 rfl s4_10))
     have s7_15 := ef 7 he_15 (up_m rfl (u2 rfl s7_10))
     have s8_15 := ef 8 he_15 up_h
     clear he_15 s26_10 s2_10 s3_10 s4_10 s7_10 s8_10
     refine then_n ?_
     refine ⟨⟨_, _⟩, ⟨s8_15, (s2_15.trans s2_6.symm), (s3_15.trans s3_6.symm), (s4_15.trans s4_6.symm), (mo1_7.trans mo1_6.symm), (mo0_7.trans mo0_6.symm), ⟨_, s7_15, mo_j7_7, nj7_1_7, nj7_0_7⟩, ⟨_, ml_7, by omega⟩, ?_⟩, ?_⟩
     · (refine ⟨by omega, by omega, ?_⟩; rw [p3]; first | (rw [benP_yes p1 (by assumption)]; done) | (rw [benP_no p1 (by first | assumption | (simpa using ‹¬ _ = true›))]; done))
     · ((try dsimp only); omega)
    replace hq_9 := bf hq_9
    refine aw_exit ?_
    refine then_x ?_
    refine then_x ?_
    refine block_hit ?_
    refine then_n ?_
    refine aw_seq ?_
    refine aw_text (by kernel_rfl) ?_
    refine al_ro' (ro_move s7_8) trivial rfl ?_
    refine al_ro' (ro_assign up_h) trivial rfl ?_
    refine al_end (fun e_16 he_16 => ?_)
    have s6_16 := ef 6 he_16 up_h
    clear he_16 s13_8 s2_8 s3_8 s4_8 s7_8 s8_8
    refine then_n ?_
    refine aw_ret ?_
    refine ret1 (.inr rfl) (by kernel_rfl) (resV_tmp s6_16) (.own _ _ _ _ mo_j7_7) ?_
    clear s6_16 mo1_7 mo0_7 mo_j7_7 ml_7
    (rw [p3, show k.toNat = l.js.length by omega])
set_option maxRecDepth 100000 in
set_option maxHeartbeats 1000000 in
theorem bFloor_ok (n k : Int) (hk : 1 ≤ k) (hn : -4000000000000000000 ≤ n ∧ n ≤ 4000000000000000000) : FnOk Try.prog 83 [mA n, mA k] (fun q => q = mA (n / k)) := by
  have hb := tdiv_bd hn k
  have hf := fdivF (n := n) hk
  refine fnOk_of (fn := Try.f83) 16 (by kernel_rfl) rfl (by kernel_rfl) (Nat.le_of_ble_eq_true rfl) ?_
  intro e_0 m_0 hA hm_0
  have s0_0 : evA e_0 (.tmp 0) = _ := hA 0 _ rfl
  have s1_0 : evA e_0 (.tmp 1) = _ := hA 1 _ rfl
  have ml_0 : m_0.length = 0 := by rw [hm_0]; rfl
  clear hA hm_0
  refine aw_seq ?_
  refine aw_text (by kernel_rfl) ?_
  refine al_ro' (ro_assign ev_c) trivial rfl ?_
  refine al_end (fun e_1 he_1 => ?_)
  have s0_1 := ef 0 he_1 (up_m rfl s0_0)
  have s1_1 := ef 1 he_1 (up_m rfl s1_0)
  clear he_1 s0_0 s1_0
  refine then_n ?_
  refine aw_seq ?_
  refine aw_text (by kernel_rfl) ?_
  refine al_ro' (ro_move s0_1) trivial rfl ?_
  refine al_ro' (ro_move (up_m rfl s1_1)) trivial rfl ?_
  (refine al_ro' (ro_quo' (up_m rfl up_h) up_h (by omega) ?_) trivial rfl ?_; · (unfold In64; omega))
  refine al_ro' (ro_assign up_h) trivial rfl ?_
  refine al_end (fun e_2 he_2 => ?_)
  have s0_2 := ef 0 he_2 (u4 rfl s0_1)
  have s1_2 := ef 1 he_2 (u4 rfl s1_1)
  have s5_2 := ef 5 he_2 up_h
  clear he_2 s0_1 s1_1
  refine then_n ?_
  refine aw_seq ?_
  refine aw_seq ?_
  refine aw_text (by kernel_rfl) ?_
  refine al_ro' (ro_move s0_2) trivial rfl ?_
  refine al_ro' (ro_move (up_m rfl s1_2)) trivial rfl ?_
  refine al_ro' (ro_rem (up_m rfl up_h) up_h (by omega)) trivial rfl ?_
  refine al_ro' (ro_lss up_h ev_c) trivial rfl ?_
  refine al_end (fun e_3 he_3 => ?_)
  have s5_3 := ef 5 he_3 (u4 rfl s5_2)
  have s12_3 := ef 12 he_3 up_h
  clear he_3 s0_2 s1_2 s5_2
  refine then_n ?_
  refine aw_case s12_3 (fun hq_4 => ?_) (fun hq_4 => ?_)
  ·replace hq_4 := bt hq_4
   refine aw_text (by kernel_rfl) ?_
   refine al_ro' (ro_move s5_3) trivial rfl ?_
   (refine al_ro' (ro_sub' up_h ev_c ?_) trivial rfl ?_; · (unfold In64; omega))
   refine al_ro' (ro_assign up_h) trivial rfl ?_
   refine al_end (fun e_5 he_5 => ?_)
   have s5_5 := ef 5 he_5 up_h
   clear he_5 s12_3 s5_3
   refine then_n ?_
   refine aw_seq ?_
   refine aw_text (by kernel_rfl) ?_
   refine al_ro' (ro_move s5_5) trivial rfl ?_
   refine al_ro' (ro_assign up_h) trivial rfl ?_
   refine al_end (fun e_6 he_6 => ?_)
   have s4_6 := ef 4 he_6 up_h
   clear he_6 s5_5
   refine then_n ?_
   refine aw_ret ?_
   refine ret1 (.inr rfl) (by kernel_rfl) (resV_tmp s4_6) (.ro _ rfl) ?_
   clear s4_6  ml_0
   (refine avj ?_; exact hf.1 (by assumption))
  replace hq_4 := bf hq_4
  refine aw_skip ?_
  refine then_n ?_
  refine aw_seq ?_
  refine aw_text (by kernel_rfl) ?_
  refine al_ro' (ro_move s5_3) trivial rfl ?_
  refine al_ro' (ro_assign up_h) trivial rfl ?_
  refine al_end (fun e_7 he_7 => ?_)
  have s4_7 := ef 4 he_7 up_h
  clear he_7 s12_3 s5_3
  refine then_n ?_
  refine aw_ret ?_
  refine ret1 (.inr rfl) (by kernel_rfl) (resV_tmp s4_7) (.ro _ rfl) ?_
  clear s4_7  ml_0
  (refine avj ?_; exact hf.2 (by assumption))
set_option maxRecDepth 100000 in
set_option maxHeartbeats 1000000 in
theorem bCeil_ok (n k : Int) (hk : 1 ≤ k) (hn : -4000000000000000000 ≤ n ∧ n ≤ 4000000000000000000) : FnOk Try.prog 84 [mA n, mA k] (fun q => q = mA (-(-n / k))) := by
  have hb := ediv_bd (n := -n) hk (by omega)
  refine fnOk_of (fn := Try.f84) 10 (by kernel_rfl) rfl (by kernel_rfl) (Nat.le_of_ble_eq_true rfl) ?_
  intro e_0 m_0 hA hm_0
  have s0_0 : evA e_0 (.tmp 0) = _ := hA 0 _ rfl
  have s1_0 : evA e_0 (.tmp 1) = _ := hA 1 _ rfl
  have ml_0 : m_0.length = 0 := by rw [hm_0]; rfl
  clear hA hm_0
  refine aw_seq ?_
  refine aw_text (by kernel_rfl) ?_
  refine al_ro' (ro_assign ev_c) trivial rfl ?_
  refine al_end (fun e_1 he_1 => ?_)
  have s0_1 := ef 0 he_1 (up_m rfl s0_0)
  have s1_1 := ef 1 he_1 (up_m rfl s1_0)
  clear he_1 s0_0 s1_0
  refine then_n ?_
  refine aw_seq ?_
  refine aw_text (by kernel_rfl) ?_
  refine al_ro' (ro_move s0_1) trivial rfl ?_
  (refine al_ro' (ro_neg' up_h ?_) trivial rfl ?_; · (unfold In64; omega))
  refine al_ro' (ro_move (u2 rfl s1_1)) trivial rfl ?_
  refine al_ro' (ro_call (evL_cons (up_m rfl up_h) (evL_cons up_h evL_nil)) rfl (bFloor_ok _ k hk (by omega)) y36_hcf83) trivial rfl ?_
  (refine al_ro' (ro_neg' up_h ?_) trivial rfl ?_; · (unfold In64; omega))
  refine al_ro' (ro_assign up_h) trivial rfl ?_
  refine al_end (fun e_2 he_2 => ?_)
  have s4_2 := ef 4 he_2 up_h
  clear he_2 s0_1 s1_1
  refine then_n ?_
  refine aw_ret ?_
  refine ret1 (.inr rfl) (by kernel_rfl) (resV_tmp s4_2) (.ro _ rfl) ?_
  clear s4_2  ml_0
  rfl
theorem devD_f2 (l : Lin) (L p : Int) : L * (l.bs.getD (atI l p) default).len * (l.bs.getD (atI l (p + L)) default).len = devD l L p := by
  unfold devD
  rw [Int.mul_comm L, Int.mul_assoc, Int.mul_comm L, ← Int.mul_assoc]
theorem loF_2 (w : Int) (j : Jnt) : min (w * (j.acr + j.lo)) (w * (j.acr + j.hi)) = loF w j ∧ max (w * (j.acr + j.lo)) (w * (j.acr + j.hi)) = hiF w j := by
  unfold loF hiF
  rw [Int.mul_add, Int.mul_add]
  omega
set_option maxRecDepth 100000 in
set_option maxHeartbeats 4000000 in
theorem rDeviationAt_ok (l : Lin) (h : Rgt l) (L c s p : Int) (j : Nat) (q : Pos l L p j) : FnOk Try.prog 32 [lnA l, vehA L c s, mA p, mA j] (fun q => q = .agg [mA (devLo l L p j), mA (devHi l L p j)]) := by
  refine fnOk_of (fn := Try.f32) 216 (by kernel_rfl) rfl (by kernel_rfl) (Nat.le_of_ble_eq_true rfl) ?_
  intro e_0 m_0 hA hm_0
  have s0_0 : evA e_0 (.tmp 0) = _ := hA 0 _ rfl
  have s1_0 : evA e_0 (.tmp 1) = _ := hA 1 _ rfl
  have s2_0 : evA e_0 (.tmp 2) = _ := hA 2 _ rfl
  have s3_0 : evA e_0 (.tmp 3) = _ := hA 3 _ rfl
  have ml_0 : m_0.length = 0 := by rw [hm_0]; rfl
  clear hA hm_0
  have hn1 := h.n1; have hn0 := h.n0; have hjs := h.js; obtain ⟨L0, L1, p0, p1, j0, j1, jn⟩ := id q; obtain ⟨a1, a2, a3⟩ := at_bd h (p := p) ⟨p0, by omega⟩; obtain ⟨b1, b2, b3⟩ := at_bd h (p := p + L) ⟨by omega, p1⟩; have c1 := h.bea _ a1; have c2 := h.bea _ b1; have hpb := h.pla (n := l.bs.length) (Nat.le_refl _); have hpj := h.pla (n := j) (by omega); obtain ⟨d0, d1, d2, d3, d4, d5⟩ := q.bd h; replace d2 := nat2 d2; replace d3 := nat2 d3; replace d4 := nat2 d4; replace d5 := nat2 d5; obtain ⟨s1, s2, s3, s4, s5⟩ := q.abs h; have m1 := nat2 (mul_in (x := L) (y := (l.bs.getD (atI l p) default).len) 30000 30000 (by omega) (by omega)); have m2 := nat2 (mul_in (x := L - (plaP l.bs j - p)) (y := (l.bs.getD (atI l p) default).len - atD l p) 30000 30000 (by omega) (by omega)); have m3 := nat2 (mul_in (x := L - (plaP l.bs j - p)) (y := atD l p) 30000 30000 (by omega) (by omega)); have m4 := nat2 (mul_in (x := plaP l.bs j - p) (y := (l.bs.getD (atI l (p + L)) default).len - atD l (p + L)) 30000 30000 (by omega) (by omega)); have m5 := nat2 (mul_in (x := plaP l.bs j - p) (y := atD l (p + L)) 30000 30000 (by omega) (by omega)); have hdd := devD_f2 l L p; have g0 : (List.replicate l.js.length (0 : Int)).getD j default = 0 := (by simp [jn]); have g2 := nat2 (Nat.le_trans (absP_get (ws := wts1 l L p j) (n := l.js.length) (i := atI l p) (by omega)) s1); have g3 := nat2 (Nat.le_trans (absP_get (ws := wts2 l L p j) (n := l.js.length) (i := atI l p + 1) (by omega)) s2); have g4 := nat2 (Nat.le_trans (absP_get (ws := wts3 l L p j) (n := l.js.length) (i := atI l (p + L)) (by omega)) s3); have g5 := nat2 (Nat.le_trans (absP_get (ws := wts4 l L p j) (n := l.js.length) (i := atI l (p + L) + 1) (by omega)) s4); have k0 : (List.replicate l.js.length (0 : Int)).length = l.js.length := (by simp); have k1 := len_wts1 (l := l) (L := L) (p := p) (j := j); have k2 := len_wts2 (l := l) (L := L) (p := p) (j := j); have k3 := len_wts3 (l := l) (L := L) (p := p) (j := j); have k4 := len_wts4 (l := l) (L := L) (p := p) (j := j); have k5 := len_wts (l := l) (L := L) (p := p) (j := j)
  refine aw_seq ?_
  refine aw_text (by kernel_rfl) ?_
  refine al_stm (st_box s0_0 rfl ml_0) trivial rfl (fun m_1 hm_1 => ?_)
  have mo0_1 := m_push hm_1 ml_0
  have ml_1 := m_push_l hm_1 ml_0
  have ml_1 : _ = 1 := ml_1
  clear hm_1
  refine al_stm (st_box (up_m rfl s1_0) rfl ml_1) trivial rfl (fun m_2 hm_2 => ?_)
  have mo1_2 := m_push hm_2 ml_1
  have mo0_2 := m_push_o hm_2 mo0_1
  have ml_2 := m_push_l hm_2 ml_1
  have ml_2 : _ = 2 := ml_2
  clear hm_2 mo0_1
  refine al_stm (st_alloc y36_az40 rfl ml_2) trivial rfl (fun m_3 hm_3 => ?_)
  have mo2_3 := m_push hm_3 ml_2
  simp only [packA_t, packA_f, iE, bE, setAt, cellsA, Value.cells, map_vc, map_vn, Nat.reduceAdd, qS, jnE, beE, Int.toNat_natCast, toNat_suc, rep_iE, set_iE, addAt_f, subAt_f, devD_f2, wts1_f, wts2_f, wts3_f, wts4_f, wtsL_f] at mo2_3
  have mo1_3 := m_push_o hm_3 mo1_2
  have mo0_3 := m_push_o hm_3 mo0_2
  have ml_3 := m_push_l hm_3 ml_2
  have ml_3 : _ = 3 := ml_3
  clear hm_3 mo1_2 mo0_2
  refine al_end (fun e_4 he_4 => ?_)
  have s2_4 := ef 2 he_4 (up_m rfl (u2 rfl s2_0))
  have s3_4 := ef 3 he_4 (up_m rfl (u2 rfl s3_0))
  have s4_4 := ef 4 he_4 (u2 rfl up_h)
  have s5_4 := ef 5 he_4 (up_m rfl up_h)
  have s8_4 := ef 8 he_4 up_h
  clear he_4 s0_0 s1_0 s2_0 s3_0
  refine then_n ?_
  refine aw_seq ?_
  refine aw_text (by kernel_rfl) ?_
  refine al_ro' (ro_eq (ro_ld_ptr y36_ty26 rfl mo0_3 s4_4 (by exact Nat.le_of_ble_eq_true rfl)) (by simp only [packA_t, packA_f, iE, bE, setAt, cellsA, Value.cells, map_vc, map_vn, Nat.reduceAdd, qS, jnE, beE, Int.toNat_natCast, toNat_suc, rep_iE, set_iE, addAt_f, subAt_f, devD_f2, wts1_f, wts2_f, wts3_f, wts4_f, wtsL_f] <;> rfl)) trivial rfl ?_
  refine al_ro' (ro_move (up_m rfl s2_4)) trivial rfl ?_
  refine al_ro' (ro_call (evL_cons (up_m rfl up_h) (evL_cons up_h evL_nil)) rfl (rBeamAt_ok l h p ⟨p0, by omega⟩) y36_hcf82) trivial rfl ?_
  refine al_ro' (ro_move up_h) trivial rfl ?_
  refine al_ro' (ro_extract up_h rfl) trivial rfl ?_
  refine al_ro' (ro_extract (up_m rfl up_h) rfl) trivial rfl ?_
  refine al_ro' (ro_assign (up_m rfl up_h)) trivial rfl ?_
  refine al_ro' (ro_assign (up_m rfl up_h)) trivial rfl ?_
  refine al_end (fun e_5 he_5 => ?_)
  have s2_5 := ef 2 he_5 (u8 rfl s2_4)
  have s3_5 := ef 3 he_5 (u8 rfl s3_4)
  have s4_5 := ef 4 he_5 (u8 rfl s4_4)
  have s5_5 := ef 5 he_5 (u8 rfl s5_4)
  have s8_5 := ef 8 he_5 (u8 rfl s8_4)
  have s9_5 := ef 9 he_5 (up_m rfl up_h)
  have s10_5 := ef 10 he_5 up_h
  clear he_5 s2_4 s3_4 s4_4 s5_4 s8_4
  refine then_n ?_
  refine aw_seq ?_
  refine aw_text (by kernel_rfl) ?_
  refine al_ro' (ro_eq (ro_ld_ptr y36_ty26 rfl mo0_3 s4_5 (by exact Nat.le_of_ble_eq_true rfl)) (by simp only [packA_t, packA_f, iE, bE, setAt, cellsA, Value.cells, map_vc, map_vn, Nat.reduceAdd, qS, jnE, beE, Int.toNat_natCast, toNat_suc, rep_iE, set_iE, addAt_f, subAt_f, devD_f2, wts1_f, wts2_f, wts3_f, wts4_f, wtsL_f] <;> rfl)) trivial rfl ?_
  refine al_ro' (ro_move (up_m rfl s2_5)) trivial rfl ?_
  refine al_ro' (ro_fld_ptr y36_fl52_0 rfl (u2 rfl s5_5)) trivial rfl ?_
  refine al_ro' (ro_eq (ro_ld_ptr y36_ty3 rfl mo1_3 up_h (by exact Nat.le_of_ble_eq_true rfl)) (by simp only [packA_t, packA_f, iE, bE, setAt, cellsA, Value.cells, map_vc, map_vn, Nat.reduceAdd, qS, jnE, beE, Int.toNat_natCast, toNat_suc, rep_iE, set_iE, addAt_f, subAt_f, devD_f2, wts1_f, wts2_f, wts3_f, wts4_f, wtsL_f] <;> rfl)) trivial rfl ?_
  (refine al_ro' (ro_add' (u2 rfl up_h) up_h ?_) trivial rfl ?_; · (unfold In64; omega))
  refine al_ro' (ro_call (evL_cons (u4 rfl up_h) (evL_cons up_h evL_nil)) rfl (rBeamAt_ok l h (p + L) ⟨by omega, p1⟩) y36_hcf82) trivial rfl ?_
  refine al_ro' (ro_move up_h) trivial rfl ?_
  refine al_ro' (ro_extract up_h rfl) trivial rfl ?_
  refine al_ro' (ro_extract (up_m rfl up_h) rfl) trivial rfl ?_
  refine al_ro' (ro_assign (up_m rfl up_h)) trivial rfl ?_
  refine al_ro' (ro_assign (up_m rfl up_h)) trivial rfl ?_
  refine al_end (fun e_6 he_6 => ?_)
  have s2_6 := ef 2 he_6 (up_m rfl (u2 rfl (u8 rfl s2_5)))
  have s3_6 := ef 3 he_6 (up_m rfl (u2 rfl (u8 rfl s3_5)))
  have s4_6 := ef 4 he_6 (up_m rfl (u2 rfl (u8 rfl s4_5)))
  have s5_6 := ef 5 he_6 (up_m rfl (u2 rfl (u8 rfl s5_5)))
  have s8_6 := ef 8 he_6 (up_m rfl (u2 rfl (u8 rfl s8_5)))
  have s9_6 := ef 9 he_6 (up_m rfl (u2 rfl (u8 rfl s9_5)))
  have s10_6 := ef 10 he_6 (up_m rfl (u2 rfl (u8 rfl s10_5)))
  have s11_6 := ef 11 he_6 (up_m rfl up_h)
  have s12_6 := ef 12 he_6 up_h
  clear he_6 s10_5 s2_5 s3_5 s4_5 s5_5 s8_5 s9_5
  refine then_n ?_
  refine aw_seq ?_
  refine aw_draw 14 (by kernel_rfl) (by kernel_rfl) (by kernel_rfl) (by kernel_rfl) ?_
  refine ds_ro' (ro_fld_ptr y36_fl26_2 rfl s4_6) trivial rfl ?_
  refine ds_ro' (ro_eq (ro_ld_ptr y36_ty23 rfl mo0_3 up_h (by exact Nat.le_of_ble_eq_true rfl)) (by simp only [packA_t, packA_f, iE, bE, setAt, cellsA, Value.cells, map_vc, map_vn, Nat.reduceAdd, qS, jnE, beE, Int.toNat_natCast, toNat_suc, rep_iE, set_iE, addAt_f, subAt_f, devD_f2, wts1_f, wts2_f, wts3_f, wts4_f, wtsL_f] <;> rfl)) trivial rfl ?_
  refine ds_ro' (ro_move (u2 rfl s9_6)) trivial rfl ?_
  refine ds_ro' (ro_eq (ro_ix y36_sl23 (up_m rfl up_h) up_h (by omega) (by first | (refine idx_map ?_; first | omega | (simp only [lnS]; omega)) | (refine idx_mapI ?_; first | omega | (simp only [lnS]; omega)) | (refine idx_mapN ?_; first | omega | (simp only [lnS]; omega)) | rfl)) (by simp only [packA_t, packA_f, iE, bE, setAt, cellsA, Value.cells, map_vc, map_vn, Nat.reduceAdd, qS, jnE, beE, Int.toNat_natCast, toNat_suc, rep_iE, set_iE, addAt_f, subAt_f, devD_f2, wts1_f, wts2_f, wts3_f, wts4_f, wtsL_f] <;> rfl)) trivial rfl ?_
  refine ds_ro' (ro_eq (ro_fld_ref y36_fl47_0 rfl up_h) (by simp only [packA_t, packA_f, iE, bE, setAt, cellsA, Value.cells, map_vc, map_vn, Nat.reduceAdd, qS, jnE, beE, Int.toNat_natCast, toNat_suc, rep_iE, set_iE, addAt_f, subAt_f, devD_f2, wts1_f, wts2_f, wts3_f, wts4_f, wtsL_f] <;> rfl)) trivial rfl ?_
  refine ds_ro' (ro_eq (ro_ld_ref y36_ty3 rfl up_h (by exact Nat.le_of_ble_eq_true rfl)) (by simp only [packA_t, packA_f, iE, bE, setAt, cellsA, Value.cells, map_vc, map_vn, Nat.reduceAdd, qS, jnE, beE, Int.toNat_natCast, toNat_suc, rep_iE, set_iE, addAt_f, subAt_f, devD_f2, wts1_f, wts2_f, wts3_f, wts4_f, wtsL_f] <;> rfl)) trivial rfl ?_
  refine ds_ro' (ro_fld_ptr y36_fl26_2 rfl (u2 rfl (u4 rfl s4_6))) trivial rfl ?_
  refine ds_ro' (ro_eq (ro_ld_ptr y36_ty23 rfl mo0_3 up_h (by exact Nat.le_of_ble_eq_true rfl)) (by simp only [packA_t, packA_f, iE, bE, setAt, cellsA, Value.cells, map_vc, map_vn, Nat.reduceAdd, qS, jnE, beE, Int.toNat_natCast, toNat_suc, rep_iE, set_iE, addAt_f, subAt_f, devD_f2, wts1_f, wts2_f, wts3_f, wts4_f, wtsL_f] <;> rfl)) trivial rfl ?_
  refine ds_ro' (ro_move (u8 rfl s11_6)) trivial rfl ?_
  refine ds_ro' (ro_eq (ro_ix y36_sl23 (up_m rfl up_h) up_h (by omega) (by first | (refine idx_map ?_; first | omega | (simp only [lnS]; omega)) | (refine idx_mapI ?_; first | omega | (simp only [lnS]; omega)) | (refine idx_mapN ?_; first | omega | (simp only [lnS]; omega)) | rfl)) (by simp only [packA_t, packA_f, iE, bE, setAt, cellsA, Value.cells, map_vc, map_vn, Nat.reduceAdd, qS, jnE, beE, Int.toNat_natCast, toNat_suc, rep_iE, set_iE, addAt_f, subAt_f, devD_f2, wts1_f, wts2_f, wts3_f, wts4_f, wtsL_f] <;> rfl)) trivial rfl ?_
  refine ds_ro' (ro_eq (ro_fld_ref y36_fl47_0 rfl up_h) (by simp only [packA_t, packA_f, iE, bE, setAt, cellsA, Value.cells, map_vc, map_vn, Nat.reduceAdd, qS, jnE, beE, Int.toNat_natCast, toNat_suc, rep_iE, set_iE, addAt_f, subAt_f, devD_f2, wts1_f, wts2_f, wts3_f, wts4_f, wtsL_f] <;> rfl)) trivial rfl ?_
  refine ds_ro' (ro_eq (ro_ld_ref y36_ty3 rfl up_h (by exact Nat.le_of_ble_eq_true rfl)) (by simp only [packA_t, packA_f, iE, bE, setAt, cellsA, Value.cells, map_vc, map_vn, Nat.reduceAdd, qS, jnE, beE, Int.toNat_natCast, toNat_suc, rep_iE, set_iE, addAt_f, subAt_f, devD_f2, wts1_f, wts2_f, wts3_f, wts4_f, wtsL_f] <;> rfl)) trivial rfl ?_
  refine ds_ro' (ro_assign (u2 rfl (u4 rfl up_h))) trivial rfl ?_
  refine ds_ro' (ro_assign (up_m rfl up_h)) trivial rfl ?_
  refine ds_nil ?_
  refine al_end (fun e_7 he_7 => ?_)
  have s2_7 := ef 2 he_7 (u2 rfl (u4 rfl (u8 rfl s2_6)))
  have s3_7 := ef 3 he_7 (u2 rfl (u4 rfl (u8 rfl s3_6)))
  have s4_7 := ef 4 he_7 (u2 rfl (u4 rfl (u8 rfl s4_6)))
  have s5_7 := ef 5 he_7 (u2 rfl (u4 rfl (u8 rfl s5_6)))
  have s8_7 := ef 8 he_7 (u2 rfl (u4 rfl (u8 rfl s8_6)))
  have s9_7 := ef 9 he_7 (u2 rfl (u4 rfl (u8 rfl s9_6)))
  have s10_7 := ef 10 he_7 (u2 rfl (u4 rfl (u8 rfl s10_6)))
  have s11_7 := ef 11 he_7 (u2 rfl (u4 rfl (u8 rfl s11_6)))
  have s12_7 := ef 12 he_7 (u2 rfl (u4 rfl (u8 rfl s12_6)))
  have s13_7 := ef 13 he_7 (up_m rfl up_h)
  have s14_7 := ef 14 he_7 up_h
  clear he_7 s10_6 s11_6 s12_6 s2_6 s3_6 s4_6 s5_6 s8_6 s9_6
  refine then_n ?_
  refine aw_seq ?_
  refine aw_text (by kernel_rfl) ?_
  refine al_ro' (ro_eq (ro_ld_ptr y36_ty26 rfl mo0_3 s4_7 (by exact Nat.le_of_ble_eq_true rfl)) (by simp only [packA_t, packA_f, iE, bE, setAt, cellsA, Value.cells, map_vc, map_vn, Nat.reduceAdd, qS, jnE, beE, Int.toNat_natCast, toNat_suc, rep_iE, set_iE, addAt_f, subAt_f, devD_f2, wts1_f, wts2_f, wts3_f, wts4_f, wtsL_f] <;> rfl)) trivial rfl ?_
  refine al_ro' (ro_move (up_m rfl s3_7)) trivial rfl ?_
  refine al_ro' (ro_call (evL_cons (up_m rfl up_h) (evL_cons up_h evL_nil)) rfl ((rPlaceOf_ok l (by omega) h.len j (by omega)).mono (fun q h => show q = mA (plaP l.bs j) from h.trans (by rw [Int.toNat_natCast]))) y36_hcf81) trivial rfl ?_
  refine al_ro' (ro_move (up_m rfl (u2 rfl s2_7))) trivial rfl ?_
  (refine al_ro' (ro_sub' (up_m rfl up_h) up_h ?_) trivial rfl ?_; · (unfold In64; omega))
  refine al_ro' (ro_assign up_h) trivial rfl ?_
  refine al_end (fun e_8 he_8 => ?_)
  have s3_8 := ef 3 he_8 (u2 rfl (u4 rfl s3_7))
  have s4_8 := ef 4 he_8 (u2 rfl (u4 rfl s4_7))
  have s5_8 := ef 5 he_8 (u2 rfl (u4 rfl s5_7))
  have s8_8 := ef 8 he_8 (u2 rfl (u4 rfl s8_7))
  have s9_8 := ef 9 he_8 (u2 rfl (u4 rfl s9_7))
  have s10_8 := ef 10 he_8 (u2 rfl (u4 rfl s10_7))
  have s11_8 := ef 11 he_8 (u2 rfl (u4 rfl s11_7))
  have s12_8 := ef 12 he_8 (u2 rfl (u4 rfl s12_7))
  have s13_8 := ef 13 he_8 (u2 rfl (u4 rfl s13_7))
  have s14_8 := ef 14 he_8 (u2 rfl (u4 rfl s14_7))
  have s15_8 := ef 15 he_8 up_h
  clear he_8 s10_7 s11_7 s12_7 s13_7 s14_7 s2_7 s3_7 s4_7 s5_7 s8_7 s9_7
  refine then_n ?_
  refine aw_seq ?_
  refine aw_text (by kernel_rfl) ?_
  refine al_ro' (ro_fld_ptr y36_fl26_1 rfl s4_8) trivial rfl ?_
  refine al_ro' (ro_eq (ro_ld_ptr y36_ty22 rfl mo0_3 up_h (by exact Nat.le_of_ble_eq_true rfl)) (by simp only [packA_t, packA_f, iE, bE, setAt, cellsA, Value.cells, map_vc, map_vn, Nat.reduceAdd, qS, jnE, beE, Int.toNat_natCast, toNat_suc, rep_iE, set_iE, addAt_f, subAt_f, devD_f2, wts1_f, wts2_f, wts3_f, wts4_f, wtsL_f] <;> rfl)) trivial rfl ?_
  refine al_ro' (ro_eq (ro_len_row up_h rfl y36_sl22.1) (by simp only [lnS] <;> rfl)) trivial rfl ?_
  refine al_stm (st_mk y36_sl60 rfl rfl ml_3 up_h up_h (by omega) (by omega)) trivial rfl (fun m_9 hm_9 => ?_)
  have mo3_9 := m_push hm_9 ml_3
  simp only [packA_t, packA_f, iE, bE, setAt, cellsA, Value.cells, map_vc, map_vn, Nat.reduceAdd, qS, jnE, beE, Int.toNat_natCast, toNat_suc, rep_iE, set_iE, addAt_f, subAt_f, devD_f2, wts1_f, wts2_f, wts3_f, wts4_f, wtsL_f] at mo3_9
  have mo2_9 := m_push_o hm_9 mo2_3
  have mo1_9 := m_push_o hm_9 mo1_3
  have mo0_9 := m_push_o hm_9 mo0_3
  have ml_9 := m_push_l hm_9 ml_3
  have ml_9 : _ = 4 := ml_9
  clear hm_9 mo2_3 mo1_3 mo0_3
  refine al_ro' (ro_assign up_h) trivial rfl ?_
  refine al_end (fun e_10 he_10 => ?_)
  have s3_10 := ef 3 he_10 (up_m rfl (u4 rfl s3_8))
  have s4_10 := ef 4 he_10 (up_m rfl (u4 rfl s4_8))
  have s5_10 := ef 5 he_10 (up_m rfl (u4 rfl s5_8))
  have s8_10 := ef 8 he_10 (up_m rfl (u4 rfl s8_8))
  have s9_10 := ef 9 he_10 (up_m rfl (u4 rfl s9_8))
  have s10_10 := ef 10 he_10 (up_m rfl (u4 rfl s10_8))
  have s11_10 := ef 11 he_10 (up_m rfl (u4 rfl s11_8))
  have s12_10 := ef 12 he_10 (up_m rfl (u4 rfl s12_8))
  have s13_10 := ef 13 he_10 (up_m rfl (u4 rfl s13_8))
  have s14_10 := ef 14 he_10 (up_m rfl (u4 rfl s14_8))
  have s15_10 := ef 15 he_10 (up_m rfl (u4 rfl s15_8))
  have s16_10 := ef 16 he_10 up_h
  clear he_10 s10_8 s11_8 s12_8 s13_8 s14_8 s15_8 s3_8 s4_8 s5_8 s8_8 s9_8
  refine then_n ?_
  refine aw_seq ?_
  refine aw_draw 14 (by kernel_rfl) (by kernel_rfl) (by kernel_rfl) (by kernel_rfl) ?_
  refine ds_ro' (ro_move s16_10) trivial rfl ?_
  refine ds_ro' (ro_move (up_m rfl s3_10)) trivial rfl ?_
  refine ds_ro' (ro_move (u2 rfl s16_10)) trivial rfl ?_
  refine ds_ro' (ro_move (up_m rfl (u2 rfl s3_10))) trivial rfl ?_
  refine ds_ro' (ro_ix_own y36_sl60 mo3_9 (up_m rfl up_h) up_h (by omega) (by simp only [lnS] <;> omega)) trivial rfl ?_
  refine ds_ro' (ro_eq (ro_ld_el y36_ty3 rfl mo3_9 up_h (by exact Nat.le_of_ble_eq_true rfl) (by first | (refine idx_map ?_; first | omega | (simp only [lnS]; omega)) | (refine idx_mapI ?_; first | omega | (simp only [lnS]; omega)) | (refine idx_mapN ?_; first | omega | (simp only [lnS]; omega)) | rfl)) (by simp only [packA_t, packA_f, iE, bE, setAt, cellsA, Value.cells, map_vc, map_vn, Nat.reduceAdd, qS, jnE, beE, Int.toNat_natCast, toNat_suc, rep_iE, set_iE, addAt_f, subAt_f, devD_f2, wts1_f, wts2_f, wts3_f, wts4_f, wtsL_f] <;> rfl)) trivial rfl ?_
  refine ds_ro' (ro_fld_ptr y36_fl52_0 rfl (u2 rfl (u4 rfl s5_10))) trivial rfl ?_
  refine ds_ro' (ro_eq (ro_ld_ptr y36_ty3 rfl mo1_9 up_h (by exact Nat.le_of_ble_eq_true rfl)) (by simp only [packA_t, packA_f, iE, bE, setAt, cellsA, Value.cells, map_vc, map_vn, Nat.reduceAdd, qS, jnE, beE, Int.toNat_natCast, toNat_suc, rep_iE, set_iE, addAt_f, subAt_f, devD_f2, wts1_f, wts2_f, wts3_f, wts4_f, wtsL_f] <;> rfl)) trivial rfl ?_
  refine ds_ro' (ro_move (u8 rfl s13_10)) trivial rfl ?_
  (refine ds_ro' (ro_mul' (up_m rfl up_h) up_h ?_) trivial rfl ?_; · (unfold In64; omega))
  refine ds_ro' (ro_move (u2 rfl (u8 rfl s14_10))) trivial rfl ?_
  (refine ds_ro' (ro_mul' (up_m rfl up_h) up_h ?_) trivial rfl ?_; · (unfold In64; omega))
  (refine ds_ro' (ro_add' (u2 rfl (u4 rfl up_h)) up_h ?_) trivial rfl ?_; · (unfold In64; omega))
  refine ds_ro' (ro_ix_own y36_sl60 mo3_9 (u4 rfl (u8 rfl up_h)) (up_m rfl (u2 rfl (u8 rfl up_h))) (by omega) (by simp only [lnS] <;> omega)) trivial rfl ?_
  refine ds_nil ?_
  refine al_stm (st_store_el up_h (up_m rfl up_h) rfl rfl rfl mo3_9 (Nat.add_zero _).symm (by first | (refine idx_map ?_; first | omega | (simp only [lnS]; omega)) | (refine idx_mapI ?_; first | omega | (simp only [lnS]; omega)) | (refine idx_mapN ?_; first | omega | (simp only [lnS]; omega)) | rfl) y36_sz3 rfl (by exact Nat.le_of_ble_eq_true rfl)) trivial rfl (fun m_11 hm_11 => ?_)
  have mo3_11 := m_set hm_11 mo3_9
  simp only [packA_t, packA_f, iE, bE, setAt, cellsA, Value.cells, map_vc, map_vn, Nat.reduceAdd, qS, jnE, beE, Int.toNat_natCast, toNat_suc, rep_iE, set_iE, addAt_f, subAt_f, devD_f2, wts1_f, wts2_f, wts3_f, wts4_f, wtsL_f] at mo3_11
  have mo2_11 := m_set_o hm_11 mo2_9 (by decide)
  have mo1_11 := m_set_o hm_11 mo1_9 (by decide)
  have mo0_11 := m_set_o hm_11 mo0_9 (by decide)
  have ml_11 := m_set_l hm_11 ml_9
  clear hm_11 mo3_9 mo2_9 mo1_9 mo0_9
  refine al_end (fun e_12 he_12 => ?_)
  have s4_12 := ef 4 he_12 (up_n (u2 rfl (u4 rfl (u8 rfl s4_10))))
  have s5_12 := ef 5 he_12 (up_n (u2 rfl (u4 rfl (u8 rfl s5_10))))
  have s8_12 := ef 8 he_12 (up_n (u2 rfl (u4 rfl (u8 rfl s8_10))))
  have s9_12 := ef 9 he_12 (up_n (u2 rfl (u4 rfl (u8 rfl s9_10))))
  have s10_12 := ef 10 he_12 (up_n (u2 rfl (u4 rfl (u8 rfl s10_10))))
  have s11_12 := ef 11 he_12 (up_n (u2 rfl (u4 rfl (u8 rfl s11_10))))
  have s12_12 := ef 12 he_12 (up_n (u2 rfl (u4 rfl (u8 rfl s12_10))))
  have s13_12 := ef 13 he_12 (up_n (u2 rfl (u4 rfl (u8 rfl s13_10))))
  have s14_12 := ef 14 he_12 (up_n (u2 rfl (u4 rfl (u8 rfl s14_10))))
  have s15_12 := ef 15 he_12 (up_n (u2 rfl (u4 rfl (u8 rfl s15_10))))
  have s16_12 := ef 16 he_12 (up_n (u2 rfl (u4 rfl (u8 rfl s16_10))))
  clear he_12 s10_10 s11_10 s12_10 s13_10 s14_10 s15_10 s16_10 s3_10 s4_10 s5_10 s8_10 s9_10
  refine then_n ?_
  refine aw_seq ?_
  refine aw_draw 18 (by kernel_rfl) (by kernel_rfl) (by kernel_rfl) (by kernel_rfl) ?_
  refine ds_ro' (ro_move s16_12) trivial rfl ?_
  refine ds_ro' (ro_move (up_m rfl s9_12)) trivial rfl ?_
  refine ds_ro' (ro_move (u2 rfl s16_12)) trivial rfl ?_
  refine ds_ro' (ro_move (up_m rfl (u2 rfl s9_12))) trivial rfl ?_
  refine ds_ro' (ro_ix_own y36_sl60 mo3_11 (up_m rfl up_h) up_h (by omega) (by simp only [lnS] <;> omega)) trivial rfl ?_
  refine ds_ro' (ro_eq (ro_ld_el y36_ty3 rfl mo3_11 up_h (by exact Nat.le_of_ble_eq_true rfl) (by first | (refine idx_map ?_; first | omega | (simp only [lnS]; omega)) | (refine idx_mapI ?_; first | omega | (simp only [lnS]; omega)) | (refine idx_mapN ?_; first | omega | (simp only [lnS]; omega)) | rfl)) (by simp only [packA_t, packA_f, iE, bE, setAt, cellsA, Value.cells, map_vc, map_vn, Nat.reduceAdd, qS, jnE, beE, Int.toNat_natCast, toNat_suc, rep_iE, set_iE, addAt_f, subAt_f, devD_f2, wts1_f, wts2_f, wts3_f, wts4_f, wtsL_f] <;> rfl)) trivial rfl ?_
  refine ds_ro' (ro_fld_ptr y36_fl52_0 rfl (u2 rfl (u4 rfl s5_12))) trivial rfl ?_
  refine ds_ro' (ro_eq (ro_ld_ptr y36_ty3 rfl mo1_11 up_h (by exact Nat.le_of_ble_eq_true rfl)) (by simp only [packA_t, packA_f, iE, bE, setAt, cellsA, Value.cells, map_vc, map_vn, Nat.reduceAdd, qS, jnE, beE, Int.toNat_natCast, toNat_suc, rep_iE, set_iE, addAt_f, subAt_f, devD_f2, wts1_f, wts2_f, wts3_f, wts4_f, wtsL_f] <;> rfl)) trivial rfl ?_
  refine ds_ro' (ro_move (u8 rfl s15_12)) trivial rfl ?_
  (refine ds_ro' (ro_sub' (up_m rfl up_h) up_h ?_) trivial rfl ?_; · (unfold In64; omega))
  refine ds_ro' (ro_move (u2 rfl (u8 rfl s13_12))) trivial rfl ?_
  refine ds_ro' (ro_move (up_m rfl (u2 rfl (u8 rfl s10_12)))) trivial rfl ?_
  (refine ds_ro' (ro_sub' (up_m rfl up_h) up_h ?_) trivial rfl ?_; · (unfold In64; omega))
  (refine ds_ro' (ro_mul' (up_m rfl (u2 rfl up_h)) up_h ?_) trivial rfl ?_; · (unfold In64; omega))
  refine ds_ro' (ro_move (u2 rfl (u4 rfl (u8 rfl s14_12)))) trivial rfl ?_
  (refine ds_ro' (ro_mul' (up_m rfl up_h) up_h ?_) trivial rfl ?_; · (unfold In64; omega))
  (refine ds_ro' (ro_sub' (u2 rfl (u8 rfl up_h)) up_h ?_) trivial rfl ?_; · (unfold In64; omega))
  refine ds_ro' (ro_ix_own y36_sl60 mo3_11 (u16 rfl up_h) (up_m rfl (u2 rfl (u4 rfl (u8 rfl up_h)))) (by omega) (by simp only [lnS] <;> omega)) trivial rfl ?_
  refine ds_nil ?_
  refine al_stm (st_store_el up_h (up_m rfl up_h) rfl rfl rfl mo3_11 (Nat.add_zero _).symm (by first | (refine idx_map ?_; first | omega | (simp only [lnS]; omega)) | (refine idx_mapI ?_; first | omega | (simp only [lnS]; omega)) | (refine idx_mapN ?_; first | omega | (simp only [lnS]; omega)) | rfl) y36_sz3 rfl (by exact Nat.le_of_ble_eq_true rfl)) trivial rfl (fun m_13 hm_13 => ?_)
  have mo3_13 := m_set hm_13 mo3_11
  simp only [packA_t, packA_f, iE, bE, setAt, cellsA, Value.cells, map_vc, map_vn, Nat.reduceAdd, qS, jnE, beE, Int.toNat_natCast, toNat_suc, rep_iE, set_iE, addAt_f, subAt_f, devD_f2, wts1_f, wts2_f, wts3_f, wts4_f, wtsL_f] at mo3_13
  have mo2_13 := m_set_o hm_13 mo2_11 (by decide)
  have mo1_13 := m_set_o hm_13 mo1_11 (by decide)
  have mo0_13 := m_set_o hm_13 mo0_11 (by decide)
  have ml_13 := m_set_l hm_13 ml_11
  clear hm_13 mo3_11 mo2_11 mo1_11 mo0_11
  refine al_end (fun e_14 he_14 => ?_)
  have s4_14 := ef 4 he_14 (up_n (u2 rfl (u16 rfl s4_12)))
  have s5_14 := ef 5 he_14 (up_n (u2 rfl (u16 rfl s5_12)))
  have s8_14 := ef 8 he_14 (up_n (u2 rfl (u16 rfl s8_12)))
  have s9_14 := ef 9 he_14 (up_n (u2 rfl (u16 rfl s9_12)))
  have s10_14 := ef 10 he_14 (up_n (u2 rfl (u16 rfl s10_12)))
  have s11_14 := ef 11 he_14 (up_n (u2 rfl (u16 rfl s11_12)))
  have s12_14 := ef 12 he_14 (up_n (u2 rfl (u16 rfl s12_12)))
  have s13_14 := ef 13 he_14 (up_n (u2 rfl (u16 rfl s13_12)))
  have s14_14 := ef 14 he_14 (up_n (u2 rfl (u16 rfl s14_12)))
  have s15_14 := ef 15 he_14 (up_n (u2 rfl (u16 rfl s15_12)))
  have s16_14 := ef 16 he_14 (up_n (u2 rfl (u16 rfl s16_12)))
  clear he_14 s10_12 s11_12 s12_12 s13_12 s14_12 s15_12 s16_12 s4_12 s5_12 s8_12 s9_12
  refine then_n ?_
  refine aw_seq ?_
  refine aw_draw 18 (by kernel_rfl) (by kernel_rfl) (by kernel_rfl) (by kernel_rfl) ?_
  refine ds_ro' (ro_move s16_14) trivial rfl ?_
  refine ds_ro' (ro_move (up_m rfl s9_14)) trivial rfl ?_
  (refine ds_ro' (ro_add' up_h ev_c ?_) trivial rfl ?_; · (unfold In64; omega))
  refine ds_ro' (ro_move (up_m rfl (u2 rfl s16_14))) trivial rfl ?_
  refine ds_ro' (ro_move (u4 rfl s9_14)) trivial rfl ?_
  (refine ds_ro' (ro_add' up_h ev_c ?_) trivial rfl ?_; · (unfold In64; omega))
  refine ds_ro' (ro_ix_own y36_sl60 mo3_13 (u2 rfl up_h) up_h (by omega) (by simp only [lnS] <;> omega)) trivial rfl ?_
  refine ds_ro' (ro_eq (ro_ld_el y36_ty3 rfl mo3_13 up_h (by exact Nat.le_of_ble_eq_true rfl) (by refine idx_map ?_; first | omega | (simp only [lnS]; omega))) (by simp only [packA_t, packA_f, iE, bE, setAt, cellsA, Value.cells, map_vc, map_vn, Nat.reduceAdd, qS, jnE, beE, Int.toNat_natCast, toNat_suc, rep_iE, set_iE, addAt_f, subAt_f, devD_f2, wts1_f, wts2_f, wts3_f, wts4_f, wtsL_f] <;> rfl)) trivial rfl ?_
  refine ds_ro' (ro_fld_ptr y36_fl52_0 rfl (u8 rfl s5_14)) trivial rfl ?_
  refine ds_ro' (ro_eq (ro_ld_ptr y36_ty3 rfl mo1_13 up_h (by exact Nat.le_of_ble_eq_true rfl)) (by simp only [packA_t, packA_f, iE, bE, setAt, cellsA, Value.cells, map_vc, map_vn, Nat.reduceAdd, qS, jnE, beE, Int.toNat_natCast, toNat_suc, rep_iE, set_iE, addAt_f, subAt_f, devD_f2, wts1_f, wts2_f, wts3_f, wts4_f, wtsL_f] <;> rfl)) trivial rfl ?_
  refine ds_ro' (ro_move (u2 rfl (u8 rfl s15_14))) trivial rfl ?_
  (refine ds_ro' (ro_sub' (up_m rfl up_h) up_h ?_) trivial rfl ?_; · (unfold In64; omega))
  refine ds_ro' (ro_move (u4 rfl (u8 rfl s10_14))) trivial rfl ?_
  (refine ds_ro' (ro_mul' (up_m rfl up_h) up_h ?_) trivial rfl ?_; · (unfold In64; omega))
  refine ds_ro' (ro_move (u2 rfl (u4 rfl (u8 rfl s14_14)))) trivial rfl ?_
  (refine ds_ro' (ro_mul' (up_m rfl up_h) up_h ?_) trivial rfl ?_; · (unfold In64; omega))
  (refine ds_ro' (ro_sub' (u8 rfl up_h) up_h ?_) trivial rfl ?_; · (unfold In64; omega))
  refine ds_ro' (ro_ix_own y36_sl60 mo3_13 (u16 rfl up_h) (u2 rfl (u4 rfl (u8 rfl up_h))) (by omega) (by simp only [lnS] <;> omega)) trivial rfl ?_
  refine ds_nil ?_
  refine al_stm (st_store_el up_h (up_m rfl up_h) rfl rfl rfl mo3_13 (Nat.add_zero _).symm (by refine idx_map ?_; first | omega | (simp only [lnS]; omega)) y36_sz3 rfl (by exact Nat.le_of_ble_eq_true rfl)) trivial rfl (fun m_15 hm_15 => ?_)
  have mo3_15 := m_set hm_15 mo3_13
  simp only [packA_t, packA_f, iE, bE, setAt, cellsA, Value.cells, map_vc, map_vn, Nat.reduceAdd, qS, jnE, beE, Int.toNat_natCast, toNat_suc, rep_iE, set_iE, addAt_f, subAt_f, devD_f2, wts1_f, wts2_f, wts3_f, wts4_f, wtsL_f] at mo3_15
  have mo2_15 := m_set_o hm_15 mo2_13 (by decide)
  have mo1_15 := m_set_o hm_15 mo1_13 (by decide)
  have mo0_15 := m_set_o hm_15 mo0_13 (by decide)
  have ml_15 := m_set_l hm_15 ml_13
  clear hm_15 mo3_13 mo2_13 mo1_13 mo0_13
  refine al_end (fun e_16 he_16 => ?_)
  have s4_16 := ef 4 he_16 (up_n (u2 rfl (u16 rfl s4_14)))
  have s5_16 := ef 5 he_16 (up_n (u2 rfl (u16 rfl s5_14)))
  have s8_16 := ef 8 he_16 (up_n (u2 rfl (u16 rfl s8_14)))
  have s11_16 := ef 11 he_16 (up_n (u2 rfl (u16 rfl s11_14)))
  have s12_16 := ef 12 he_16 (up_n (u2 rfl (u16 rfl s12_14)))
  have s13_16 := ef 13 he_16 (up_n (u2 rfl (u16 rfl s13_14)))
  have s14_16 := ef 14 he_16 (up_n (u2 rfl (u16 rfl s14_14)))
  have s15_16 := ef 15 he_16 (up_n (u2 rfl (u16 rfl s15_14)))
  have s16_16 := ef 16 he_16 (up_n (u2 rfl (u16 rfl s16_14)))
  clear he_16 s10_14 s11_14 s12_14 s13_14 s14_14 s15_14 s16_14 s4_14 s5_14 s8_14 s9_14
  refine then_n ?_
  refine aw_seq ?_
  refine aw_text (by kernel_rfl) ?_
  refine al_ro' (ro_move s16_16) trivial rfl ?_
  refine al_ro' (ro_move (up_m rfl s11_16)) trivial rfl ?_
  refine al_ro' (ro_move (u2 rfl s16_16)) trivial rfl ?_
  refine al_ro' (ro_move (up_m rfl (u2 rfl s11_16))) trivial rfl ?_
  refine al_ro' (ro_ix_own y36_sl60 mo3_15 (up_m rfl up_h) up_h (by omega) (by simp only [lnS] <;> omega)) trivial rfl ?_
  refine al_ro' (ro_eq (ro_ld_el y36_ty3 rfl mo3_15 up_h (by exact Nat.le_of_ble_eq_true rfl) (by first | (refine idx_map ?_; first | omega | (simp only [lnS]; omega)) | (refine idx_mapI ?_; first | omega | (simp only [lnS]; omega)) | (refine idx_mapN ?_; first | omega | (simp only [lnS]; omega)) | rfl)) (by simp only [packA_t, packA_f, iE, bE, setAt, cellsA, Value.cells, map_vc, map_vn, Nat.reduceAdd, qS, jnE, beE, Int.toNat_natCast, toNat_suc, rep_iE, set_iE, addAt_f, subAt_f, devD_f2, wts1_f, wts2_f, wts3_f, wts4_f, wtsL_f] <;> rfl)) trivial rfl ?_
  refine al_ro' (ro_move (u2 rfl (u4 rfl s15_16))) trivial rfl ?_
  refine al_ro' (ro_move (up_m rfl (u2 rfl (u4 rfl s14_16)))) trivial rfl ?_
  refine al_ro' (ro_move (u8 rfl s12_16)) trivial rfl ?_
  (refine al_ro' (ro_sub' (up_m rfl up_h) up_h ?_) trivial rfl ?_; · (unfold In64; omega))
  (refine al_ro' (ro_mul' (up_m rfl (u2 rfl up_h)) up_h ?_) trivial rfl ?_; · (unfold In64; omega))
  refine al_ro' (ro_move (up_m rfl (u2 rfl (u8 rfl s13_16)))) trivial rfl ?_
  (refine al_ro' (ro_mul' (up_m rfl up_h) up_h ?_) trivial rfl ?_; · (unfold In64; omega))
  (refine al_ro' (ro_sub' (up_m rfl (u2 rfl (u4 rfl up_h))) up_h ?_) trivial rfl ?_; · (unfold In64; omega))
  refine al_ro' (ro_ix_own y36_sl60 mo3_15 (up_m rfl (u4 rfl (u8 rfl up_h))) (u4 rfl (u8 rfl up_h)) (by omega) (by simp only [lnS] <;> omega)) trivial rfl ?_
  refine al_stm (st_store_el up_h (up_m rfl up_h) rfl rfl rfl mo3_15 (Nat.add_zero _).symm (by first | (refine idx_map ?_; first | omega | (simp only [lnS]; omega)) | (refine idx_mapI ?_; first | omega | (simp only [lnS]; omega)) | (refine idx_mapN ?_; first | omega | (simp only [lnS]; omega)) | rfl) y36_sz3 rfl (by exact Nat.le_of_ble_eq_true rfl)) trivial rfl (fun m_17 hm_17 => ?_)
  have mo3_17 := m_set hm_17 mo3_15
  simp only [packA_t, packA_f, iE, bE, setAt, cellsA, Value.cells, map_vc, map_vn, Nat.reduceAdd, qS, jnE, beE, Int.toNat_natCast, toNat_suc, rep_iE, set_iE, addAt_f, subAt_f, devD_f2, wts1_f, wts2_f, wts3_f, wts4_f, wtsL_f] at mo3_17
  have mo2_17 := m_set_o hm_17 mo2_15 (by decide)
  have mo1_17 := m_set_o hm_17 mo1_15 (by decide)
  have mo0_17 := m_set_o hm_17 mo0_15 (by decide)
  have ml_17 := m_set_l hm_17 ml_15
  clear hm_17 mo3_15 mo2_15 mo1_15 mo0_15
  refine al_end (fun e_18 he_18 => ?_)
  have s4_18 := ef 4 he_18 (up_n (up_m rfl (u2 rfl (u4 rfl (u8 rfl s4_16)))))
  have s5_18 := ef 5 he_18 (up_n (up_m rfl (u2 rfl (u4 rfl (u8 rfl s5_16)))))
  have s8_18 := ef 8 he_18 (up_n (up_m rfl (u2 rfl (u4 rfl (u8 rfl s8_16)))))
  have s11_18 := ef 11 he_18 (up_n (up_m rfl (u2 rfl (u4 rfl (u8 rfl s11_16)))))
  have s12_18 := ef 12 he_18 (up_n (up_m rfl (u2 rfl (u4 rfl (u8 rfl s12_16)))))
  have s13_18 := ef 13 he_18 (up_n (up_m rfl (u2 rfl (u4 rfl (u8 rfl s13_16)))))
  have s14_18 := ef 14 he_18 (up_n (up_m rfl (u2 rfl (u4 rfl (u8 rfl s14_16)))))
  have s15_18 := ef 15 he_18 (up_n (up_m rfl (u2 rfl (u4 rfl (u8 rfl s15_16)))))
  have s16_18 := ef 16 he_18 (up_n (up_m rfl (u2 rfl (u4 rfl (u8 rfl s16_16)))))
  clear he_18 s11_16 s12_16 s13_16 s14_16 s15_16 s16_16 s4_16 s5_16 s8_16
  refine then_n ?_
  refine aw_seq ?_
  refine aw_text (by kernel_rfl) ?_
  refine al_ro' (ro_move s16_18) trivial rfl ?_
  refine al_ro' (ro_move (up_m rfl s11_18)) trivial rfl ?_
  (refine al_ro' (ro_add' up_h ev_c ?_) trivial rfl ?_; · (unfold In64; omega))
  refine al_ro' (ro_move (up_m rfl (u2 rfl s16_18))) trivial rfl ?_
  refine al_ro' (ro_move (u4 rfl s11_18)) trivial rfl ?_
  (refine al_ro' (ro_add' up_h ev_c ?_) trivial rfl ?_; · (unfold In64; omega))
  refine al_ro' (ro_ix_own y36_sl60 mo3_17 (u2 rfl up_h) up_h (by omega) (by simp only [lnS] <;> omega)) trivial rfl ?_
  refine al_ro' (ro_eq (ro_ld_el y36_ty3 rfl mo3_17 up_h (by exact Nat.le_of_ble_eq_true rfl) (by refine idx_map ?_; first | omega | (simp only [lnS]; omega))) (by simp only [packA_t, packA_f, iE, bE, setAt, cellsA, Value.cells, map_vc, map_vn, Nat.reduceAdd, qS, jnE, beE, Int.toNat_natCast, toNat_suc, rep_iE, set_iE, addAt_f, subAt_f, devD_f2, wts1_f, wts2_f, wts3_f, wts4_f, wtsL_f] <;> rfl)) trivial rfl ?_
  refine al_ro' (ro_move (u8 rfl s15_18)) trivial rfl ?_
  refine al_ro' (ro_move (up_m rfl (u8 rfl s12_18))) trivial rfl ?_
  (refine al_ro' (ro_mul' (up_m rfl up_h) up_h ?_) trivial rfl ?_; · (unfold In64; omega))
  refine al_ro' (ro_move (up_m rfl (u2 rfl (u8 rfl s13_18)))) trivial rfl ?_
  (refine al_ro' (ro_mul' (up_m rfl up_h) up_h ?_) trivial rfl ?_; · (unfold In64; omega))
  (refine al_ro' (ro_sub' (up_m rfl (u4 rfl up_h)) up_h ?_) trivial rfl ?_; · (unfold In64; omega))
  refine al_ro' (ro_ix_own y36_sl60 mo3_17 (up_m rfl (u4 rfl (u8 rfl up_h))) (up_m rfl (u2 rfl (u8 rfl up_h))) (by omega) (by simp only [lnS] <;> omega)) trivial rfl ?_
  refine al_stm (st_store_el up_h (up_m rfl up_h) rfl rfl rfl mo3_17 (Nat.add_zero _).symm (by refine idx_map ?_; first | omega | (simp only [lnS]; omega)) y36_sz3 rfl (by exact Nat.le_of_ble_eq_true rfl)) trivial rfl (fun m_19 hm_19 => ?_)
  have mo3_19 := m_set hm_19 mo3_17
  simp only [packA_t, packA_f, iE, bE, setAt, cellsA, Value.cells, map_vc, map_vn, Nat.reduceAdd, qS, jnE, beE, Int.toNat_natCast, toNat_suc, rep_iE, set_iE, addAt_f, subAt_f, devD_f2, wts1_f, wts2_f, wts3_f, wts4_f, wtsL_f] at mo3_19
  have mo2_19 := m_set_o hm_19 mo2_17 (by decide)
  have mo1_19 := m_set_o hm_19 mo1_17 (by decide)
  have mo0_19 := m_set_o hm_19 mo0_17 (by decide)
  have ml_19 := m_set_l hm_19 ml_17
  clear hm_19 mo3_17 mo2_17 mo1_17 mo0_17
  refine al_end (fun e_20 he_20 => ?_)
  have s4_20 := ef 4 he_20 (up_n (up_m rfl (u2 rfl (u4 rfl (u8 rfl s4_18)))))
  have s5_20 := ef 5 he_20 (up_n (up_m rfl (u2 rfl (u4 rfl (u8 rfl s5_18)))))
  have s8_20 := ef 8 he_20 (up_n (up_m rfl (u2 rfl (u4 rfl (u8 rfl s8_18)))))
  have s13_20 := ef 13 he_20 (up_n (up_m rfl (u2 rfl (u4 rfl (u8 rfl s13_18)))))
  have s14_20 := ef 14 he_20 (up_n (up_m rfl (u2 rfl (u4 rfl (u8 rfl s14_18)))))
  have s16_20 := ef 16 he_20 (up_n (up_m rfl (u2 rfl (u4 rfl (u8 rfl s16_18)))))
  clear he_20 s11_18 s12_18 s13_18 s14_18 s15_18 s16_18 s4_18 s5_18 s8_18
  refine then_n ?_
  refine aw_seq ?_
  refine aw_text (by kernel_rfl) ?_
  refine al_ro' (ro_assign ev_c) trivial rfl ?_
  refine al_ro' (ro_assign ev_c) trivial rfl ?_
  refine al_end (fun e_21 he_21 => ?_)
  have s4_21 := ef 4 he_21 (u2 rfl s4_20)
  have s5_21 := ef 5 he_21 (u2 rfl s5_20)
  have s8_21 := ef 8 he_21 (u2 rfl s8_20)
  have s13_21 := ef 13 he_21 (u2 rfl s13_20)
  have s14_21 := ef 14 he_21 (u2 rfl s14_20)
  have s16_21 := ef 16 he_21 (u2 rfl s16_20)
  have s17_21 := ef 17 he_21 (up_m rfl up_h)
  have s18_21 := ef 18 he_21 up_h
  clear he_21 s13_20 s14_20 s16_20 s4_20 s5_20 s8_20
  refine then_n ?_
  refine aw_seq ?_
  refine aw_seq ?_
  refine aw_text (by kernel_rfl) ?_
  refine al_ro' (ro_assign ev_c) trivial rfl ?_
  refine al_end (fun e_22 he_22 => ?_)
  have s4_22 := ef 4 he_22 (up_m rfl s4_21)
  have s5_22 := ef 5 he_22 (up_m rfl s5_21)
  have s8_22 := ef 8 he_22 (up_m rfl s8_21)
  have s13_22 := ef 13 he_22 (up_m rfl s13_21)
  have s14_22 := ef 14 he_22 (up_m rfl s14_21)
  have s16_22 := ef 16 he_22 (up_m rfl s16_21)
  have s17_22 := ef 17 he_22 (up_m rfl s17_21)
  have s18_22 := ef 18 he_22 (up_m rfl s18_21)
  have s19_22 := ef 19 he_22 up_h
  clear he_22 s13_21 s14_21 s16_21 s17_21 s18_21 s4_21 s5_21 s8_21
  refine then_n ?_
  refine aw_block ?_
  refine aw_loop (S := (Int × Int × Int)) (fun s e mem => match s with | ⟨i, lo, hi⟩ => (evA e (.tmp 19) = .v (.int .i64 i)) ∧ (evA e (.tmp 17) = .v (.int .i64 lo)) ∧ (evA e (.tmp 18) = .v (.int .i64 hi)) ∧ (evA e (.tmp 4) = evA e_22 (.tmp 4)) ∧ (evA e (.tmp 5) = evA e_22 (.tmp 5)) ∧ (evA e (.tmp 8) = evA e_22 (.tmp 8)) ∧ (evA e (.tmp 13) = evA e_22 (.tmp 13)) ∧ (evA e (.tmp 14) = evA e_22 (.tmp 14)) ∧ (evA e (.tmp 16) = evA e_22 (.tmp 16)) ∧ (mem[3]? = m_19[3]?) ∧ (mem[2]? = m_19[2]?) ∧ (mem[1]? = m_19[1]?) ∧ (mem[0]? = m_19[0]?) ∧ (mem.length = 4) ∧ ((0 ≤ i ∧ i ≤ l.js.length ∧ lo = devS loF (wtsL l L p j) l.js i.toNat ∧ hi = devS hiF (wtsL l L p j) l.js i.toNat))) (fun s => match s with | ⟨i, lo, hi⟩ => (l.js.length - i).toNat) ⟨_, _, _⟩ ⟨s19_22, s17_22, s18_22, rfl, rfl, rfl, rfl, rfl, rfl, rfl, rfl, rfl, rfl, ml_19, ?_⟩ ?_
  · (exact ⟨by omega, by omega, rfl, rfl⟩)
  · rintro ⟨i, lo, hi⟩ e_23 m_23 ⟨s19_23, s17_23, s18_23, k4_23, k5_23, k8_23, k13_23, k14_23, k16_23, mk3_23, mk2_23, mk1_23, mk0_23, ml_23, hinv⟩
    have s4_23 := k4_23.trans s4_22
    have s5_23 := k5_23.trans s5_22
    have s8_23 := k8_23.trans s8_22
    have s13_23 := k13_23.trans s13_22
    have s14_23 := k14_23.trans s14_22
    have s16_23 := k16_23.trans s16_22
    have mo3_23 := mk3_23.trans mo3_19
    have mo2_23 := mk2_23.trans mo2_19
    have mo1_23 := mk1_23.trans mo1_19
    have mo0_23 := mk0_23.trans mo0_19
    (obtain ⟨q1, q2, q3, q4⟩ := hinv)
    refine aw_seq ?_
    refine aw_seq ?_
    refine aw_text (by kernel_rfl) ?_
    refine al_ro' (ro_move s19_23) trivial rfl ?_
    refine al_ro' (ro_move (up_m rfl s16_23)) trivial rfl ?_
    refine al_ro' (ro_eq (ro_len_own up_h mo3_23 rfl y36_sl60.1) (by simp only [lnS] <;> rfl)) trivial rfl ?_
    refine al_ro' (ro_lss (u2 rfl up_h) up_h) trivial rfl ?_
    refine al_end (fun e_24 he_24 => ?_)
    have s4_24 := ef 4 he_24 (u4 rfl s4_23)
    have s5_24 := ef 5 he_24 (u4 rfl s5_23)
    have s8_24 := ef 8 he_24 (u4 rfl s8_23)
    have s13_24 := ef 13 he_24 (u4 rfl s13_23)
    have s14_24 := ef 14 he_24 (u4 rfl s14_23)
    have s16_24 := ef 16 he_24 (u4 rfl s16_23)
    have s17_24 := ef 17 he_24 (u4 rfl s17_23)
    have s18_24 := ef 18 he_24 (u4 rfl s18_23)
    have s19_24 := ef 19 he_24 (u4 rfl s19_23)
    have s142_24 := ef 142 he_24 up_h
    clear he_24 s13_23 s14_23 s16_23 s17_23 s18_23 s19_23 s4_23 s5_23 s8_23
    refine then_n ?_
    refine aw_case s142_24 (fun hq_25 => ?_) (fun hq_25 => ?_)
    ·replace hq_25 := bt hq_25
     (have j2 := h.jnt i.toNat (by omega); have w1 := absP_get (ws := wtsL l L p j) (n := l.js.length) (i := i.toNat) (by omega); have f3 := nat2 (mul_in (x := (wtsL l L p j).getD i.toNat default) (y := (l.js.getD i.toNat default).acr + (l.js.getD i.toNat default).lo) 135000000000000 20100 (Nat.le_trans w1 s5) (by omega)); have f4 := nat2 (mul_in (x := (wtsL l L p j).getD i.toNat default) (y := (l.js.getD i.toNat default).acr + (l.js.getD i.toNat default).hi) 135000000000000 20100 (Nat.le_trans w1 s5) (by omega)); clear w1; have w2 := dev_in h (.inl rfl) s5 (n := i.toNat) (by omega); have w3 := dev_in h (.inr rfl) s5 (n := i.toNat) (by omega))
     refine aw_skip ?_
     refine then_n ?_
     refine aw_seq ?_
     refine aw_block ?_
     refine aw_seq ?_
     refine aw_draw 30 (by kernel_rfl) (by kernel_rfl) (by kernel_rfl) (by kernel_rfl) ?_
     refine ds_ro' (ro_fld_ptr y36_fl26_1 rfl s4_24) trivial rfl ?_
     refine ds_ro' (ro_eq (ro_ld_ptr y36_ty22 rfl mo0_23 up_h (by exact Nat.le_of_ble_eq_true rfl)) (by simp only [packA_t, packA_f, iE, bE, setAt, cellsA, Value.cells, map_vc, map_vn, Nat.reduceAdd, qS, jnE, beE, Int.toNat_natCast, toNat_suc, rep_iE, set_iE, addAt_f, subAt_f, devD_f2, wts1_f, wts2_f, wts3_f, wts4_f, wtsL_f] <;> rfl)) trivial rfl ?_
     refine ds_ro' (ro_move (u2 rfl s19_24)) trivial rfl ?_
     refine ds_ro' (ro_eq (ro_ix y36_sl22 (up_m rfl up_h) up_h (by omega) (by first | (refine idx_map ?_; first | omega | (simp only [lnS]; omega)) | (refine idx_mapI ?_; first | omega | (simp only [lnS]; omega)) | (refine idx_mapN ?_; first | omega | (simp only [lnS]; omega)) | rfl)) (by simp only [packA_t, packA_f, iE, bE, setAt, cellsA, Value.cells, map_vc, map_vn, Nat.reduceAdd, qS, jnE, beE, Int.toNat_natCast, toNat_suc, rep_iE, set_iE, addAt_f, subAt_f, devD_f2, wts1_f, wts2_f, wts3_f, wts4_f, wtsL_f] <;> rfl)) trivial rfl ?_
     refine ds_ro' (ro_eq (ro_fld_ref y36_fl42_0 rfl up_h) (by simp only [packA_t, packA_f, iE, bE, setAt, cellsA, Value.cells, map_vc, map_vn, Nat.reduceAdd, qS, jnE, beE, Int.toNat_natCast, toNat_suc, rep_iE, set_iE, addAt_f, subAt_f, devD_f2, wts1_f, wts2_f, wts3_f, wts4_f, wtsL_f] <;> rfl)) trivial rfl ?_
     refine ds_ro' (ro_eq (ro_ld_ref y36_ty3 rfl up_h (by exact Nat.le_of_ble_eq_true rfl)) (by simp only [packA_t, packA_f, iE, bE, setAt, cellsA, Value.cells, map_vc, map_vn, Nat.reduceAdd, qS, jnE, beE, Int.toNat_natCast, toNat_suc, rep_iE, set_iE, addAt_f, subAt_f, devD_f2, wts1_f, wts2_f, wts3_f, wts4_f, wtsL_f] <;> rfl)) trivial rfl ?_
     refine ds_ro' (ro_fld_ptr y36_fl26_1 rfl (u2 rfl (u4 rfl s4_24))) trivial rfl ?_
     refine ds_ro' (ro_eq (ro_ld_ptr y36_ty22 rfl mo0_23 up_h (by exact Nat.le_of_ble_eq_true rfl)) (by simp only [packA_t, packA_f, iE, bE, setAt, cellsA, Value.cells, map_vc, map_vn, Nat.reduceAdd, qS, jnE, beE, Int.toNat_natCast, toNat_suc, rep_iE, set_iE, addAt_f, subAt_f, devD_f2, wts1_f, wts2_f, wts3_f, wts4_f, wtsL_f] <;> rfl)) trivial rfl ?_
     refine ds_ro' (ro_move (u8 rfl s19_24)) trivial rfl ?_
     refine ds_ro' (ro_eq (ro_ix y36_sl22 (up_m rfl up_h) up_h (by omega) (by first | (refine idx_map ?_; first | omega | (simp only [lnS]; omega)) | (refine idx_mapI ?_; first | omega | (simp only [lnS]; omega)) | (refine idx_mapN ?_; first | omega | (simp only [lnS]; omega)) | rfl)) (by simp only [packA_t, packA_f, iE, bE, setAt, cellsA, Value.cells, map_vc, map_vn, Nat.reduceAdd, qS, jnE, beE, Int.toNat_natCast, toNat_suc, rep_iE, set_iE, addAt_f, subAt_f, devD_f2, wts1_f, wts2_f, wts3_f, wts4_f, wtsL_f] <;> rfl)) trivial rfl ?_
     refine ds_ro' (ro_eq (ro_fld_ref y36_fl42_2 rfl up_h) (by simp only [packA_t, packA_f, iE, bE, setAt, cellsA, Value.cells, map_vc, map_vn, Nat.reduceAdd, qS, jnE, beE, Int.toNat_natCast, toNat_suc, rep_iE, set_iE, addAt_f, subAt_f, devD_f2, wts1_f, wts2_f, wts3_f, wts4_f, wtsL_f] <;> rfl)) trivial rfl ?_
     refine ds_ro' (ro_eq (ro_fld_ref y36_fl40_0 rfl up_h) (by simp only [packA_t, packA_f, iE, bE, setAt, cellsA, Value.cells, map_vc, map_vn, Nat.reduceAdd, qS, jnE, beE, Int.toNat_natCast, toNat_suc, rep_iE, set_iE, addAt_f, subAt_f, devD_f2, wts1_f, wts2_f, wts3_f, wts4_f, wtsL_f] <;> rfl)) trivial rfl ?_
     refine ds_ro' (ro_eq (ro_ld_ref y36_ty3 rfl up_h (by exact Nat.le_of_ble_eq_true rfl)) (by simp only [packA_t, packA_f, iE, bE, setAt, cellsA, Value.cells, map_vc, map_vn, Nat.reduceAdd, qS, jnE, beE, Int.toNat_natCast, toNat_suc, rep_iE, set_iE, addAt_f, subAt_f, devD_f2, wts1_f, wts2_f, wts3_f, wts4_f, wtsL_f] <;> rfl)) trivial rfl ?_
     (refine ds_ro' (ro_add' (up_m rfl (u2 rfl (u4 rfl up_h))) up_h ?_) trivial rfl ?_; · (unfold In64; omega))
     refine ds_ro' (ro_fld_ptr y36_fl26_1 rfl (u2 rfl (u4 rfl (u8 rfl s4_24)))) trivial rfl ?_
     refine ds_ro' (ro_eq (ro_ld_ptr y36_ty22 rfl mo0_23 up_h (by exact Nat.le_of_ble_eq_true rfl)) (by simp only [packA_t, packA_f, iE, bE, setAt, cellsA, Value.cells, map_vc, map_vn, Nat.reduceAdd, qS, jnE, beE, Int.toNat_natCast, toNat_suc, rep_iE, set_iE, addAt_f, subAt_f, devD_f2, wts1_f, wts2_f, wts3_f, wts4_f, wtsL_f] <;> rfl)) trivial rfl ?_
     refine ds_ro' (ro_move (u16 rfl s19_24)) trivial rfl ?_
     refine ds_ro' (ro_eq (ro_ix y36_sl22 (up_m rfl up_h) up_h (by omega) (by first | (refine idx_map ?_; first | omega | (simp only [lnS]; omega)) | (refine idx_mapI ?_; first | omega | (simp only [lnS]; omega)) | (refine idx_mapN ?_; first | omega | (simp only [lnS]; omega)) | rfl)) (by simp only [packA_t, packA_f, iE, bE, setAt, cellsA, Value.cells, map_vc, map_vn, Nat.reduceAdd, qS, jnE, beE, Int.toNat_natCast, toNat_suc, rep_iE, set_iE, addAt_f, subAt_f, devD_f2, wts1_f, wts2_f, wts3_f, wts4_f, wtsL_f] <;> rfl)) trivial rfl ?_
     refine ds_ro' (ro_eq (ro_fld_ref y36_fl42_0 rfl up_h) (by simp only [packA_t, packA_f, iE, bE, setAt, cellsA, Value.cells, map_vc, map_vn, Nat.reduceAdd, qS, jnE, beE, Int.toNat_natCast, toNat_suc, rep_iE, set_iE, addAt_f, subAt_f, devD_f2, wts1_f, wts2_f, wts3_f, wts4_f, wtsL_f] <;> rfl)) trivial rfl ?_
     refine ds_ro' (ro_eq (ro_ld_ref y36_ty3 rfl up_h (by exact Nat.le_of_ble_eq_true rfl)) (by simp only [packA_t, packA_f, iE, bE, setAt, cellsA, Value.cells, map_vc, map_vn, Nat.reduceAdd, qS, jnE, beE, Int.toNat_natCast, toNat_suc, rep_iE, set_iE, addAt_f, subAt_f, devD_f2, wts1_f, wts2_f, wts3_f, wts4_f, wtsL_f] <;> rfl)) trivial rfl ?_
     refine ds_ro' (ro_fld_ptr y36_fl26_1 rfl (u4 rfl (u16 rfl s4_24))) trivial rfl ?_
     refine ds_ro' (ro_eq (ro_ld_ptr y36_ty22 rfl mo0_23 up_h (by exact Nat.le_of_ble_eq_true rfl)) (by simp only [packA_t, packA_f, iE, bE, setAt, cellsA, Value.cells, map_vc, map_vn, Nat.reduceAdd, qS, jnE, beE, Int.toNat_natCast, toNat_suc, rep_iE, set_iE, addAt_f, subAt_f, devD_f2, wts1_f, wts2_f, wts3_f, wts4_f, wtsL_f] <;> rfl)) trivial rfl ?_
     refine ds_ro' (ro_move (u2 rfl (u4 rfl (u16 rfl s19_24)))) trivial rfl ?_
     refine ds_ro' (ro_eq (ro_ix y36_sl22 (up_m rfl up_h) up_h (by omega) (by first | (refine idx_map ?_; first | omega | (simp only [lnS]; omega)) | (refine idx_mapI ?_; first | omega | (simp only [lnS]; omega)) | (refine idx_mapN ?_; first | omega | (simp only [lnS]; omega)) | rfl)) (by simp only [packA_t, packA_f, iE, bE, setAt, cellsA, Value.cells, map_vc, map_vn, Nat.reduceAdd, qS, jnE, beE, Int.toNat_natCast, toNat_suc, rep_iE, set_iE, addAt_f, subAt_f, devD_f2, wts1_f, wts2_f, wts3_f, wts4_f, wtsL_f] <;> rfl)) trivial rfl ?_
     refine ds_ro' (ro_eq (ro_fld_ref y36_fl42_2 rfl up_h) (by simp only [packA_t, packA_f, iE, bE, setAt, cellsA, Value.cells, map_vc, map_vn, Nat.reduceAdd, qS, jnE, beE, Int.toNat_natCast, toNat_suc, rep_iE, set_iE, addAt_f, subAt_f, devD_f2, wts1_f, wts2_f, wts3_f, wts4_f, wtsL_f] <;> rfl)) trivial rfl ?_
     refine ds_ro' (ro_eq (ro_fld_ref y36_fl40_1 rfl up_h) (by simp only [packA_t, packA_f, iE, bE, setAt, cellsA, Value.cells, map_vc, map_vn, Nat.reduceAdd, qS, jnE, beE, Int.toNat_natCast, toNat_suc, rep_iE, set_iE, addAt_f, subAt_f, devD_f2, wts1_f, wts2_f, wts3_f, wts4_f, wtsL_f] <;> rfl)) trivial rfl ?_
     refine ds_ro' (ro_eq (ro_ld_ref y36_ty3 rfl up_h (by exact Nat.le_of_ble_eq_true rfl)) (by simp only [packA_t, packA_f, iE, bE, setAt, cellsA, Value.cells, map_vc, map_vn, Nat.reduceAdd, qS, jnE, beE, Int.toNat_natCast, toNat_suc, rep_iE, set_iE, addAt_f, subAt_f, devD_f2, wts1_f, wts2_f, wts3_f, wts4_f, wtsL_f] <;> rfl)) trivial rfl ?_
     (refine ds_ro' (ro_add' (up_m rfl (u2 rfl (u4 rfl up_h))) up_h ?_) trivial rfl ?_; · (unfold In64; omega))
     refine ds_ro' (ro_assign (u2 rfl (u4 rfl (u8 rfl up_h)))) trivial rfl ?_
     refine ds_ro' (ro_assign (up_m rfl up_h)) trivial rfl ?_
     refine ds_nil ?_
     refine al_end (fun e_26 he_26 => ?_)
     have s4_26 := ef 4 he_26 (u2 rfl (u4 rfl (u8 rfl (u16 rfl s4_24))))
     have s5_26 := ef 5 he_26 (u2 rfl (u4 rfl (u8 rfl (u16 rfl s5_24))))
     have s8_26 := ef 8 he_26 (u2 rfl (u4 rfl (u8 rfl (u16 rfl s8_24))))
     have s13_26 := ef 13 he_26 (u2 rfl (u4 rfl (u8 rfl (u16 rfl s13_24))))
     have s14_26 := ef 14 he_26 (u2 rfl (u4 rfl (u8 rfl (u16 rfl s14_24))))
     have s16_26 := ef 16 he_26 (u2 rfl (u4 rfl (u8 rfl (u16 rfl s16_24))))
     have s17_26 := ef 17 he_26 (u2 rfl (u4 rfl (u8 rfl (u16 rfl s17_24))))
     have s18_26 := ef 18 he_26 (u2 rfl (u4 rfl (u8 rfl (u16 rfl s18_24))))
     have s19_26 := ef 19 he_26 (u2 rfl (u4 rfl (u8 rfl (u16 rfl s19_24))))
     have s20_26 := ef 20 he_26 (up_m rfl up_h)
     have s21_26 := ef 21 he_26 up_h
     clear he_26 s13_24 s142_24 s14_24 s16_24 s17_24 s18_24 s19_24 s4_24 s5_24 s8_24
     refine then_n ?_
     refine aw_seq ?_
     refine aw_draw 16 (by kernel_rfl) (by kernel_rfl) (by kernel_rfl) (by kernel_rfl) ?_
     refine ds_ro' (ro_move s17_26) trivial rfl ?_
     refine ds_ro' (ro_move (up_m rfl s16_26)) trivial rfl ?_
     refine ds_ro' (ro_move (u2 rfl s19_26)) trivial rfl ?_
     refine ds_ro' (ro_ix_own y36_sl60 mo3_23 (up_m rfl up_h) up_h (by omega) (by simp only [lnS] <;> omega)) trivial rfl ?_
     refine ds_ro' (ro_eq (ro_ld_el y36_ty3 rfl mo3_23 up_h (by exact Nat.le_of_ble_eq_true rfl) (by first | (refine idx_map ?_; first | omega | (simp only [lnS]; omega)) | (refine idx_mapI ?_; first | omega | (simp only [lnS]; omega)) | (refine idx_mapN ?_; first | omega | (simp only [lnS]; omega)) | rfl)) (by simp only [packA_t, packA_f, iE, bE, setAt, cellsA, Value.cells, map_vc, map_vn, Nat.reduceAdd, qS, jnE, beE, Int.toNat_natCast, toNat_suc, rep_iE, set_iE, addAt_f, subAt_f, devD_f2, wts1_f, wts2_f, wts3_f, wts4_f, wtsL_f] <;> rfl)) trivial rfl ?_
     refine ds_ro' (ro_move (up_m rfl (u4 rfl s20_26))) trivial rfl ?_
     (refine ds_ro' (ro_mul' (up_m rfl up_h) up_h ?_) trivial rfl ?_; · (unfold In64; omega))
     refine ds_ro' (ro_move (up_m rfl (u2 rfl (u4 rfl s16_26)))) trivial rfl ?_
     refine ds_ro' (ro_move (u8 rfl s19_26)) trivial rfl ?_
     refine ds_ro' (ro_ix_own y36_sl60 mo3_23 (up_m rfl up_h) up_h (by omega) (by simp only [lnS] <;> omega)) trivial rfl ?_
     refine ds_ro' (ro_eq (ro_ld_el y36_ty3 rfl mo3_23 up_h (by exact Nat.le_of_ble_eq_true rfl) (by first | (refine idx_map ?_; first | omega | (simp only [lnS]; omega)) | (refine idx_mapI ?_; first | omega | (simp only [lnS]; omega)) | (refine idx_mapN ?_; first | omega | (simp only [lnS]; omega)) | rfl)) (by simp only [packA_t, packA_f, iE, bE, setAt, cellsA, Value.cells, map_vc, map_vn, Nat.reduceAdd, qS, jnE, beE, Int.toNat_natCast, toNat_suc, rep_iE, set_iE, addAt_f, subAt_f, devD_f2, wts1_f, wts2_f, wts3_f, wts4_f, wtsL_f] <;> rfl)) trivial rfl ?_
     refine ds_ro' (ro_move (up_m rfl (u2 rfl (u8 rfl s21_26)))) trivial rfl ?_
     (refine ds_ro' (ro_mul' (up_m rfl up_h) up_h ?_) trivial rfl ?_; · (unfold In64; omega))
     refine ds_ro' (ro_min (u2 rfl (u4 rfl up_h)) up_h) trivial rfl ?_
     (refine ds_ro' (ro_add' (up_m rfl (u4 rfl (u8 rfl up_h))) up_h ?_) trivial rfl ?_; · (unfold In64; omega))
     refine ds_ro' (ro_assign up_h) trivial rfl ?_
     refine ds_nil ?_
     refine al_end (fun e_27 he_27 => ?_)
     have s4_27 := ef 4 he_27 (u16 rfl s4_26)
     have s5_27 := ef 5 he_27 (u16 rfl s5_26)
     have s8_27 := ef 8 he_27 (u16 rfl s8_26)
     have s13_27 := ef 13 he_27 (u16 rfl s13_26)
     have s14_27 := ef 14 he_27 (u16 rfl s14_26)
     have s16_27 := ef 16 he_27 (u16 rfl s16_26)
     have s17_27 := ef 17 he_27 up_h
     have s18_27 := ef 18 he_27 (u16 rfl s18_26)
     have s19_27 := ef 19 he_27 (u16 rfl s19_26)
     have s20_27 := ef 20 he_27 (u16 rfl s20_26)
     have s21_27 := ef 21 he_27 (u16 rfl s21_26)
     clear he_27 s13_26 s14_26 s16_26 s17_26 s18_26 s19_26 s20_26 s21_26 s4_26 s5_26 s8_26
     refine then_n ?_
     refine aw_draw 16 (by kernel_rfl) (by kernel_rfl) (by kernel_rfl) (by kernel_rfl) ?_
     refine ds_ro' (ro_move s18_27) trivial rfl ?_
     refine ds_ro' (ro_move (up_m rfl s16_27)) trivial rfl ?_
     refine ds_ro' (ro_move (u2 rfl s19_27)) trivial rfl ?_
     refine ds_ro' (ro_ix_own y36_sl60 mo3_23 (up_m rfl up_h) up_h (by omega) (by simp only [lnS] <;> omega)) trivial rfl ?_
     refine ds_ro' (ro_eq (ro_ld_el y36_ty3 rfl mo3_23 up_h (by exact Nat.le_of_ble_eq_true rfl) (by first | (refine idx_map ?_; first | omega | (simp only [lnS]; omega)) | (refine idx_mapI ?_; first | omega | (simp only [lnS]; omega)) | (refine idx_mapN ?_; first | omega | (simp only [lnS]; omega)) | rfl)) (by simp only [packA_t, packA_f, iE, bE, setAt, cellsA, Value.cells, map_vc, map_vn, Nat.reduceAdd, qS, jnE, beE, Int.toNat_natCast, toNat_suc, rep_iE, set_iE, addAt_f, subAt_f, devD_f2, wts1_f, wts2_f, wts3_f, wts4_f, wtsL_f] <;> rfl)) trivial rfl ?_
     refine ds_ro' (ro_move (up_m rfl (u4 rfl s20_27))) trivial rfl ?_
     (refine ds_ro' (ro_mul' (up_m rfl up_h) up_h ?_) trivial rfl ?_; · (unfold In64; omega))
     refine ds_ro' (ro_move (up_m rfl (u2 rfl (u4 rfl s16_27)))) trivial rfl ?_
     refine ds_ro' (ro_move (u8 rfl s19_27)) trivial rfl ?_
     refine ds_ro' (ro_ix_own y36_sl60 mo3_23 (up_m rfl up_h) up_h (by omega) (by simp only [lnS] <;> omega)) trivial rfl ?_
     refine ds_ro' (ro_eq (ro_ld_el y36_ty3 rfl mo3_23 up_h (by exact Nat.le_of_ble_eq_true rfl) (by first | (refine idx_map ?_; first | omega | (simp only [lnS]; omega)) | (refine idx_mapI ?_; first | omega | (simp only [lnS]; omega)) | (refine idx_mapN ?_; first | omega | (simp only [lnS]; omega)) | rfl)) (by simp only [packA_t, packA_f, iE, bE, setAt, cellsA, Value.cells, map_vc, map_vn, Nat.reduceAdd, qS, jnE, beE, Int.toNat_natCast, toNat_suc, rep_iE, set_iE, addAt_f, subAt_f, devD_f2, wts1_f, wts2_f, wts3_f, wts4_f, wtsL_f] <;> rfl)) trivial rfl ?_
     refine ds_ro' (ro_move (up_m rfl (u2 rfl (u8 rfl s21_27)))) trivial rfl ?_
     (refine ds_ro' (ro_mul' (up_m rfl up_h) up_h ?_) trivial rfl ?_; · (unfold In64; omega))
     refine ds_ro' (ro_max (u2 rfl (u4 rfl up_h)) up_h) trivial rfl ?_
     (refine ds_ro' (ro_add' (up_m rfl (u4 rfl (u8 rfl up_h))) up_h ?_) trivial rfl ?_; · (unfold In64; omega))
     refine ds_ro' (ro_assign up_h) trivial rfl ?_
     refine ds_nil ?_
     refine al_end (fun e_28 he_28 => ?_)
     have s4_28 := ef 4 he_28 (u16 rfl s4_27)
     have s5_28 := ef 5 he_28 (u16 rfl s5_27)
     have s8_28 := ef 8 he_28 (u16 rfl s8_27)
     have s13_28 := ef 13 he_28 (u16 rfl s13_27)
     have s14_28 := ef 14 he_28 (u16 rfl s14_27)
     have s16_28 := ef 16 he_28 (u16 rfl s16_27)
     have s17_28 := ef 17 he_28 (u16 rfl s17_27)
     have s18_28 := ef 18 he_28 up_h
     have s19_28 := ef 19 he_28 (u16 rfl s19_27)
     clear he_28 s13_27 s14_27 s16_27 s17_27 s18_27 s19_27 s20_27 s21_27 s4_27 s5_27 s8_27
     refine block_n ?_
     refine then_n ?_
     refine aw_text (by kernel_rfl) ?_
     refine al_ro' (ro_move s19_28) trivial rfl ?_
     (refine al_ro' (ro_add' up_h ev_c ?_) trivial rfl ?_; · (unfold In64; omega))
     refine al_ro' (ro_assign up_h) trivial rfl ?_
     refine al_end (fun e_29 he_29 => ?_)
     have s4_29 := ef 4 he_29 (up_m rfl (u2 rfl s4_28))
     have s5_29 := ef 5 he_29 (up_m rfl (u2 rfl s5_28))
     have s8_29 := ef 8 he_29 (up_m rfl (u2 rfl s8_28))
     have s13_29 := ef 13 he_29 (up_m rfl (u2 rfl s13_28))
     have s14_29 := ef 14 he_29 (up_m rfl (u2 rfl s14_28))
     have s16_29 := ef 16 he_29 (up_m rfl (u2 rfl s16_28))
     have s17_29 := ef 17 he_29 (up_m rfl (u2 rfl s17_28))
     have s18_29 := ef 18 he_29 (up_m rfl (u2 rfl s18_28))
     have s19_29 := ef 19 he_29 up_h
     clear he_29 s13_28 s14_28 s16_28 s17_28 s18_28 s19_28 s4_28 s5_28 s8_28
     refine then_n ?_
     refine ⟨⟨_, _, _⟩, ⟨s19_29, s17_29, s18_29, (s4_29.trans s4_22.symm), (s5_29.trans s5_22.symm), (s8_29.trans s8_22.symm), (s13_29.trans s13_22.symm), (s14_29.trans s14_22.symm), (s16_29.trans s16_22.symm), (mo3_23.trans mo3_19.symm), (mo2_23.trans mo2_19.symm), (mo1_23.trans mo1_19.symm), (mo0_23.trans mo0_19.symm), ml_23, ?_⟩, ?_⟩
     · (refine ⟨by omega, by omega, ?_, ?_⟩ <;> (rw [show (i + 1).toNat = i.toNat + 1 by omega]; first | (rw [q3, (loF_2 _ _).1]; rfl) | (rw [q4, (loF_2 _ _).2]; rfl)))
     · ((try dsimp only); omega)
    replace hq_25 := bf hq_25
    (have hi' : i.toNat = l.js.length := (by omega); rw [hi'] at q3 q4; have w2 := dev_in h (.inl rfl) s5 (n := l.js.length) (Nat.le_refl _); have w3 := dev_in h (.inr rfl) s5 (n := l.js.length) (Nat.le_refl _))
    refine aw_exit ?_
    refine then_x ?_
    refine then_x ?_
    refine block_hit ?_
    refine then_n ?_
    refine aw_seq ?_
    refine aw_text (by kernel_rfl) ?_
    refine al_ro' (ro_fld_ptr y36_fl52_0 rfl s5_24) trivial rfl ?_
    refine al_ro' (ro_eq (ro_ld_ptr y36_ty3 rfl mo1_23 up_h (by exact Nat.le_of_ble_eq_true rfl)) (by simp only [packA_t, packA_f, iE, bE, setAt, cellsA, Value.cells, map_vc, map_vn, Nat.reduceAdd, qS, jnE, beE, Int.toNat_natCast, toNat_suc, rep_iE, set_iE, addAt_f, subAt_f, devD_f2, wts1_f, wts2_f, wts3_f, wts4_f, wtsL_f] <;> rfl)) trivial rfl ?_
    refine al_ro' (ro_move (u2 rfl s13_24)) trivial rfl ?_
    (refine al_ro' (ro_mul' (up_m rfl up_h) up_h ?_) trivial rfl ?_; · (unfold In64; omega))
    refine al_ro' (ro_move (u4 rfl s14_24)) trivial rfl ?_
    (refine al_ro' (ro_mul' (up_m rfl up_h) up_h ?_) trivial rfl ?_; · (unfold In64; omega))
    refine al_ro' (ro_assign up_h) trivial rfl ?_
    refine al_end (fun e_30 he_30 => ?_)
    have s8_30 := ef 8 he_30 (up_m rfl (u2 rfl (u4 rfl s8_24)))
    have s17_30 := ef 17 he_30 (up_m rfl (u2 rfl (u4 rfl s17_24)))
    have s18_30 := ef 18 he_30 (up_m rfl (u2 rfl (u4 rfl s18_24)))
    have s22_30 := ef 22 he_30 up_h
    clear he_30 s13_24 s142_24 s14_24 s16_24 s17_24 s18_24 s19_24 s4_24 s5_24 s8_24
    refine then_n ?_
    refine aw_seq ?_
    refine aw_text (by kernel_rfl) ?_
    refine al_ro' (ro_move s17_30) trivial rfl ?_
    refine al_ro' (ro_move (up_m rfl s22_30)) trivial rfl ?_
    refine al_ro' (ro_call (evL_cons (up_m rfl up_h) (evL_cons up_h evL_nil)) rfl (bFloor_ok _ _ (by rw [devD_f2]; exact d0) (by omega)) y36_hcf83) trivial rfl ?_
    refine al_ro' (ro_move (up_m rfl (u2 rfl s18_30))) trivial rfl ?_
    refine al_ro' (ro_move (u4 rfl s22_30)) trivial rfl ?_
    refine al_ro' (ro_call (evL_cons (up_m rfl up_h) (evL_cons up_h evL_nil)) rfl (bCeil_ok _ _ (by rw [devD_f2]; exact d0) (by omega)) y36_hcf84) trivial rfl ?_
    refine al_ro' (ro_build (evP_cons (up_m rfl (u2 rfl up_h)) (evP_cons up_h evP_nil)) y36_bz40 y36_bu40 y36_bp40 rfl) trivial rfl ?_
    refine al_stm (st_store (up_m rfl (u2 rfl (u4 rfl s8_30))) up_h rfl rfl mo2_23 y36_sz40 rfl (by exact Nat.le_of_ble_eq_true rfl)) trivial rfl (fun m_31 hm_31 => ?_)
    have mo2_31 := m_set hm_31 mo2_23
    simp only [packA_t, packA_f, iE, bE, setAt, cellsA, Value.cells, map_vc, map_vn, Nat.reduceAdd, qS, jnE, beE, Int.toNat_natCast, toNat_suc, rep_iE, set_iE, addAt_f, subAt_f, devD_f2, wts1_f, wts2_f, wts3_f, wts4_f, wtsL_f] at mo2_31
    have mo3_31 := m_set_o hm_31 mo3_23 (by decide)
    have mo1_31 := m_set_o hm_31 mo1_23 (by decide)
    have mo0_31 := m_set_o hm_31 mo0_23 (by decide)
    have ml_31 := m_set_l hm_31 ml_23
    clear hm_31 mo3_23 mo2_23 mo1_23 mo0_23
    refine al_end (fun e_32 he_32 => ?_)
    have s8_32 := ef 8 he_32 (up_n (up_m rfl (u2 rfl (u4 rfl s8_30))))
    clear he_32 s17_30 s18_30 s22_30 s8_30
    refine then_n ?_
    refine aw_ret ?_
    refine ret1 (.inr rfl) (by kernel_rfl) (resV_cell s8_32 mo2_31 y36_ty40 (by exact Nat.le_of_ble_eq_true rfl) (by simp)) (vw_r (.ro _ rfl)) ?_
    clear s8_32 mo2_31 mo3_31 mo1_31 mo0_31 ml_31
    (rw [q3, q4]; unfold devLo devHi; rw [← devD_f2]; rfl)
end Go.Proofs.Ytknclifdncmgpaa

/- Contracts of chapter 1: whether the program is awake. No conditions on a program. -/
namespace Go.Proofs.Ytknclifdncmgpaa
open Go Go.RowKit Go.Proofs
set_option linter.unusedSimpArgs false
set_option linter.unusedVariables false
theorem y27_az26 : (Try.prog.info? 26).bind (·.zero) = some (.agg #[.string ByteArray.empty, .slice none 0 0, .slice none 0 0, .slice none 0 0]) := by kernel_rfl
theorem y27_az40 : (Try.prog.info? 40).bind (·.zero) = some (.agg #[.int .i64 0, .int .i64 0]) := by kernel_rfl
theorem y27_bz53 : (Try.prog.info? 53).bind (·.zero) = some (.agg #[.int .i64 0, .int .i64 0]) := by kernel_rfl
theorem y27_bu53 : Try.prog.underlying 53 = some (.array 2 3) := by kernel_rfl
theorem y27_bp53 : (Try.prog.info? 3).map (·.size) = some 1 := by kernel_rfl
theorem y27_bz26 : (Try.prog.info? 26).bind (·.zero) = some (.agg #[.string ByteArray.empty, .slice none 0 0, .slice none 0 0, .slice none 0 0]) := by kernel_rfl
theorem y27_bu26 : Try.prog.underlying 26 = some (.struct (fsOf Try.prog 26)) := by kernel_rfl
theorem y27_bp26 : ∀ w, ((fsOf Try.prog 26).mapM fun f => Prod.mk f.offset <$> sizeOf f.type : Sem (Array (Nat × Nat))).run Try.prog w = .ok (#[(0, 1), (1, 1), (2, 1), (3, 1)]) w := fun _ => by kernel_rfl
theorem y27_bz40 : (Try.prog.info? 40).bind (·.zero) = some (.agg #[.int .i64 0, .int .i64 0]) := by kernel_rfl
theorem y27_bu40 : Try.prog.underlying 40 = some (.struct (fsOf Try.prog 40)) := by kernel_rfl
theorem y27_bp40 : ∀ w, ((fsOf Try.prog 40).mapM fun f => Prod.mk f.offset <$> sizeOf f.type : Sem (Array (Nat × Nat))).run Try.prog w = .ok (#[(0, 1), (1, 1)]) w := fun _ => by kernel_rfl
theorem y27_bz42 : (Try.prog.info? 42).bind (·.zero) = some (.agg #[.int .i64 0, .int .i64 0, .int .i64 0, .int .i64 0]) := by kernel_rfl
theorem y27_bu42 : Try.prog.underlying 42 = some (.struct (fsOf Try.prog 42)) := by kernel_rfl
theorem y27_bp42 : ∀ w, ((fsOf Try.prog 42).mapM fun f => Prod.mk f.offset <$> sizeOf f.type : Sem (Array (Nat × Nat))).run Try.prog w = .ok (#[(0, 1), (1, 1), (2, 2)]) w := fun _ => by kernel_rfl
theorem y27_bz47 : (Try.prog.info? 47).bind (·.zero) = some (.agg #[.int .i64 0, .int .i64 0]) := by kernel_rfl
theorem y27_bu47 : Try.prog.underlying 47 = some (.struct (fsOf Try.prog 47)) := by kernel_rfl
theorem y27_bp47 : ∀ w, ((fsOf Try.prog 47).mapM fun f => Prod.mk f.offset <$> sizeOf f.type : Sem (Array (Nat × Nat))).run Try.prog w = .ok (#[(0, 1), (1, 1)]) w := fun _ => by kernel_rfl
theorem y27_bz52 : (Try.prog.info? 52).bind (·.zero) = some (.agg #[.int .i64 0, .int .i64 0, .int .i64 0]) := by kernel_rfl
theorem y27_bu52 : Try.prog.underlying 52 = some (.struct (fsOf Try.prog 52)) := by kernel_rfl
theorem y27_bp52 : ∀ w, ((fsOf Try.prog 52).mapM fun f => Prod.mk f.offset <$> sizeOf f.type : Sem (Array (Nat × Nat))).run Try.prog w = .ok (#[(0, 1), (1, 1), (2, 1)]) w := fun _ => by kernel_rfl
theorem y27_hcf27 : ∀ args w, (callFunc 27 args).run Try.prog w = .ok (.enter 27 args) w := fun _ _ => by kernel_rfl
theorem y27_hcf49 : ∀ args w, (callFunc 49 args).run Try.prog w = .ok (.enter 49 args) w := fun _ _ => by kernel_rfl
theorem y27_hcf58 : ∀ args w, (callFunc 58 args).run Try.prog w = .ok (.enter 58 args) w := fun _ _ => by kernel_rfl
theorem y27_hcf63 : ∀ args w, (callFunc 63 args).run Try.prog w = .ok (.enter 63 args) w := fun _ _ => by kernel_rfl
theorem y27_sl22 : SlIs Try.prog 22 42 4 32 (.agg #[.int .i64 0, .int .i64 0, .int .i64 0, .int .i64 0]) := ⟨by kernel_rfl, by kernel_rfl, by kernel_rfl⟩
theorem y27_sl23 : SlIs Try.prog 23 47 2 16 (.agg #[.int .i64 0, .int .i64 0]) := ⟨by kernel_rfl, by kernel_rfl, by kernel_rfl⟩
theorem y27_sz26 : (Try.prog.info? 26).map (·.size) = some 4 := by kernel_rfl
theorem y27_sz40 : (Try.prog.info? 40).map (·.size) = some 2 := by kernel_rfl
theorem y27_ty26 : TyIs Try.prog 26 true 4 := ⟨by kernel_rfl, by kernel_rfl⟩
theorem y27_ty40 : TyIs Try.prog 40 true 2 := ⟨by kernel_rfl, by kernel_rfl⟩

def lin0 : Lin := ⟨⟨#[115, 104, 111, 114, 116]⟩, [⟨0, 0, 0, 0⟩, ⟨0, 100, 0, 0⟩, ⟨200, 100, 0, 0⟩], [⟨10000, 0⟩, ⟨10000, 100⟩], []⟩
set_option maxRecDepth 100000 in
set_option maxHeartbeats 1000000 in
theorem lin0_ok : FnOk Try.prog 63 [] (fun q => q = lnA lin0) := by
  refine fnOk_of (fn := Try.f63) 9 (by kernel_rfl) rfl (by kernel_rfl) (Nat.le_of_ble_eq_true rfl) ?_
  intro e_0 m_0 hA hm_0
  have ml_0 : m_0.length = 0 := by rw [hm_0]; rfl
  clear hA hm_0
  refine aw_seq ?_
  refine aw_text (by kernel_rfl) ?_
  refine al_stm (st_alloc y27_az26 rfl ml_0) trivial rfl (fun m_1 hm_1 => ?_)
  have mo0_1 := m_push hm_1 ml_0
  simp only [packA_t, packA_f, iE, bE, setAt, cellsA, Value.cells, map_vc, map_vn, Nat.reduceAdd, qS] at mo0_1
  have ml_1 := m_push_l hm_1 ml_0
  have ml_1 : _ = 1 := ml_1
  clear hm_1
  refine al_end (fun e_2 he_2 => ?_)
  have s0_2 := ef 0 he_2 up_h
  clear he_2
  refine then_n ?_
  refine aw_seq ?_
  refine aw_text (by kernel_rfl) ?_
  refine al_ro' (ro_build evP_nil y27_bz42 y27_bu42 y27_bp42 rfl) trivial rfl ?_
  refine al_ro' (ro_build (evP_cons ev_c evP_nil) y27_bz42 y27_bu42 y27_bp42 rfl) trivial rfl ?_
  refine al_ro' (ro_build (evP_cons ev_c (evP_cons ev_c evP_nil)) y27_bz42 y27_bu42 y27_bp42 rfl) trivial rfl ?_
  refine al_ro' (ro_lit y27_sl22 (evP_cons (u2 rfl up_h) (evP_cons (up_m rfl up_h) (evP_cons up_h evP_nil))) rfl rfl rfl rfl) trivial rfl ?_
  refine al_ro' (ro_build (evP_cons ev_c evP_nil) y27_bz47 y27_bu47 y27_bp47 rfl) trivial rfl ?_
  refine al_ro' (ro_build (evP_cons ev_c (evP_cons ev_c evP_nil)) y27_bz47 y27_bu47 y27_bp47 rfl) trivial rfl ?_
  refine al_ro' (ro_lit y27_sl23 (evP_cons (up_m rfl up_h) (evP_cons up_h evP_nil)) rfl rfl rfl rfl) trivial rfl ?_
  refine al_ro' (ro_build (evP_cons ev_c (evP_cons (up_m rfl (u2 rfl up_h)) (evP_cons up_h evP_nil))) y27_bz26 y27_bu26 y27_bp26 rfl) trivial rfl ?_
  refine al_stm (st_store (u8 rfl s0_2) up_h rfl rfl mo0_1 y27_sz26 rfl (by exact Nat.le_of_ble_eq_true rfl)) trivial rfl (fun m_3 hm_3 => ?_)
  have mo0_3 := m_set hm_3 mo0_1
  simp only [packA_t, packA_f, iE, bE, setAt, cellsA, Value.cells, map_vc, map_vn, Nat.reduceAdd, qS] at mo0_3
  have ml_3 := m_set_l hm_3 ml_1
  clear hm_3 mo0_1
  refine al_end (fun e_4 he_4 => ?_)
  have s0_4 := ef 0 he_4 (up_n (u8 rfl s0_2))
  clear he_4 s0_2
  refine then_n ?_
  refine aw_ret ?_
  refine ret1 (.inr rfl) (by kernel_rfl) (resV_cell s0_4 mo0_3 y27_ty26 (by exact Nat.le_of_ble_eq_true rfl) (by simp)) (vw_r (vw_agg (vwl_cons (.ro _ rfl) (vwl_cons (.ro _ rfl) (vwl_cons (.ro _ rfl) (vwl_cons (.nil 3) vwl_nil)))))) ?_
  clear s0_4 mo0_3 ml_3
  rfl
theorem lin0_sho : Sho lin0 := ⟨by decide, by decide, by decide, by decide, by intro s hs; cases hs⟩
theorem lin0_good : (linM lin0).2 = 0 := by kernel_rfl
theorem len0_ok : FnOk Try.prog 49 [lnA lin0] (fun q => q = .tuple [mA 20000, mA 0]) :=
  (lengthOf_good lin0 lin0_sho lin0_good).mono fun q h => h.trans (by kernel_rfl)
theorem lim0_ok : FnOk Try.prog 58 [lnA lin0, mA 1000, mA 1] (fun q => q = .tuple [mA 745250000, mA 0]) :=
  (limitAt_good lin0 lin0_sho lin0_good 1000 1 (fun hs n hn => by
    obtain rfl : n = 1 := by have : lin0.js.length = 3 := rfl
                             omega
    exact limit_low lin0 (rgt_of lin0_good) 1000 (by decide) 1 (by decide) (by decide))).mono fun q h => h.trans (by kernel_rfl)
theorem dev0_ok : FnOk Try.prog 27 [lnA lin0, vehA 10000 60 2500, .agg [mA 2500, mA 1]] (fun q => q = .tuple [.agg [mA (-38), mA (-37)], mA 0]) :=
  (deviationAt_good lin0 lin0_sho lin0_good 10000 60 2500 2500 1 (by decide) (by decide)).mono fun q h => h.trans (by kernel_rfl)
set_option maxRecDepth 100000 in
set_option maxHeartbeats 4000000 in
theorem awake_ok : FnOk Try.prog 13 [] (fun q => q = tbA true) := by
  refine fnOk_of (fn := Try.f13) 47 (by kernel_rfl) rfl (by kernel_rfl) (Nat.le_of_ble_eq_true rfl) ?_
  intro e_0 m_0 hA hm_0
  have ml_0 : m_0.length = 0 := by rw [hm_0]; rfl
  clear hA hm_0
  refine aw_seq ?_
  refine aw_text (by kernel_rfl) ?_
  refine al_ro' (ro_assign ev_c) trivial rfl ?_
  refine al_end (fun e_1 he_1 => ?_)
  clear he_1
  refine then_n ?_
  refine aw_seq ?_
  refine aw_text (by kernel_rfl) ?_
  refine al_ro' (ro_call evL_nil rfl (lin0_ok) y27_hcf63) trivial rfl ?_
  refine al_ro' (ro_call (evL_cons up_h evL_nil) rfl (len0_ok) y27_hcf49) trivial rfl ?_
  refine al_ro' (ro_move up_h) trivial rfl ?_
  refine al_ro' (ro_extract up_h rfl) trivial rfl ?_
  refine al_ro' (ro_extract (up_m rfl up_h) rfl) trivial rfl ?_
  refine al_ro' (ro_assign (up_m rfl up_h)) trivial rfl ?_
  refine al_ro' (ro_assign (up_m rfl up_h)) trivial rfl ?_
  refine al_end (fun e_2 he_2 => ?_)
  have s1_2 := ef 1 he_2 (up_m rfl up_h)
  have s2_2 := ef 2 he_2 up_h
  clear he_2
  refine then_n ?_
  refine aw_seq ?_
  refine aw_text (by kernel_rfl) ?_
  refine al_ro' (ro_call evL_nil rfl (lin0_ok) y27_hcf63) trivial rfl ?_
  refine al_ro' (ro_call (evL_cons up_h (evL_cons ev_c (evL_cons ev_c evL_nil))) rfl (lim0_ok) y27_hcf58) trivial rfl ?_
  refine al_ro' (ro_move up_h) trivial rfl ?_
  refine al_ro' (ro_extract up_h rfl) trivial rfl ?_
  refine al_ro' (ro_extract (up_m rfl up_h) rfl) trivial rfl ?_
  refine al_ro' (ro_assign (up_m rfl up_h)) trivial rfl ?_
  refine al_ro' (ro_assign (up_m rfl up_h)) trivial rfl ?_
  refine al_end (fun e_3 he_3 => ?_)
  have s1_3 := ef 1 he_3 (up_m rfl (u2 rfl (u4 rfl s1_2)))
  have s2_3 := ef 2 he_3 (up_m rfl (u2 rfl (u4 rfl s2_2)))
  have s3_3 := ef 3 he_3 (up_m rfl up_h)
  have s4_3 := ef 4 he_3 up_h
  clear he_3 s1_2 s2_2
  refine then_n ?_
  refine aw_seq ?_
  refine aw_text (by kernel_rfl) ?_
  refine al_ro' (ro_call evL_nil rfl (lin0_ok) y27_hcf63) trivial rfl ?_
  refine al_ro' (ro_build (evP_cons ev_c (evP_cons ev_c (evP_cons ev_c evP_nil))) y27_bz52 y27_bu52 y27_bp52 rfl) trivial rfl ?_
  refine al_ro' (ro_buildA (evP_cons ev_c (evP_cons ev_c evP_nil)) y27_bz53 y27_bu53 y27_bp53 rfl) trivial rfl ?_
  refine al_ro' (ro_call (evL_cons (u2 rfl up_h) (evL_cons (up_m rfl up_h) (evL_cons up_h evL_nil))) rfl (dev0_ok) y27_hcf27) trivial rfl ?_
  refine al_ro' (ro_move up_h) trivial rfl ?_
  refine al_ro' (ro_extract up_h rfl) trivial rfl ?_
  refine al_ro' (ro_extract (up_m rfl up_h) rfl) trivial rfl ?_
  refine al_stm (st_alloc y27_az40 rfl ml_0) trivial rfl (fun m_4 hm_4 => ?_)
  have mo0_4 := m_push hm_4 ml_0
  simp only [packA_t, packA_f, iE, bE, setAt, cellsA, Value.cells, map_vc, map_vn, Nat.reduceAdd, qS] at mo0_4
  have ml_4 := m_push_l hm_4 ml_0
  have ml_4 : _ = 1 := ml_4
  clear hm_4
  refine al_stm (st_store up_h (u2 rfl up_h) rfl rfl mo0_4 y27_sz40 rfl (by exact Nat.le_of_ble_eq_true rfl)) trivial rfl (fun m_5 hm_5 => ?_)
  have mo0_5 := m_set hm_5 mo0_4
  simp only [packA_t, packA_f, iE, bE, setAt, cellsA, Value.cells, map_vc, map_vn, Nat.reduceAdd, qS] at mo0_5
  have ml_5 := m_set_l hm_5 ml_4
  clear hm_5 mo0_4
  refine al_ro' (ro_assign (up_n (up_m rfl up_h))) trivial rfl ?_
  refine al_end (fun e_6 he_6 => ?_)
  have s1_6 := ef 1 he_6 (up_m rfl (up_n (u8 rfl s1_3)))
  have s2_6 := ef 2 he_6 (up_m rfl (up_n (u8 rfl s2_3)))
  have s3_6 := ef 3 he_6 (up_m rfl (up_n (u8 rfl s3_3)))
  have s4_6 := ef 4 he_6 (up_m rfl (up_n (u8 rfl s4_3)))
  have s5_6 := ef 5 he_6 (up_m rfl (up_n up_h))
  have s6_6 := ef 6 he_6 up_h
  clear he_6 s1_3 s2_3 s3_3 s4_3
  refine then_n ?_
  refine aw_seq ?_
  refine aw_text (by kernel_rfl) ?_
  refine al_ro' (ro_move s2_6) trivial rfl ?_
  refine al_ro' (ro_eql up_h ev_c) trivial rfl ?_
  refine al_ro' (ro_move up_h) trivial rfl ?_
  refine al_case up_h (fun hb_7 hq_7 => ?_) (fun hb_7 hq_7 => ?_)
  ·replace hq_7 := bt hq_7
   refine al_ro' (ro_move (up_m rfl (u2 rfl s1_6))) ⟨_, rfl, hb_7⟩ rfl ?_
   refine al_ro' (ro_eql up_h ev_c) ⟨_, rfl, (up_m rfl hb_7)⟩ rfl ?_
   refine al_ro' (ro_pickT (u2 rfl hb_7) up_h) trivial rfl ?_
   refine al_ro' (ro_move up_h) trivial rfl ?_
   refine al_case up_h (fun hb_8 hq_8 => ?_) (fun hb_8 hq_8 => ?_)
   ·replace hq_8 := bt hq_8
    refine al_ro' (ro_move (up_m rfl (u2 rfl (u4 rfl s4_6)))) ⟨_, rfl, hb_8⟩ rfl ?_
    refine al_ro' (ro_eql up_h ev_c) ⟨_, rfl, (up_m rfl hb_8)⟩ rfl ?_
    refine al_ro' (ro_pickT (u2 rfl hb_8) up_h) trivial rfl ?_
    refine al_ro' (ro_move up_h) trivial rfl ?_
    refine al_case up_h (fun hb_9 hq_9 => ?_) (fun hb_9 hq_9 => ?_)
    ·replace hq_9 := bt hq_9
     refine al_ro' (ro_move (up_m rfl (u2 rfl (u8 rfl s3_6)))) ⟨_, rfl, hb_9⟩ rfl ?_
     refine al_ro' (ro_eql up_h ev_c) ⟨_, rfl, (up_m rfl hb_9)⟩ rfl ?_
     refine al_ro' (ro_pickT (u2 rfl hb_9) up_h) trivial rfl ?_
     refine al_ro' (ro_move up_h) trivial rfl ?_
     refine al_case up_h (fun hb_10 hq_10 => ?_) (fun hb_10 hq_10 => ?_)
     ·replace hq_10 := bt hq_10
      refine al_ro' (ro_move (up_m rfl (u2 rfl (u4 rfl (u8 rfl s6_6))))) ⟨_, rfl, hb_10⟩ rfl ?_
      refine al_ro' (ro_eql up_h ev_c) ⟨_, rfl, (up_m rfl hb_10)⟩ rfl ?_
      refine al_ro' (ro_pickT (u2 rfl hb_10) up_h) trivial rfl ?_
      refine al_ro' (ro_move up_h) trivial rfl ?_
      refine al_case up_h (fun hb_11 hq_11 => ?_) (fun hb_11 hq_11 => ?_)
      ·replace hq_11 := bt hq_11
       refine al_ro' (ro_eq (ro_ld_ptr y27_ty40 rfl mo0_5 (up_m rfl (u2 rfl (u16 rfl s5_6))) (by exact Nat.le_of_ble_eq_true rfl)) (by simp only [packA_t, packA_f, iE, bE, setAt, cellsA, Value.cells, map_vc, map_vn, Nat.reduceAdd, qS] <;> rfl)) ⟨_, rfl, hb_11⟩ rfl ?_
       refine al_ro' (ro_build (evP_cons ev_c (evP_cons ev_c evP_nil)) y27_bz40 y27_bu40 y27_bp40 rfl) ⟨_, rfl, (up_m rfl hb_11)⟩ rfl ?_
       refine al_ro' (ro_aeql (up_m rfl up_h) up_h (xs := [.int .i64 (-38), .int .i64 (-37)]) (ys := [.int .i64 (-38), .int .i64 (-37)]) (b := true) ⟨rfl, by kernel_rfl, fun _ => by kernel_rfl⟩) ⟨_, rfl, (u2 rfl hb_11)⟩ rfl ?_
       refine al_ro' (ro_pickT (up_m rfl (u2 rfl hb_11)) up_h) trivial rfl ?_
       refine al_ro' (ro_assign up_h) trivial rfl ?_
       refine al_end (fun e_12 he_12 => ?_)
       have s0_12 := ef 0 he_12 up_h
       clear he_12 hb_10 hb_11 hb_7 hb_8 hb_9 s1_6 s2_6 s3_6 s4_6 s5_6 s6_6
       refine then_n ?_
       refine aw_ret ?_
       refine ret1 (.inr rfl) (by kernel_rfl) (resV_tmp s0_12) (.ro _ rfl) ?_
       clear s0_12 mo0_5 ml_5
       rfl
      · replace hq_11 := bf hq_11; exfalso; omega
     · replace hq_10 := bf hq_10; exfalso; omega
    · replace hq_9 := bf hq_9; exfalso; omega
   · replace hq_8 := bf hq_8; exfalso; omega
  · replace hq_7 := bf hq_7; exfalso; omega
end Go.Proofs.Ytknclifdncmgpaa

