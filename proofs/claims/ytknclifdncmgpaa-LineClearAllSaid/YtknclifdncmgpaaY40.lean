/- Contracts of chapter 1: a copy of a line with joints of one's own; narrower ranges. No conditions on a program. -/
import Derived.Test.YtknclifdncmgpaaA26
import Derived.Test.YtknclifdncmgpaaM7
namespace Go.Proofs.Ytknclifdncmgpaa
open Go Go.RowKit Go.Proofs
set_option linter.unusedSimpArgs false
set_option linter.unusedVariables false
theorem y40_az106 : (Try.prog.info? 106).bind (·.zero) = some (.agg #[.string ByteArray.empty, .int .i64 0, .slice none 0 0]) := by kernel_rfl
theorem y40_az26 : (Try.prog.info? 26).bind (·.zero) = some (.agg #[.string ByteArray.empty, .slice none 0 0, .slice none 0 0, .slice none 0 0]) := by kernel_rfl
theorem y40_az40 : (Try.prog.info? 40).bind (·.zero) = some (.agg #[.int .i64 0, .int .i64 0]) := by kernel_rfl
theorem y40_bz40 : (Try.prog.info? 40).bind (·.zero) = some (.agg #[.int .i64 0, .int .i64 0]) := by kernel_rfl
theorem y40_bu40 : Try.prog.underlying 40 = some (.struct (fsOf Try.prog 40)) := by kernel_rfl
theorem y40_bp40 : ∀ w, ((fsOf Try.prog 40).mapM fun f => Prod.mk f.offset <$> sizeOf f.type : Sem (Array (Nat × Nat))).run Try.prog w = .ok (#[(0, 1), (1, 1)]) w := fun _ => by kernel_rfl
theorem y40_fl106_2 : FldIs Try.prog 106 2 2 false 1 := by unfold FldIs; kernel_rfl
theorem y40_fl26_1 : FldIs Try.prog 26 1 1 false 1 := by unfold FldIs; kernel_rfl
theorem y40_fl26_2 : FldIs Try.prog 26 2 2 false 1 := by unfold FldIs; kernel_rfl
theorem y40_fl26_3 : FldIs Try.prog 26 3 3 false 1 := by unfold FldIs; kernel_rfl
theorem y40_fl40_0 : FldIs Try.prog 40 0 0 false 1 := by unfold FldIs; kernel_rfl
theorem y40_fl40_1 : FldIs Try.prog 40 1 1 false 1 := by unfold FldIs; kernel_rfl
theorem y40_fl42_2 : FldIs Try.prog 42 2 2 true 2 := by unfold FldIs; kernel_rfl
theorem y40_hcf17 : ∀ args w, (callFunc 17 args).run Try.prog w = .ok (.enter 17 args) w := fun _ _ => by kernel_rfl
theorem y40_hcf68 : ∀ args w, (callFunc 68 args).run Try.prog w = .ok (.enter 68 args) w := fun _ _ => by kernel_rfl
theorem y40_sl22 : SlIs Try.prog 22 42 4 32 (.agg #[.int .i64 0, .int .i64 0, .int .i64 0, .int .i64 0]) := ⟨by kernel_rfl, by kernel_rfl, by kernel_rfl⟩
theorem y40_sl23 : SlIs Try.prog 23 47 2 16 (.agg #[.int .i64 0, .int .i64 0]) := ⟨by kernel_rfl, by kernel_rfl, by kernel_rfl⟩
theorem y40_sl24 : SlIs Try.prog 24 106 3 48 (.agg #[.string ByteArray.empty, .int .i64 0, .slice none 0 0]) := ⟨by kernel_rfl, by kernel_rfl, by kernel_rfl⟩
theorem y40_sl73 : SlIs Try.prog 73 5 1 1 (.int .u8 0) := ⟨by kernel_rfl, by kernel_rfl, by kernel_rfl⟩
theorem y40_sz106 : (Try.prog.info? 106).map (·.size) = some 3 := by kernel_rfl
theorem y40_sz22 : (Try.prog.info? 22).map (·.size) = some 1 := by kernel_rfl
theorem y40_sz23 : (Try.prog.info? 23).map (·.size) = some 1 := by kernel_rfl
theorem y40_sz24 : (Try.prog.info? 24).map (·.size) = some 1 := by kernel_rfl
theorem y40_sz26 : (Try.prog.info? 26).map (·.size) = some 4 := by kernel_rfl
theorem y40_sz40 : (Try.prog.info? 40).map (·.size) = some 2 := by kernel_rfl
theorem y40_sz60 : (Try.prog.info? 60).map (·.size) = some 1 := by kernel_rfl
theorem y40_ty106 : TyIs Try.prog 106 true 3 := ⟨by kernel_rfl, by kernel_rfl⟩
theorem y40_ty22 : TyIs Try.prog 22 false 1 := ⟨by kernel_rfl, by kernel_rfl⟩
theorem y40_ty23 : TyIs Try.prog 23 false 1 := ⟨by kernel_rfl, by kernel_rfl⟩
theorem y40_ty24 : TyIs Try.prog 24 false 1 := ⟨by kernel_rfl, by kernel_rfl⟩
theorem y40_ty26 : TyIs Try.prog 26 true 4 := ⟨by kernel_rfl, by kernel_rfl⟩
theorem y40_ty3 : TyIs Try.prog 3 false 1 := ⟨by kernel_rfl, by kernel_rfl⟩
theorem y40_ty40 : TyIs Try.prog 40 true 2 := ⟨by kernel_rfl, by kernel_rfl⟩
theorem y40_ty5 : TyIs Try.prog 5 false 1 := ⟨by kernel_rfl, by kernel_rfl⟩
theorem y40_ty60 : TyIs Try.prog 60 false 1 := ⟨by kernel_rfl, by kernel_rfl⟩

theorem jnE_plain (l : List Jnt) : (l.map jnE).flatten.all plainA = true := by
  induction l with
  | nil => rfl
  | cons p l ih => simp only [List.map_cons, List.flatten_cons, List.all_append, ih, Bool.and_true]; rfl
set_option maxRecDepth 100000 in
set_option maxHeartbeats 4000000 in
theorem copyOwn_ok (l : Lin) (hl : Sho l) (h0 : l.js ≠ []) : FnRowL Try.prog 17 [lnA l] 42 4 (l.js.map jnE) [some (.v (.string l.nam)), none, some (.row 2 (l.bs.map beE)), some (.row 3 (l.ss.map swE))] := by
  obtain ⟨h1, h2, h3, h4, h5⟩ := id hl
  refine fnRowL_of (fn := Try.f17) 39 (by kernel_rfl) rfl (by kernel_rfl) (Nat.le_of_ble_eq_true rfl) (by exact jnE_plain l.js) rfl ?_
  intro e_0 m_0 hA hm_0
  have s0_0 : evA e_0 (.tmp 0) = _ := hA 0 _ rfl
  have ml_0 : m_0.length = 0 := by rw [hm_0]; rfl
  clear hA hm_0
  refine aw_seq ?_
  refine aw_text (by kernel_rfl) ?_
  refine al_stm (st_box s0_0 rfl ml_0) trivial rfl (fun m_1 hm_1 => ?_)
  have mo0_1 := m_push hm_1 ml_0
  have ml_1 := m_push_l hm_1 ml_0
  have ml_1 : _ = 1 := ml_1
  clear hm_1
  refine al_stm (st_alloc y40_az26 rfl ml_1) trivial rfl (fun m_2 hm_2 => ?_)
  have mo1_2 := m_push hm_2 ml_1
  simp only [packA_t, packA_f, iE, bE, setAt, cellsA, Value.cells, map_vc, map_vn, Nat.reduceAdd, qS, swE, one_swE, app_m] at mo1_2
  have mo0_2 := m_push_o hm_2 mo0_1
  have ml_2 := m_push_l hm_2 ml_1
  have ml_2 : _ = 2 := ml_2
  clear hm_2 mo0_1
  refine al_end (fun e_3 he_3 => ?_)
  have s1_3 := ef 1 he_3 (up_m rfl up_h)
  have s2_3 := ef 2 he_3 up_h
  clear he_3 s0_0
  refine then_n ?_
  refine aw_seq ?_
  refine aw_text (by kernel_rfl) ?_
  refine al_ro' (ro_lit0 y40_sl22) trivial rfl ?_
  refine al_ro' (ro_fld_ptr y40_fl26_1 rfl (up_m rfl s1_3)) trivial rfl ?_
  refine al_ro' (ro_eq (ro_ld_ptr y40_ty22 rfl mo0_2 up_h (by exact Nat.le_of_ble_eq_true rfl)) (by simp only [packA_t, packA_f, iE, bE, setAt, cellsA, Value.cells, map_vc, map_vn, Nat.reduceAdd, qS, swE, one_swE, app_m] <;> rfl)) trivial rfl ?_
  refine al_stm (st_ape (by simpa using h0) (by exact jnE_plain l.js) ml_2 y40_sl22 rfl (u2 rfl up_h) up_h (by simp only [lnS] <;> omega)) trivial rfl (fun m_4 hm_4 => ?_)
  have mo2_4 := m_push hm_4 ml_2
  have mo1_4 := m_push_o hm_4 mo1_2
  have mo0_4 := m_push_o hm_4 mo0_2
  have ml_4 := m_push_l hm_4 ml_2
  have ml_4 : _ = 3 := ml_4
  clear hm_4 mo1_2 mo0_2
  refine al_ro' (ro_fld_ptr y40_fl26_1 rfl (u4 rfl s1_3)) trivial rfl ?_
  refine al_stm (st_store_own up_h (up_m rfl up_h) mo0_4 mo2_4 y40_sz22 (by exact Nat.le_of_ble_eq_true rfl)) trivial rfl (fun m_5 hm_5 => ?_)
  have mo0_5 := m_set hm_5 mo0_4
  simp only [packA_t, packA_f, iE, bE, setAt, cellsA, Value.cells, map_vc, map_vn, Nat.reduceAdd, qS, swE, one_swE, app_m] at mo0_5
  have mo2_5 := m_set_o hm_5 mo2_4 (by decide)
  have mo1_5 := m_set_o hm_5 mo1_4 (by decide)
  have ml_5 := m_set_l hm_5 ml_4
  clear hm_5 mo2_4 mo1_4 mo0_4
  refine al_end (fun e_6 he_6 => ?_)
  have s1_6 := ef 1 he_6 (up_n (up_m rfl (u4 rfl s1_3)))
  have s2_6 := ef 2 he_6 (up_n (up_m rfl (u4 rfl s2_3)))
  clear he_6 s1_3 s2_3
  refine then_n ?_
  refine aw_seq ?_
  refine aw_text (by kernel_rfl) ?_
  refine al_ro' (ro_lit0 y40_sl23) trivial rfl ?_
  refine al_ro' (ro_fld_ptr y40_fl26_2 rfl (up_m rfl s1_6)) trivial rfl ?_
  refine al_ro' (ro_eq (ro_ld_ptr y40_ty23 rfl mo0_5 up_h (by exact Nat.le_of_ble_eq_true rfl)) (by simp only [packA_t, packA_f, iE, bE, setAt, cellsA, Value.cells, map_vc, map_vn, Nat.reduceAdd, qS, swE, one_swE, app_m] <;> rfl)) trivial rfl ?_
  refine al_ro' (ro_ape y40_sl23 rfl (u2 rfl up_h) up_h (by simp only [lnS] <;> omega)) trivial rfl ?_
  refine al_ro' (ro_fld_ptr y40_fl26_2 rfl (u4 rfl s1_6)) trivial rfl ?_
  refine al_stm (st_store up_h (up_m rfl up_h) rfl rfl mo0_5 y40_sz23 rfl (by exact Nat.le_of_ble_eq_true rfl)) trivial rfl (fun m_7 hm_7 => ?_)
  have mo0_7 := m_set hm_7 mo0_5
  simp only [packA_t, packA_f, iE, bE, setAt, cellsA, Value.cells, map_vc, map_vn, Nat.reduceAdd, qS, swE, one_swE, app_m] at mo0_7
  have mo2_7 := m_set_o hm_7 mo2_5 (by decide)
  have mo1_7 := m_set_o hm_7 mo1_5 (by decide)
  have ml_7 := m_set_l hm_7 ml_5
  clear hm_7 mo0_5 mo2_5 mo1_5
  refine al_end (fun e_8 he_8 => ?_)
  have s1_8 := ef 1 he_8 (up_n (up_m rfl (u4 rfl s1_6)))
  have s2_8 := ef 2 he_8 (up_n (up_m rfl (u4 rfl s2_6)))
  clear he_8 s1_6 s2_6
  refine then_n ?_
  refine aw_seq ?_
  refine aw_text (by kernel_rfl) ?_
  refine al_ro' (ro_assign ev_c) trivial rfl ?_
  refine al_end (fun e_9 he_9 => ?_)
  have s1_9 := ef 1 he_9 (up_m rfl s1_8)
  have s2_9 := ef 2 he_9 (up_m rfl s2_8)
  have s3_9 := ef 3 he_9 up_h
  clear he_9 s1_8 s2_8
  refine then_n ?_
  refine aw_seq ?_
  refine aw_seq ?_
  refine aw_text (by kernel_rfl) ?_
  refine al_ro' (ro_assign ev_c) trivial rfl ?_
  refine al_end (fun e_10 he_10 => ?_)
  have s1_10 := ef 1 he_10 (up_m rfl s1_9)
  have s2_10 := ef 2 he_10 (up_m rfl s2_9)
  have s3_10 := ef 3 he_10 (up_m rfl s3_9)
  have s4_10 := ef 4 he_10 up_h
  clear he_10 s1_9 s2_9 s3_9
  refine then_n ?_
  refine aw_block ?_
  refine aw_adopt 106 3 s3_10 ml_7 (fun m_11 e_11 hm_11 he_11 => ?_)
  have mo3_11 := m_push hm_11 ml_7
  have mo0_11 := m_push_o hm_11 mo0_7
  have mo2_11 := m_push_o hm_11 mo2_7
  have mo1_11 := m_push_o hm_11 mo1_7
  have ml_11 := m_push_l hm_11 ml_7
  have ml_11 : _ = 4 := ml_11
  have s1_11 : evA e_11 (.tmp 1) = _ := (congrArg (fun q => evA q (.tmp 1)) he_11).trans (up_m rfl s1_10)
  have s2_11 : evA e_11 (.tmp 2) = _ := (congrArg (fun q => evA q (.tmp 2)) he_11).trans (up_m rfl s2_10)
  have s3_11 : evA e_11 (.tmp 3) = _ := (congrArg (fun q => evA q (.tmp 3)) he_11).trans up_h
  have s4_11 : evA e_11 (.tmp 4) = _ := (congrArg (fun q => evA q (.tmp 4)) he_11).trans (up_m rfl s4_10)
  clear hm_11 he_11
  refine aw_loop (S := (Int × List Swi)) (fun s e mem => match s with | ⟨k, xs⟩ => (evA e (.tmp 4) = .v (.int .i64 k)) ∧ (evA e (.tmp 1) = evA e_11 (.tmp 1)) ∧ (evA e (.tmp 2) = evA e_11 (.tmp 2)) ∧ (mem[0]? = m_11[0]?) ∧ (mem[2]? = m_11[2]?) ∧ (mem[1]? = m_11[1]?) ∧ (∃ j, evA e (.tmp 3) = .own j ∧ mem[j]? = some (.row 106 3 (xs.map swE)) ∧ j ≠ 0 ∧ j ≠ 2 ∧ j ≠ 1) ∧ (∃ n, mem.length = n ∧ 4 ≤ n) ∧ ((0 ≤ k ∧ k ≤ l.ss.length ∧ xs = l.ss.take k.toNat))) (fun s => match s with | ⟨k, xs⟩ => (l.ss.length - k).toNat) ⟨_, []⟩ ⟨s4_11, rfl, rfl, rfl, rfl, rfl, ⟨_, s3_11, mo3_11, (by decide), (by decide), (by decide)⟩, ⟨_, ml_11, Nat.le_refl _⟩, ?_⟩ ?_
  · (exact ⟨by omega, by omega, rfl⟩)
  · rintro ⟨k, xs⟩ e_12 m_12 ⟨s4_12, k1_12, k2_12, mk0_12, mk2_12, mk1_12, ⟨j3_12, s3_12, mo_j3_12, nj3_0_12, nj3_2_12, nj3_1_12⟩, ⟨n_12, ml_12, hn_12⟩, hinv⟩
    have s1_12 := k1_12.trans s1_11
    have s2_12 := k2_12.trans s2_11
    have mo0_12 := mk0_12.trans mo0_11
    have mo2_12 := mk2_12.trans mo2_11
    have mo1_12 := mk1_12.trans mo1_11
    have jl3_12 := m_lt mo_j3_12 ml_12
    (obtain ⟨p1, p2, p3⟩ := hinv; have hso := hl.at k.toNat; have hxl : xs.length ≤ 1000000 := (by rw [p3, List.length_take]; omega))
    refine aw_seq ?_
    refine aw_seq ?_
    refine aw_text (by kernel_rfl) ?_
    refine al_ro' (ro_move s4_12) trivial rfl ?_
    refine al_ro' (ro_fld_ptr y40_fl26_3 rfl (up_m rfl s1_12)) trivial rfl ?_
    refine al_ro' (ro_eq (ro_ld_ptr y40_ty24 rfl mo0_12 up_h (by exact Nat.le_of_ble_eq_true rfl)) (by simp only [packA_t, packA_f, iE, bE, setAt, cellsA, Value.cells, map_vc, map_vn, Nat.reduceAdd, qS, swE, one_swE, app_m] <;> rfl)) trivial rfl ?_
    refine al_ro' (ro_eq (ro_len_row up_h rfl y40_sl24.1) (by simp only [lnS] <;> rfl)) trivial rfl ?_
    refine al_ro' (ro_lss (up_m rfl (u2 rfl up_h)) up_h) trivial rfl ?_
    refine al_end (fun e_13 he_13 => ?_)
    have s1_13 := ef 1 he_13 (up_m rfl (u4 rfl s1_12))
    have s2_13 := ef 2 he_13 (up_m rfl (u4 rfl s2_12))
    have s3_13 := ef 3 he_13 (up_m rfl (u4 rfl s3_12))
    have s4_13 := ef 4 he_13 (up_m rfl (u4 rfl s4_12))
    have s20_13 := ef 20 he_13 up_h
    clear he_13 s1_12 s2_12 s3_12 s4_12
    refine then_n ?_
    refine aw_case s20_13 (fun hq_14 => ?_) (fun hq_14 => ?_)
    ·replace hq_14 := bt hq_14
     refine aw_skip ?_
     refine then_n ?_
     refine aw_seq ?_
     refine aw_block ?_
     refine aw_seq ?_
     refine aw_text (by kernel_rfl) ?_
     refine al_ro' (ro_fld_ptr y40_fl26_3 rfl s1_13) trivial rfl ?_
     refine al_ro' (ro_eq (ro_ld_ptr y40_ty24 rfl mo0_12 up_h (by exact Nat.le_of_ble_eq_true rfl)) (by simp only [packA_t, packA_f, iE, bE, setAt, cellsA, Value.cells, map_vc, map_vn, Nat.reduceAdd, qS, swE, one_swE, app_m] <;> rfl)) trivial rfl ?_
     refine al_ro' (ro_move (u2 rfl s4_13)) trivial rfl ?_
     refine al_ro' (ro_eq (ro_ix y40_sl24 (up_m rfl up_h) up_h (by omega) (by first | (refine idx_map ?_; first | omega | (simp only [lnS]; omega)) | (refine idx_mapI ?_; first | omega | (simp only [lnS]; omega)) | (refine idx_mapN ?_; first | omega | (simp only [lnS]; omega)) | rfl)) (by simp only [packA_t, packA_f, iE, bE, setAt, cellsA, Value.cells, map_vc, map_vn, Nat.reduceAdd, qS, swE, one_swE, app_m] <;> rfl)) trivial rfl ?_
     refine al_ro' (ro_eq (ro_ld_ref y40_ty106 rfl up_h (by exact Nat.le_of_ble_eq_true rfl)) (by simp only [packA_t, packA_f, iE, bE, setAt, cellsA, Value.cells, map_vc, map_vn, Nat.reduceAdd, qS, swE, one_swE, app_m] <;> rfl)) trivial rfl ?_
     refine al_stm (st_alloc y40_az106 rfl ml_12) trivial rfl (fun m_15 hm_15 => ?_)
     have mon_12_15 := m_push hm_15 ml_12
     simp only [packA_t, packA_f, iE, bE, setAt, cellsA, Value.cells, map_vc, map_vn, Nat.reduceAdd, qS, swE, one_swE, app_m] at mon_12_15
     have mo0_15 := m_push_o hm_15 mo0_12
     have mo2_15 := m_push_o hm_15 mo2_12
     have mo1_15 := m_push_o hm_15 mo1_12
     have moj3_12_15 := m_push_o hm_15 mo_j3_12
     have ml_15 := m_push_l hm_15 ml_12
     clear hm_15 mo0_12 mo2_12 mo1_12 mo_j3_12
     refine al_stm (st_store up_h (up_m rfl up_h) rfl rfl mon_12_15 y40_sz106 rfl (by exact Nat.le_of_ble_eq_true rfl)) trivial rfl (fun m_16 hm_16 => ?_)
     have mon_12_16 := m_set hm_16 mon_12_15
     simp only [packA_t, packA_f, iE, bE, setAt, cellsA, Value.cells, map_vc, map_vn, Nat.reduceAdd, qS, swE, one_swE, app_m] at mon_12_16
     have mo0_16 := m_set_o hm_16 mo0_15 (by omega)
     have mo2_16 := m_set_o hm_16 mo2_15 (by omega)
     have mo1_16 := m_set_o hm_16 mo1_15 (by omega)
     have moj3_12_16 := m_set_o hm_16 moj3_12_15 (by omega)
     have ml_16 := m_set_l hm_16 ml_15
     clear hm_16 mon_12_15 mo0_15 mo2_15 mo1_15 moj3_12_15
     refine al_end (fun e_17 he_17 => ?_)
     have s1_17 := ef 1 he_17 (up_n (u2 rfl (u4 rfl s1_13)))
     have s2_17 := ef 2 he_17 (up_n (u2 rfl (u4 rfl s2_13)))
     have s3_17 := ef 3 he_17 (up_n (u2 rfl (u4 rfl s3_13)))
     have s4_17 := ef 4 he_17 (up_n (u2 rfl (u4 rfl s4_13)))
     have s5_17 := ef 5 he_17 (up_n up_h)
     clear he_17 s1_13 s20_13 s2_13 s3_13 s4_13
     refine then_n ?_
     refine aw_seq ?_
     refine aw_text (by kernel_rfl) ?_
     refine al_ro' (ro_fld_ptr y40_fl106_2 rfl s5_17) trivial rfl ?_
     refine al_ro' (ro_eq (ro_ld_ptr y40_ty60 rfl mon_12_16 up_h (by exact Nat.le_of_ble_eq_true rfl)) (by simp only [packA_t, packA_f, iE, bE, setAt, cellsA, Value.cells, map_vc, map_vn, Nat.reduceAdd, qS, swE, one_swE, app_m] <;> rfl)) trivial rfl ?_
     refine al_ro' (ro_call (evL_cons up_h evL_nil) rfl (yCopyInts_ok _ (by omega)) y40_hcf68) trivial rfl ?_
     refine al_ro' (ro_fld_ptr y40_fl106_2 rfl (up_m rfl (u2 rfl s5_17))) trivial rfl ?_
     refine al_stm (st_store up_h (up_m rfl up_h) rfl rfl mon_12_16 y40_sz60 rfl (by exact Nat.le_of_ble_eq_true rfl)) trivial rfl (fun m_18 hm_18 => ?_)
     have mon_12_18 := m_set hm_18 mon_12_16
     simp only [packA_t, packA_f, iE, bE, setAt, cellsA, Value.cells, map_vc, map_vn, Nat.reduceAdd, qS, swE, one_swE, app_m] at mon_12_18
     have mo0_18 := m_set_o hm_18 mo0_16 (by omega)
     have mo2_18 := m_set_o hm_18 mo2_16 (by omega)
     have mo1_18 := m_set_o hm_18 mo1_16 (by omega)
     have moj3_12_18 := m_set_o hm_18 moj3_12_16 (by omega)
     have ml_18 := m_set_l hm_18 ml_16
     clear hm_18 mon_12_16 mo0_16 mo2_16 mo1_16 moj3_12_16
     refine al_end (fun e_19 he_19 => ?_)
     have s1_19 := ef 1 he_19 (up_n (u4 rfl s1_17))
     have s2_19 := ef 2 he_19 (up_n (u4 rfl s2_17))
     have s3_19 := ef 3 he_19 (up_n (u4 rfl s3_17))
     have s4_19 := ef 4 he_19 (up_n (u4 rfl s4_17))
     have s5_19 := ef 5 he_19 (up_n (u4 rfl s5_17))
     clear he_19 s1_17 s2_17 s3_17 s4_17 s5_17
     refine then_n ?_
     refine aw_text (by kernel_rfl) ?_
     refine al_ro' (ro_move s3_19) trivial rfl ?_
     refine al_ro' (ro_eq (ro_ld_ptr y40_ty106 rfl mon_12_18 (up_m rfl s5_19) (by exact Nat.le_of_ble_eq_true rfl)) (by simp only [packA_t, packA_f, iE, bE, setAt, cellsA, Value.cells, map_vc, map_vn, Nat.reduceAdd, qS, swE, one_swE, app_m] <;> rfl)) trivial rfl ?_
     refine al_ro' (ro_lit y40_sl24 (evP_cons up_h evP_nil) rfl rfl rfl rfl) trivial rfl ?_
     refine al_stm (st_app y40_sl24 rfl ml_18 moj3_12_18 (u2 rfl up_h) up_h (by rfl) (by simp only [lnS] <;> omega)) trivial rfl (fun m_20 hm_20 => ?_)
     have mon_12_1_20 := m_swap hm_20 ml_18
     simp only [packA_t, packA_f, iE, bE, setAt, cellsA, Value.cells, map_vc, map_vn, Nat.reduceAdd, qS, swE, one_swE, app_m] at mon_12_1_20
     have mon_12_20 := m_swap_o hm_20 mon_12_18 (by omega)
     have mo0_20 := m_swap_o hm_20 mo0_18 (by omega)
     have mo2_20 := m_swap_o hm_20 mo2_18 (by omega)
     have mo1_20 := m_swap_o hm_20 mo1_18 (by omega)
     have ml_20 := m_swap_l hm_20 ml_18
     clear hm_20 mon_12_18 mo0_18 mo2_18 mo1_18 moj3_12_18
     refine al_ro' (ro_assign up_h) trivial rfl ?_
     refine al_end (fun e_21 he_21 => ?_)
     have s1_21 := ef 1 he_21 (up_m rfl (u4 rfl s1_19))
     have s2_21 := ef 2 he_21 (up_m rfl (u4 rfl s2_19))
     have s3_21 := ef 3 he_21 up_h
     have s4_21 := ef 4 he_21 (up_m rfl (u4 rfl s4_19))
     clear he_21 s1_19 s2_19 s3_19 s4_19 s5_19
     refine block_n ?_
     refine then_n ?_
     refine aw_text (by kernel_rfl) ?_
     refine al_ro' (ro_move s4_21) trivial rfl ?_
     (refine al_ro' (ro_add' up_h ev_c ?_) trivial rfl ?_; · (unfold In64; omega))
     refine al_ro' (ro_assign up_h) trivial rfl ?_
     refine al_end (fun e_22 he_22 => ?_)
     have s1_22 := ef 1 he_22 (up_m rfl (u2 rfl s1_21))
     have s2_22 := ef 2 he_22 (up_m rfl (u2 rfl s2_21))
     have s3_22 := ef 3 he_22 (up_m rfl (u2 rfl s3_21))
     have s4_22 := ef 4 he_22 up_h
     clear he_22 s1_21 s2_21 s3_21 s4_21
     refine then_n ?_
     refine ⟨⟨_, _⟩, ⟨s4_22, (s1_22.trans s1_11.symm), (s2_22.trans s2_11.symm), (mo0_20.trans mo0_11.symm), (mo2_20.trans mo2_11.symm), (mo1_20.trans mo1_11.symm), ⟨_, s3_22, mon_12_1_20, (by omega), (by omega), (by omega)⟩, ⟨_, ml_20, by omega⟩, ?_⟩, ?_⟩
     · (refine ⟨by omega, by omega, ?_⟩; rw [take_suc p1 (by omega), ← p3])
     · ((try dsimp only); omega)
    replace hq_14 := bf hq_14
    (have hx : xs = l.ss := (by rw [p3, List.take_of_length_le (by omega)]); clear p3; subst hx)
    refine aw_exit ?_
    refine then_x ?_
    refine then_x ?_
    refine block_hit ?_
    refine then_n ?_
    refine aw_seq ?_
    refine aw_freezeR s3_13 mo_j3_12 (fun m_23 e_23 hm_23 he_23 => ?_)
    have mo0_23 := m_set_o hm_23 mo0_12 (by omega)
    have mo2_23 := m_set_o hm_23 mo2_12 (by omega)
    have mo1_23 := m_set_o hm_23 mo1_12 (by omega)
    have ml_23 := m_set_l hm_23 ml_12
    have s1_23 : evA e_23 (.tmp 1) = _ := (congrArg (fun q => evA q (.tmp 1)) he_23).trans (up_m rfl s1_13)
    have s2_23 : evA e_23 (.tmp 2) = _ := (congrArg (fun q => evA q (.tmp 2)) he_23).trans (up_m rfl s2_13)
    have s3_23 : evA e_23 (.tmp 3) = _ := (congrArg (fun q => evA q (.tmp 3)) he_23).trans up_h
    have s4_23 : evA e_23 (.tmp 4) = _ := (congrArg (fun q => evA q (.tmp 4)) he_23).trans (up_m rfl s4_13)
    have s20_23 : evA e_23 (.tmp 20) = _ := (congrArg (fun q => evA q (.tmp 20)) he_23).trans (up_m rfl s20_13)
    clear hm_23 he_23
    refine aw_text (by kernel_rfl) ?_
    refine al_ro' (ro_move s3_23) trivial rfl ?_
    refine al_ro' (ro_fld_ptr y40_fl26_3 rfl (up_m rfl s1_23)) trivial rfl ?_
    refine al_stm (st_store up_h (up_m rfl up_h) rfl rfl mo0_23 y40_sz24 rfl (by exact Nat.le_of_ble_eq_true rfl)) trivial rfl (fun m_24 hm_24 => ?_)
    have mo0_24 := m_set hm_24 mo0_23
    simp only [packA_t, packA_f, iE, bE, setAt, cellsA, Value.cells, map_vc, map_vn, Nat.reduceAdd, qS, swE, one_swE, app_m] at mo0_24
    have mo2_24 := m_set_o hm_24 mo2_23 (by decide)
    have mo1_24 := m_set_o hm_24 mo1_23 (by decide)
    have ml_24 := m_set_l hm_24 ml_23
    clear hm_24 mo0_23 mo2_23 mo1_23
    refine al_end (fun e_25 he_25 => ?_)
    have s1_25 := ef 1 he_25 (up_n (u2 rfl s1_23))
    have s2_25 := ef 2 he_25 (up_n (u2 rfl s2_23))
    clear he_25 s1_23 s20_23 s2_23 s3_23 s4_23
    refine then_n ?_
    refine aw_seq ?_
    refine aw_text (by kernel_rfl) ?_
    refine al_ro' (ro_eq (ro_ld_ptr y40_ty26 rfl mo0_24 s1_25 (by exact Nat.le_of_ble_eq_true rfl)) (by simp only [packA_t, packA_f, iE, bE, setAt, cellsA, Value.cells, map_vc, map_vn, Nat.reduceAdd, qS, swE, one_swE, app_m] <;> rfl)) trivial rfl ?_
    refine al_stm (st_storeO (up_m rfl s2_25) up_h rfl (oneL_c rfl (oneL_o mo2_24 (oneL_c rfl (oneL_c rfl oneL_nil)))) mo1_24 y40_sz26 rfl (by exact Nat.le_of_ble_eq_true rfl)) trivial rfl (fun m_26 hm_26 => ?_)
    have mo1_26 := m_set hm_26 mo1_24
    simp only [packA_t, packA_f, iE, bE, setAt, cellsA, Value.cells, map_vc, map_vn, Nat.reduceAdd, qS, swE, one_swE, app_m] at mo1_26
    have mo0_26 := m_set_o hm_26 mo0_24 (by decide)
    have mo2_26 := m_set_o hm_26 mo2_24 (by decide)
    have ml_26 := m_set_l hm_26 ml_24
    clear hm_26 mo0_24 mo2_24 mo1_24
    refine al_end (fun e_27 he_27 => ?_)
    have s2_27 := ef 2 he_27 (up_n (up_m rfl s2_25))
    clear he_27 s1_25 s2_25
    refine then_n ?_
    refine aw_ret ?_
    refine retRowL (.inr rfl) (by kernel_rfl) mo2_26 (resV_cell s2_27 mo1_26 y40_ty26 (by exact Nat.le_of_ble_eq_true rfl) (by simp)) rfl ?_
    rfl
/-- A line with other joints. -/
def Lin.withJs (l : Lin) (js : List Jnt) : Lin := ⟨l.nam, js, l.bs, l.ss⟩
/-- A part of a range. -/
def innJ (j : Jnt) (b : Int) : Jnt := ⟨j.acr, j.up, j.lo + ((j.hi - j.lo) * b.tmod 4).tdiv 4, max (j.lo + ((j.hi - j.lo) * b.tmod 4).tdiv 4) (j.hi - ((j.hi - j.lo) * (IntKind.u8.wrap (b.tdiv 4)).tmod 4).tdiv 4)⟩
theorem part_bd {b : Int} (hb : 0 ≤ b ∧ b < 256) : (0 ≤ b.tmod 4 ∧ b.tmod 4 ≤ 3) ∧ (0 ≤ b.tdiv 4 ∧ b.tdiv 4 ≤ 63) ∧ IntKind.u8.wrap (b.tdiv 4) = b.tdiv 4 ∧ 0 ≤ (IntKind.u8.wrap (b.tdiv 4)).tmod 4 ∧ (IntKind.u8.wrap (b.tdiv 4)).tmod 4 ≤ 3 := by
  have e1 := Int.tmod_eq_emod_of_nonneg hb.1 (b := 4)
  have e2 := Int.tdiv_eq_ediv_of_nonneg hb.1 (b := 4)
  have e3 : IntKind.u8.wrap (b.tdiv 4) = b.tdiv 4 := by
    show (b.tdiv 4) % (256 : Int) = b.tdiv 4
    omega
  have e4 := Int.tmod_eq_emod_of_nonneg (show 0 ≤ b.tdiv 4 by omega) (b := 4)
  rw [e3]
  omega
theorem wide_bd {w t : Int} (hw : 0 ≤ w ∧ w ≤ 200) (ht : 0 ≤ t ∧ t ≤ 3) : (0 ≤ w * t ∧ w * t ≤ 600) ∧ 0 ≤ (w * t).tdiv 4 ∧ (w * t).tdiv 4 ≤ w := by
  have m := Int.mul_nonneg hw.1 ht.1
  have m2 := Int.mul_le_mul_of_nonneg_left ht.2 hw.1
  have e := Int.tdiv_eq_ediv_of_nonneg m (b := 4)
  omega
/-- The first n joints with parts of their ranges. -/
def innL (js : List Jnt) (ps : List Int) : Nat → List Jnt
  | 0 => js
  | n + 1 => (innL js ps n).set n (innJ (js.getD n default) (ps.getD n default))
theorem innL_len (js : List Jnt) (ps : List Int) : ∀ n : Nat, (innL js ps n).length = js.length
  | 0 => rfl
  | n + 1 => by simp only [innL, List.length_set]; exact innL_len js ps n
theorem innL_ge (js : List Jnt) (ps : List Int) : ∀ {n i : Nat}, n ≤ i → (innL js ps n).getD i default = js.getD i default
  | 0, _, _ => rfl
  | n + 1, i, h => by
    simp only [innL]
    rw [List.getD_eq_getElem?_getD, List.getElem?_set_ne (by omega), ← List.getD_eq_getElem?_getD]
    exact innL_ge js ps (by omega)
theorem set_jn4 (js : List Jnt) (i : Nat) (a b c d : Int) : (js.map jnE).set i [AV.v (.int .i64 a), AV.v (.int .i64 b), AV.v (.int .i64 c), AV.v (.int .i64 d)] = (js.set i ⟨a, b, c, d⟩).map jnE := by simp [List.map_set, jnE]
def inA (l : Lin) (ps : List Int) : Lin := l.withJs (innL l.js ps (min l.js.length ps.length))
def byE (n : Int) : List AV := [.v (.int .u8 n)]
theorem getD_by {ps : List Int} (hp : ∀ b ∈ ps, 0 ≤ b ∧ b < 256) (i : Nat) : 0 ≤ ps.getD i default ∧ ps.getD i default < 256 := by
  by_cases h : i < ps.length
  · rw [List.getD_eq_getElem?_getD, List.getElem?_eq_getElem h]; exact hp _ (List.getElem_mem h)
  · rw [List.getD_eq_getElem?_getD, List.getElem?_eq_none (by omega)]; exact ⟨by decide, by decide⟩
set_option maxRecDepth 100000 in
set_option maxHeartbeats 4000000 in
theorem inner_ok (l : Lin) (hl : Sho l) (h : Rgt l) (ps : List Int) (hp : ∀ b ∈ ps, 0 ≤ b ∧ b < 256) (hpl : ps.length ≤ 1000) : FnOk Try.prog 38 [lnA l, .row 1 (ps.map byE)] (fun q => q = lnA (inA l ps)) := by
  refine fnOk_of (fn := Try.f38) 72 (by kernel_rfl) rfl (by kernel_rfl) (Nat.le_of_ble_eq_true rfl) ?_
  intro e_0 m_0 hA hm_0
  have s0_0 : evA e_0 (.tmp 0) = _ := hA 0 _ rfl
  have s1_0 : evA e_0 (.tmp 1) = _ := hA 1 _ rfl
  have ml_0 : m_0.length = 0 := by rw [hm_0]; rfl
  clear hA hm_0
  have hj0 : l.js ≠ [] := (by have := h.js; intro hc; rw [hc] at this; simp at this); have hjs := h.js; have hn1 := h.n1
  refine aw_seq ?_
  refine aw_text (by kernel_rfl) ?_
  refine al_stm (st_box s0_0 rfl ml_0) trivial rfl (fun m_1 hm_1 => ?_)
  have mo0_1 := m_push hm_1 ml_0
  have ml_1 := m_push_l hm_1 ml_0
  have ml_1 : _ = 1 := ml_1
  clear hm_1
  refine al_stm (st_alloc y40_az26 rfl ml_1) trivial rfl (fun m_2 hm_2 => ?_)
  have mo1_2 := m_push hm_2 ml_1
  simp only [packA_t, packA_f, iE, bE, setAt, cellsA, Value.cells, map_vc, map_vn, Nat.reduceAdd, qS, jnE, byE, set_jn4] at mo1_2
  have mo0_2 := m_push_o hm_2 mo0_1
  have ml_2 := m_push_l hm_2 ml_1
  have ml_2 : _ = 2 := ml_2
  clear hm_2 mo0_1
  refine al_end (fun e_3 he_3 => ?_)
  have s1_3 := ef 1 he_3 (u2 rfl s1_0)
  have s2_3 := ef 2 he_3 (up_m rfl up_h)
  have s4_3 := ef 4 he_3 up_h
  clear he_3 s0_0 s1_0
  refine then_n ?_
  refine aw_seq ?_
  refine aw_text (by kernel_rfl) ?_
  refine al_ro' (ro_eq (ro_ld_ptr y40_ty26 rfl mo0_2 s2_3 (by exact Nat.le_of_ble_eq_true rfl)) (by simp only [packA_t, packA_f, iE, bE, setAt, cellsA, Value.cells, map_vc, map_vn, Nat.reduceAdd, qS, jnE, byE, set_jn4] <;> rfl)) trivial rfl ?_
  refine al_stm (st_callL ml_2 (evL_cons up_h evL_nil) rfl (copyOwn_ok l hl hj0) y40_hcf17) trivial rfl (fun m_4 hm_4 => ?_)
  have mo2_4 := m_push hm_4 ml_2
  have mo1_4 := m_push_o hm_4 mo1_2
  have mo0_4 := m_push_o hm_4 mo0_2
  have ml_4 := m_push_l hm_4 ml_2
  have ml_4 : _ = 3 := ml_4
  clear hm_4 mo1_2 mo0_2
  refine al_stm (st_storeO (u2 rfl s2_3) up_h rfl (oneL_c rfl (oneL_o mo2_4 (oneL_c rfl (oneL_c rfl oneL_nil)))) mo0_4 y40_sz26 rfl (by exact Nat.le_of_ble_eq_true rfl)) trivial rfl (fun m_5 hm_5 => ?_)
  have mo0_5 := m_set hm_5 mo0_4
  simp only [packA_t, packA_f, iE, bE, setAt, cellsA, Value.cells, map_vc, map_vn, Nat.reduceAdd, qS, jnE, byE, set_jn4] at mo0_5
  have mo2_5 := m_set_o hm_5 mo2_4 (by decide)
  have mo1_5 := m_set_o hm_5 mo1_4 (by decide)
  have ml_5 := m_set_l hm_5 ml_4
  clear hm_5 mo2_4 mo1_4 mo0_4
  refine al_end (fun e_6 he_6 => ?_)
  have s1_6 := ef 1 he_6 (up_n (u2 rfl s1_3))
  have s2_6 := ef 2 he_6 (up_n (u2 rfl s2_3))
  have s4_6 := ef 4 he_6 (up_n (u2 rfl s4_3))
  clear he_6 s1_3 s2_3 s4_3
  refine then_n ?_
  refine aw_seq ?_
  refine aw_seq ?_
  refine aw_text (by kernel_rfl) ?_
  refine al_ro' (ro_assign ev_c) trivial rfl ?_
  refine al_end (fun e_7 he_7 => ?_)
  have s1_7 := ef 1 he_7 (up_m rfl s1_6)
  have s2_7 := ef 2 he_7 (up_m rfl s2_6)
  have s4_7 := ef 4 he_7 (up_m rfl s4_6)
  have s5_7 := ef 5 he_7 up_h
  clear he_7 s1_6 s2_6 s4_6
  refine then_n ?_
  refine aw_block ?_
  refine aw_loop (S := (Int × Nat × List Jnt)) (fun s e mem => match s with | ⟨i, k, xs⟩ => (evA e (.tmp 5) = .v (.int .i64 i)) ∧ (evA e (.tmp 1) = evA e_7 (.tmp 1)) ∧ (evA e (.tmp 2) = evA e_7 (.tmp 2)) ∧ (evA e (.tmp 4) = evA e_7 (.tmp 4)) ∧ (mem[0]? = some (.box 26 [.v (.string l.nam), .own k, .row 2 (l.bs.map beE), .row 3 (l.ss.map swE)])) ∧ (mem[k]? = some (.row 42 4 (xs.map jnE))) ∧ (mem[1]? = m_5[1]?) ∧ (∃ n, mem.length = n ∧ 3 ≤ n) ∧ ((2 ≤ k ∧ 0 ≤ i ∧ i ≤ l.js.length ∧ i ≤ ps.length ∧ xs = innL l.js ps i.toNat))) (fun s => match s with | ⟨i, k, xs⟩ => (l.js.length - i).toNat) ⟨_, 2, l.js⟩ ⟨s5_7, rfl, rfl, rfl, mo0_5, mo2_5, rfl, ⟨_, ml_5, Nat.le_refl _⟩, ?_⟩ ?_
  · (exact ⟨by omega, by omega, by omega, by omega, rfl⟩)
  · rintro ⟨i, k, xs⟩ e_8 m_8 ⟨s5_8, k1_8, k2_8, k4_8, mo0_8, mok_8, mk1_8, ⟨n_8, ml_8, hn_8⟩, hinv⟩
    have s1_8 := k1_8.trans s1_7
    have s2_8 := k2_8.trans s2_7
    have s4_8 := k4_8.trans s4_7
    have mo1_8 := mk1_8.trans mo1_5
    have jlk_8 := m_lt mok_8 ml_8
    (obtain ⟨p0, p1, p2, p4, p3⟩ := hinv; have hxl : xs.length = l.js.length := (by rw [p3, innL_len]); have hge : xs.getD i.toNat default = l.js.getD i.toNat default := (by rw [p3]; exact innL_ge _ _ (Nat.le_refl _)); have hb : 0 ≤ ps.getD i.toNat default ∧ ps.getD i.toNat default < 256 := getD_by hp i.toNat; obtain ⟨t1, t2, t3, t4⟩ := part_bd hb)
    refine aw_seq ?_
    refine aw_seq ?_
    refine aw_text (by kernel_rfl) ?_
    refine al_ro' (ro_move s5_8) trivial rfl ?_
    refine al_ro' (ro_fld_ptr y40_fl26_1 rfl (up_m rfl s2_8)) trivial rfl ?_
    refine al_ro' (ro_eq (ro_ld_ptr y40_ty22 rfl mo0_8 up_h (by exact Nat.le_of_ble_eq_true rfl)) (by simp only [packA_t, packA_f, iE, bE, setAt, cellsA, Value.cells, map_vc, map_vn, Nat.reduceAdd, qS, jnE, byE, set_jn4] <;> rfl)) trivial rfl ?_
    refine al_ro' (ro_eq (ro_len_own up_h mok_8 rfl y40_sl22.1) (by simp only [lnS] <;> rfl)) trivial rfl ?_
    refine al_ro' (ro_lss (up_m rfl (u2 rfl up_h)) up_h) trivial rfl ?_
    refine al_ro' (ro_move up_h) trivial rfl ?_
    refine al_case up_h (fun hb_9 hq_9 => ?_) (fun hb_9 hq_9 => ?_)
    ·replace hq_9 := bt hq_9
     refine al_ro' (ro_move (u2 rfl (u4 rfl s5_8))) ⟨_, rfl, hb_9⟩ rfl ?_
     refine al_ro' (ro_move (up_m rfl (u2 rfl (u4 rfl s1_8)))) ⟨_, rfl, (up_m rfl hb_9)⟩ rfl ?_
     refine al_ro' (ro_eq (ro_len_row up_h rfl y40_sl73.1) (by simp only [lnS] <;> rfl)) ⟨_, rfl, (u2 rfl hb_9)⟩ rfl ?_
     refine al_ro' (ro_lss (u2 rfl up_h) up_h) ⟨_, rfl, (up_m rfl (u2 rfl hb_9))⟩ rfl ?_
     refine al_ro' (ro_pickT (u4 rfl hb_9) up_h) trivial rfl ?_
     refine al_end (fun e_10 he_10 => ?_)
     have s1_10 := ef 1 he_10 (up_m rfl (u2 rfl (u8 rfl s1_8)))
     have s2_10 := ef 2 he_10 (up_m rfl (u2 rfl (u8 rfl s2_8)))
     have s4_10 := ef 4 he_10 (up_m rfl (u2 rfl (u8 rfl s4_8)))
     have s5_10 := ef 5 he_10 (up_m rfl (u2 rfl (u8 rfl s5_8)))
     have s22_10 := ef 22 he_10 up_h
     clear he_10 hb_9 s1_8 s2_8 s4_8 s5_8
     refine then_n ?_
     refine aw_case s22_10 (fun hq_11 => ?_) (fun hq_11 => ?_)
     ·replace hq_11 := bt hq_11
      (have hj := h.jnt i.toNat (by omega); rw [← hge] at hj; obtain ⟨ww1, ww2, ww3⟩ := wide_bd (w := (xs.getD i.toNat default).hi - (xs.getD i.toNat default).lo) (by omega) t1; obtain ⟨vv1, vv2, vv3⟩ := wide_bd (w := (xs.getD i.toNat default).hi - (xs.getD i.toNat default).lo) (by omega) t4)
      refine aw_skip ?_
      refine then_n ?_
      refine aw_seq ?_
      refine aw_block ?_
      refine aw_seq ?_
      refine aw_text (by kernel_rfl) ?_
      refine al_ro' (ro_fld_ptr y40_fl26_1 rfl s2_10) trivial rfl ?_
      refine al_ro' (ro_eq (ro_ld_ptr y40_ty22 rfl mo0_8 up_h (by exact Nat.le_of_ble_eq_true rfl)) (by simp only [packA_t, packA_f, iE, bE, setAt, cellsA, Value.cells, map_vc, map_vn, Nat.reduceAdd, qS, jnE, byE, set_jn4] <;> rfl)) trivial rfl ?_
      refine al_ro' (ro_move (u2 rfl s5_10)) trivial rfl ?_
      refine al_ro' (ro_ix_own y40_sl22 mok_8 (up_m rfl up_h) up_h (by omega) (by simp only [lnS] <;> omega)) trivial rfl ?_
      refine al_ro' (ro_fld_el (o := 0) y40_fl42_2 rfl up_h) trivial rfl ?_
      refine al_ro' (ro_eq (ro_ld_elO y40_ty40 rfl mok_8 up_h (by exact Nat.le_of_ble_eq_true rfl) (by first | (refine idx_map ?_; first | omega | (simp only [lnS]; omega)) | (refine idx_mapI ?_; first | omega | (simp only [lnS]; omega)) | (refine idx_mapN ?_; first | omega | (simp only [lnS]; omega)) | rfl)) (by simp only [packA_t, packA_f, iE, bE, setAt, cellsA, Value.cells, map_vc, map_vn, Nat.reduceAdd, qS, jnE, byE, set_jn4] <;> rfl)) trivial rfl ?_
      refine al_stm (st_alloc y40_az40 rfl ml_8) trivial rfl (fun m_12 hm_12 => ?_)
      have mon_8_12 := m_push hm_12 ml_8
      simp only [packA_t, packA_f, iE, bE, setAt, cellsA, Value.cells, map_vc, map_vn, Nat.reduceAdd, qS, jnE, byE, set_jn4] at mon_8_12
      have mo0_12 := m_push_o hm_12 mo0_8
      have mok_12 := m_push_o hm_12 mok_8
      have mo1_12 := m_push_o hm_12 mo1_8
      have ml_12 := m_push_l hm_12 ml_8
      clear hm_12 mo0_8 mok_8 mo1_8
      refine al_stm (st_store up_h (up_m rfl up_h) rfl rfl mon_8_12 y40_sz40 rfl (by exact Nat.le_of_ble_eq_true rfl)) trivial rfl (fun m_13 hm_13 => ?_)
      have mon_8_13 := m_set hm_13 mon_8_12
      simp only [packA_t, packA_f, iE, bE, setAt, cellsA, Value.cells, map_vc, map_vn, Nat.reduceAdd, qS, jnE, byE, set_jn4] at mon_8_13
      have mo0_13 := m_set_o hm_13 mo0_12 (by omega)
      have mok_13 := m_set_o hm_13 mok_12 (by omega)
      have mo1_13 := m_set_o hm_13 mo1_12 (by omega)
      have ml_13 := m_set_l hm_13 ml_12
      clear hm_13 mon_8_12 mo0_12 mok_12 mo1_12
      refine al_end (fun e_14 he_14 => ?_)
      have s1_14 := ef 1 he_14 (up_n (up_m rfl (u2 rfl (u4 rfl s1_10))))
      have s2_14 := ef 2 he_14 (up_n (up_m rfl (u2 rfl (u4 rfl s2_10))))
      have s4_14 := ef 4 he_14 (up_n (up_m rfl (u2 rfl (u4 rfl s4_10))))
      have s5_14 := ef 5 he_14 (up_n (up_m rfl (u2 rfl (u4 rfl s5_10))))
      have s6_14 := ef 6 he_14 (up_n up_h)
      clear he_14 s1_10 s22_10 s2_10 s4_10 s5_10
      refine then_n ?_
      refine aw_seq ?_
      refine aw_text (by kernel_rfl) ?_
      refine al_ro' (ro_fld_ptr y40_fl40_1 rfl s6_14) trivial rfl ?_
      refine al_ro' (ro_eq (ro_ld_ptr y40_ty3 rfl mon_8_13 up_h (by exact Nat.le_of_ble_eq_true rfl)) (by simp only [packA_t, packA_f, iE, bE, setAt, cellsA, Value.cells, map_vc, map_vn, Nat.reduceAdd, qS, jnE, byE, set_jn4] <;> rfl)) trivial rfl ?_
      refine al_ro' (ro_fld_ptr y40_fl40_0 rfl (u2 rfl s6_14)) trivial rfl ?_
      refine al_ro' (ro_eq (ro_ld_ptr y40_ty3 rfl mon_8_13 up_h (by exact Nat.le_of_ble_eq_true rfl)) (by simp only [packA_t, packA_f, iE, bE, setAt, cellsA, Value.cells, map_vc, map_vn, Nat.reduceAdd, qS, jnE, byE, set_jn4] <;> rfl)) trivial rfl ?_
      (refine al_ro' (ro_sub' (u2 rfl up_h) up_h ?_) trivial rfl ?_; · ((first | unfold In64 | unfold InU64); omega))
      refine al_ro' (ro_assign up_h) trivial rfl ?_
      refine al_end (fun e_15 he_15 => ?_)
      have s1_15 := ef 1 he_15 (u2 rfl (u4 rfl s1_14))
      have s2_15 := ef 2 he_15 (u2 rfl (u4 rfl s2_14))
      have s4_15 := ef 4 he_15 (u2 rfl (u4 rfl s4_14))
      have s5_15 := ef 5 he_15 (u2 rfl (u4 rfl s5_14))
      have s6_15 := ef 6 he_15 (u2 rfl (u4 rfl s6_14))
      have s7_15 := ef 7 he_15 up_h
      clear he_15 s1_14 s2_14 s4_14 s5_14 s6_14
      refine then_n ?_
      refine aw_seq ?_
      refine aw_draw 13 (by kernel_rfl) (by kernel_rfl) (by kernel_rfl) (by kernel_rfl) ?_
      refine ds_ro' (ro_fld_ptr y40_fl40_0 rfl s6_15) trivial rfl ?_
      refine ds_ro' (ro_eq (ro_ld_ptr y40_ty3 rfl mon_8_13 up_h (by exact Nat.le_of_ble_eq_true rfl)) (by simp only [packA_t, packA_f, iE, bE, setAt, cellsA, Value.cells, map_vc, map_vn, Nat.reduceAdd, qS, jnE, byE, set_jn4] <;> rfl)) trivial rfl ?_
      refine ds_ro' (ro_move (u2 rfl s7_15)) trivial rfl ?_
      refine ds_ro' (ro_move (up_m rfl (u2 rfl s1_15))) trivial rfl ?_
      refine ds_ro' (ro_move (u4 rfl s5_15)) trivial rfl ?_
      refine ds_ro' (ro_eq (ro_ix y40_sl73 (up_m rfl up_h) up_h (by omega) (by first | (refine idx_map ?_; first | omega | (simp only [lnS]; omega)) | (refine idx_mapI ?_; first | omega | (simp only [lnS]; omega)) | (refine idx_mapN ?_; first | omega | (simp only [lnS]; omega)) | rfl)) (by simp only [packA_t, packA_f, iE, bE, setAt, cellsA, Value.cells, map_vc, map_vn, Nat.reduceAdd, qS, jnE, byE, set_jn4] <;> rfl)) trivial rfl ?_
      refine ds_ro' (ro_eq (ro_ld_ref y40_ty5 rfl up_h (by exact Nat.le_of_ble_eq_true rfl)) (by simp only [packA_t, packA_f, iE, bE, setAt, cellsA, Value.cells, map_vc, map_vn, Nat.reduceAdd, qS, jnE, byE, set_jn4] <;> rfl)) trivial rfl ?_
      refine ds_ro' (ro_rem up_h ev_c (by decide)) trivial rfl ?_
      (refine ds_ro' (ro_cvI up_h (by kernel_rfl) (by kernel_rfl) ?_) trivial rfl ?_; · ((first | unfold In64 | unfold InU64); omega))
      (refine ds_ro' (ro_mul' (u2 rfl (u4 rfl up_h)) up_h ?_) trivial rfl ?_; · ((first | unfold In64 | unfold InU64); omega))
      (refine ds_ro' (ro_quo' up_h ev_c (by decide) ?_) trivial rfl ?_; · ((first | unfold In64 | unfold InU64); omega))
      (refine ds_ro' (ro_add' (up_m rfl (u8 rfl up_h)) up_h ?_) trivial rfl ?_; · ((first | unfold In64 | unfold InU64); omega))
      refine ds_ro' (ro_assign up_h) trivial rfl ?_
      refine ds_nil ?_
      refine al_end (fun e_16 he_16 => ?_)
      have s1_16 := ef 1 he_16 (up_m rfl (u4 rfl (u8 rfl s1_15)))
      have s2_16 := ef 2 he_16 (up_m rfl (u4 rfl (u8 rfl s2_15)))
      have s4_16 := ef 4 he_16 (up_m rfl (u4 rfl (u8 rfl s4_15)))
      have s5_16 := ef 5 he_16 (up_m rfl (u4 rfl (u8 rfl s5_15)))
      have s6_16 := ef 6 he_16 (up_m rfl (u4 rfl (u8 rfl s6_15)))
      have s7_16 := ef 7 he_16 (up_m rfl (u4 rfl (u8 rfl s7_15)))
      have s8_16 := ef 8 he_16 up_h
      clear he_16 s1_15 s2_15 s4_15 s5_15 s6_15 s7_15
      refine then_n ?_
      refine aw_seq ?_
      refine aw_draw 16 (by kernel_rfl) (by kernel_rfl) (by kernel_rfl) (by kernel_rfl) ?_
      refine ds_ro' (ro_move s8_16) trivial rfl ?_
      refine ds_ro' (ro_fld_ptr y40_fl40_1 rfl (up_m rfl s6_16)) trivial rfl ?_
      refine ds_ro' (ro_eq (ro_ld_ptr y40_ty3 rfl mon_8_13 up_h (by exact Nat.le_of_ble_eq_true rfl)) (by simp only [packA_t, packA_f, iE, bE, setAt, cellsA, Value.cells, map_vc, map_vn, Nat.reduceAdd, qS, jnE, byE, set_jn4] <;> rfl)) trivial rfl ?_
      refine ds_ro' (ro_move (up_m rfl (u2 rfl s7_16))) trivial rfl ?_
      refine ds_ro' (ro_move (u4 rfl s1_16)) trivial rfl ?_
      refine ds_ro' (ro_move (up_m rfl (u4 rfl s5_16))) trivial rfl ?_
      refine ds_ro' (ro_eq (ro_ix y40_sl73 (up_m rfl up_h) up_h (by omega) (by first | (refine idx_map ?_; first | omega | (simp only [lnS]; omega)) | (refine idx_mapI ?_; first | omega | (simp only [lnS]; omega)) | (refine idx_mapN ?_; first | omega | (simp only [lnS]; omega)) | rfl)) (by simp only [packA_t, packA_f, iE, bE, setAt, cellsA, Value.cells, map_vc, map_vn, Nat.reduceAdd, qS, jnE, byE, set_jn4] <;> rfl)) trivial rfl ?_
      refine ds_ro' (ro_eq (ro_ld_ref y40_ty5 rfl up_h (by exact Nat.le_of_ble_eq_true rfl)) (by simp only [packA_t, packA_f, iE, bE, setAt, cellsA, Value.cells, map_vc, map_vn, Nat.reduceAdd, qS, jnE, byE, set_jn4] <;> rfl)) trivial rfl ?_
      refine ds_ro' (ro_quo up_h ev_c (by decide)) trivial rfl ?_
      refine ds_ro' (ro_rem up_h ev_c (by decide)) trivial rfl ?_
      (refine ds_ro' (ro_cvI up_h (by kernel_rfl) (by kernel_rfl) ?_) trivial rfl ?_; · ((first | unfold In64 | unfold InU64); omega))
      (refine ds_ro' (ro_mul' (up_m rfl (u2 rfl (u4 rfl up_h))) up_h ?_) trivial rfl ?_; · ((first | unfold In64 | unfold InU64); omega))
      (refine ds_ro' (ro_quo' up_h ev_c (by decide) ?_) trivial rfl ?_; · ((first | unfold In64 | unfold InU64); omega))
      (refine ds_ro' (ro_sub' (u2 rfl (u8 rfl up_h)) up_h ?_) trivial rfl ?_; · ((first | unfold In64 | unfold InU64); omega))
      refine ds_ro' (ro_max (up_m rfl (u4 rfl (u8 rfl up_h))) up_h) trivial rfl ?_
      refine ds_ro' (ro_assign up_h) trivial rfl ?_
      refine ds_nil ?_
      refine al_end (fun e_17 he_17 => ?_)
      have s1_17 := ef 1 he_17 (u16 rfl s1_16)
      have s2_17 := ef 2 he_17 (u16 rfl s2_16)
      have s4_17 := ef 4 he_17 (u16 rfl s4_16)
      have s5_17 := ef 5 he_17 (u16 rfl s5_16)
      have s8_17 := ef 8 he_17 (u16 rfl s8_16)
      have s9_17 := ef 9 he_17 up_h
      clear he_17 s1_16 s2_16 s4_16 s5_16 s6_16 s7_16 s8_16
      refine then_n ?_
      refine aw_text (by kernel_rfl) ?_
      refine al_ro' (ro_fld_ptr y40_fl26_1 rfl s2_17) trivial rfl ?_
      refine al_ro' (ro_eq (ro_ld_ptr y40_ty22 rfl mo0_13 up_h (by exact Nat.le_of_ble_eq_true rfl)) (by simp only [packA_t, packA_f, iE, bE, setAt, cellsA, Value.cells, map_vc, map_vn, Nat.reduceAdd, qS, jnE, byE, set_jn4] <;> rfl)) trivial rfl ?_
      refine al_ro' (ro_move (u2 rfl s5_17)) trivial rfl ?_
      refine al_ro' (ro_move (up_m rfl (u2 rfl s8_17))) trivial rfl ?_
      refine al_ro' (ro_move (u4 rfl s9_17)) trivial rfl ?_
      refine al_ro' (ro_build (evP_cons (up_m rfl up_h) (evP_cons up_h evP_nil)) y40_bz40 y40_bu40 y40_bp40 rfl) trivial rfl ?_
      refine al_ro' (ro_ix_own y40_sl22 mok_13 (u4 rfl up_h) (up_m rfl (u2 rfl up_h)) (by omega) (by simp only [lnS] <;> omega)) trivial rfl ?_
      refine al_ro' (ro_fld_el (o := 0) y40_fl42_2 rfl up_h) trivial rfl ?_
      refine al_stm (st_store_el up_h (u2 rfl up_h) rfl rfl rfl mok_13 rfl (by first | (refine idx_map ?_; first | omega | (simp only [lnS]; omega)) | (refine idx_mapI ?_; first | omega | (simp only [lnS]; omega)) | (refine idx_mapN ?_; first | omega | (simp only [lnS]; omega)) | rfl) y40_sz40 rfl (by exact Nat.le_of_ble_eq_true rfl)) trivial rfl (fun m_18 hm_18 => ?_)
      have mok_18 := m_set hm_18 mok_13
      simp only [packA_t, packA_f, iE, bE, setAt, cellsA, Value.cells, map_vc, map_vn, Nat.reduceAdd, qS, jnE, byE, set_jn4] at mok_18
      have mon_8_18 := m_set_o hm_18 mon_8_13 (by omega)
      have mo0_18 := m_set_o hm_18 mo0_13 (by omega)
      have mo1_18 := m_set_o hm_18 mo1_13 (by omega)
      have ml_18 := m_set_l hm_18 ml_13
      clear hm_18 mon_8_13 mo0_13 mok_13 mo1_13
      refine al_end (fun e_19 he_19 => ?_)
      have s1_19 := ef 1 he_19 (up_n (u8 rfl s1_17))
      have s2_19 := ef 2 he_19 (up_n (u8 rfl s2_17))
      have s4_19 := ef 4 he_19 (up_n (u8 rfl s4_17))
      have s5_19 := ef 5 he_19 (up_n (u8 rfl s5_17))
      clear he_19 s1_17 s2_17 s4_17 s5_17 s8_17 s9_17
      refine block_n ?_
      refine then_n ?_
      refine aw_text (by kernel_rfl) ?_
      refine al_ro' (ro_move s5_19) trivial rfl ?_
      (refine al_ro' (ro_add' up_h ev_c ?_) trivial rfl ?_; · ((first | unfold In64 | unfold InU64); omega))
      refine al_ro' (ro_assign up_h) trivial rfl ?_
      refine al_end (fun e_20 he_20 => ?_)
      have s1_20 := ef 1 he_20 (up_m rfl (u2 rfl s1_19))
      have s2_20 := ef 2 he_20 (up_m rfl (u2 rfl s2_19))
      have s4_20 := ef 4 he_20 (up_m rfl (u2 rfl s4_19))
      have s5_20 := ef 5 he_20 up_h
      clear he_20 s1_19 s2_19 s4_19 s5_19
      refine then_n ?_
      refine ⟨⟨_, _, _⟩, ⟨s5_20, (s1_20.trans s1_7.symm), (s2_20.trans s2_7.symm), (s4_20.trans s4_7.symm), mo0_18, mok_18, (mo1_18.trans mo1_5.symm), ⟨_, ml_18, by omega⟩, ?_⟩, ?_⟩
      · (refine ⟨by omega, by omega, by omega, by omega, ?_⟩; rw [show (i + 1).toNat = i.toNat + 1 by omega]; simp only [innL]; rw [← p3, ← hge]; rfl)
      · ((try dsimp only); omega)
     replace hq_11 := bf hq_11
     refine aw_exit ?_
     refine then_x ?_
     refine then_x ?_
     refine block_hit ?_
     refine then_n ?_
     refine aw_seq ?_
     refine aw_text (by kernel_rfl) ?_
     refine al_ro' (ro_eq (ro_ld_ptr y40_ty26 rfl mo0_8 s2_10 (by exact Nat.le_of_ble_eq_true rfl)) (by simp only [packA_t, packA_f, iE, bE, setAt, cellsA, Value.cells, map_vc, map_vn, Nat.reduceAdd, qS, jnE, byE, set_jn4] <;> rfl)) trivial rfl ?_
     refine al_stm (st_storeO (up_m rfl s4_10) up_h rfl (oneL_c rfl (oneL_o mok_8 (oneL_c rfl (oneL_c rfl oneL_nil)))) mo1_8 y40_sz26 rfl (by exact Nat.le_of_ble_eq_true rfl)) trivial rfl (fun m_21 hm_21 => ?_)
     have mo1_21 := m_set hm_21 mo1_8
     simp only [packA_t, packA_f, iE, bE, setAt, cellsA, Value.cells, map_vc, map_vn, Nat.reduceAdd, qS, jnE, byE, set_jn4] at mo1_21
     have mo0_21 := m_set_o hm_21 mo0_8 (by decide)
     have mok_21 := m_set_o hm_21 mok_8 (by omega)
     have ml_21 := m_set_l hm_21 ml_8
     clear hm_21 mo0_8 mok_8 mo1_8
     refine al_end (fun e_22 he_22 => ?_)
     have s4_22 := ef 4 he_22 (up_n (up_m rfl s4_10))
     clear he_22 s1_10 s22_10 s2_10 s4_10 s5_10
     refine then_n ?_
     refine aw_ret ?_
     refine ret1 (.inr rfl) (by kernel_rfl) (resV_cell s4_22 mo1_21 y40_ty26 (by exact Nat.le_of_ble_eq_true rfl) (by simp)) (vw_r (vw_agg (vwl_cons (.ro _ rfl) (vwl_cons (.own _ _ _ _ mok_21) (vwl_cons (.ro _ rfl) (vwl_cons (.ro _ rfl) vwl_nil)))))) ?_
     clear s4_22 mo1_21 mo0_21 mok_21 ml_21
     (have hm : min l.js.length ps.length = i.toNat := (by omega); unfold inA Lin.withJs; rw [hm, ← p3])
    replace hq_9 := bf hq_9
    refine al_skip' ⟨_, rfl, .inl hb_9⟩ rfl ?_
    refine al_skip' ⟨_, rfl, .inl (up_m rfl hb_9)⟩ rfl ?_
    refine al_skip' ⟨_, rfl, .inl (u2 rfl hb_9)⟩ rfl ?_
    refine al_skip' ⟨_, rfl, .inl (up_m rfl (u2 rfl hb_9))⟩ rfl ?_
    refine al_ro' (ro_pickF (u4 rfl hb_9) ev_c) trivial rfl ?_
    refine al_end (fun e_23 he_23 => ?_)
    have s1_23 := ef 1 he_23 (up_m rfl (u2 rfl (u8 rfl s1_8)))
    have s2_23 := ef 2 he_23 (up_m rfl (u2 rfl (u8 rfl s2_8)))
    have s4_23 := ef 4 he_23 (up_m rfl (u2 rfl (u8 rfl s4_8)))
    have s5_23 := ef 5 he_23 (up_m rfl (u2 rfl (u8 rfl s5_8)))
    have s22_23 := ef 22 he_23 up_h
    clear he_23 hb_9 s1_8 s2_8 s4_8 s5_8
    refine then_n ?_
    refine aw_false s22_23 ?_
    refine aw_exit ?_
    refine then_x ?_
    refine then_x ?_
    refine block_hit ?_
    refine then_n ?_
    refine aw_seq ?_
    refine aw_text (by kernel_rfl) ?_
    refine al_ro' (ro_eq (ro_ld_ptr y40_ty26 rfl mo0_8 s2_23 (by exact Nat.le_of_ble_eq_true rfl)) (by simp only [packA_t, packA_f, iE, bE, setAt, cellsA, Value.cells, map_vc, map_vn, Nat.reduceAdd, qS, jnE, byE, set_jn4] <;> rfl)) trivial rfl ?_
    refine al_stm (st_storeO (up_m rfl s4_23) up_h rfl (oneL_c rfl (oneL_o mok_8 (oneL_c rfl (oneL_c rfl oneL_nil)))) mo1_8 y40_sz26 rfl (by exact Nat.le_of_ble_eq_true rfl)) trivial rfl (fun m_25 hm_25 => ?_)
    have mo1_25 := m_set hm_25 mo1_8
    simp only [packA_t, packA_f, iE, bE, setAt, cellsA, Value.cells, map_vc, map_vn, Nat.reduceAdd, qS, jnE, byE, set_jn4] at mo1_25
    have mo0_25 := m_set_o hm_25 mo0_8 (by decide)
    have mok_25 := m_set_o hm_25 mok_8 (by omega)
    have ml_25 := m_set_l hm_25 ml_8
    clear hm_25 mo0_8 mok_8 mo1_8
    refine al_end (fun e_26 he_26 => ?_)
    have s4_26 := ef 4 he_26 (up_n (up_m rfl s4_23))
    clear he_26 s1_23 s22_23 s2_23 s4_23 s5_23
    refine then_n ?_
    refine aw_ret ?_
    refine ret1 (.inr rfl) (by kernel_rfl) (resV_cell s4_26 mo1_25 y40_ty26 (by exact Nat.le_of_ble_eq_true rfl) (by simp)) (vw_r (vw_agg (vwl_cons (.ro _ rfl) (vwl_cons (.own _ _ _ _ mok_25) (vwl_cons (.ro _ rfl) (vwl_cons (.ro _ rfl) vwl_nil)))))) ?_
    clear s4_26 mo1_25 mo0_25 mok_25 ml_25
    (have hm : min l.js.length ps.length = i.toNat := (by omega); unfold inA Lin.withJs; rw [hm, ← p3])
end Go.Proofs.Ytknclifdncmgpaa
