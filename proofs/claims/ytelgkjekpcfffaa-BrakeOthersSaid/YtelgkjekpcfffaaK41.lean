/- Contracts of chapter 5: the document's joined track. No conditions on a program. -/
import Derived.Test.YtelgkjekpcfffaaK40
import Derived.Test.YtelgkjekpcfffaaK12
namespace Go.Proofs.Ytelgkjekpcfffaa
open Go Go.RowKit Go.Proofs
set_option linter.unusedSimpArgs false
set_option linter.unusedVariables false
theorem k41_az24 : (Try.prog.info? 24).bind (·.zero) = some (.agg #[.string ByteArray.empty, .slice none 0 0]) := by kernel_rfl
theorem k41_bz24 : (Try.prog.info? 24).bind (·.zero) = some (.agg #[.string ByteArray.empty, .slice none 0 0]) := by kernel_rfl
theorem k41_bu24 : Try.prog.underlying 24 = some (.struct (fsOf Try.prog 24)) := by kernel_rfl
theorem k41_bp24 : ∀ w, ((fsOf Try.prog 24).mapM fun f => Prod.mk f.offset <$> sizeOf f.type : Sem (Array (Nat × Nat))).run Try.prog w = .ok (#[(0, 1), (1, 1)]) w := fun _ => by kernel_rfl
theorem k41_fl24_0 : FldIs Try.prog 24 0 0 false 1 := by unfold FldIs; kernel_rfl
theorem k41_fl24_1 : FldIs Try.prog 24 1 1 false 1 := by unfold FldIs; kernel_rfl
theorem k41_hcf18 : ∀ args w, (callFunc 18 args).run Try.prog w = .ok (.enter 18 args) w := fun _ _ => by kernel_rfl
theorem k41_sl22 : SlIs Try.prog 22 66 4 32 (.agg #[.int .i64 0, .int .i64 0, .int .i64 0, .bool false]) := ⟨by kernel_rfl, by kernel_rfl, by kernel_rfl⟩
theorem k41_sz22 : (Try.prog.info? 22).map (·.size) = some 1 := by kernel_rfl
theorem k41_sz24 : (Try.prog.info? 24).map (·.size) = some 2 := by kernel_rfl
theorem k41_ty22 : TyIs Try.prog 22 false 1 := ⟨by kernel_rfl, by kernel_rfl⟩
theorem k41_ty24 : TyIs Try.prog 24 true 2 := ⟨by kernel_rfl, by kernel_rfl⟩
theorem k41_ty9 : TyIs Try.prog 9 false 1 := ⟨by kernel_rfl, by kernel_rfl⟩

theorem pE_plain (l : List Piece) : (l.map pE).flatten.all plainA = true := by
  induction l with
  | nil => rfl
  | cons p l ih => simp only [List.map_cons, List.flatten_cons, List.all_append, ih, Bool.and_true]; rfl
set_option maxRecDepth 100000 in
set_option maxHeartbeats 4000000 in
theorem rCopyOwn_ok (nm : ByteArray) (ps : List Piece) (h0 : ps ≠ []) (hp : ps.length ≤ 1000) : FnRowH Try.prog 18 [trA nm ps] 66 4 (ps.map pE) (shA [some (.string nm), none]) := by
  refine fnRowH_of (fn := Try.f18) 10 (by kernel_rfl) rfl (by kernel_rfl) (Nat.le_of_ble_eq_true rfl) (by exact pE_plain ps) ?_
  intro e_0 m_0 hA hm_0
  have s0_0 : evA e_0 (.tmp 0) = _ := hA 0 _ rfl
  have ml_0 : m_0.length = 0 := by rw [hm_0]; rfl
  clear hA hm_0
  refine aw_seq ?_
  refine aw_text (by kernel_rfl) ?_
  refine al_stm (st_box s0_0 rfl ml_0) trivial rfl (fun m_1 hm_1 => ?_)
  have mo0_1 := m_push hm_1 ml_0
  (try simp only [packA_t, packA_f, iE, bE, setAt, cellsA, Value.cells, map_vc, map_vn, Nat.reduceAdd, qS] at mo0_1)
  have ml_1 := m_push_l hm_1 ml_0
  have ml_1 : _ = 1 := ml_1
  clear hm_1
  refine al_stm (st_alloc k41_az24 rfl ml_1) trivial rfl (fun m_2 hm_2 => ?_)
  have mo1_2 := m_push hm_2 ml_1
  (try simp only [packA_t, packA_f, iE, bE, setAt, cellsA, Value.cells, map_vc, map_vn, Nat.reduceAdd, qS] at mo1_2)
  have mo0_2 := m_push_o hm_2 mo0_1
  have ml_2 := m_push_l hm_2 ml_1
  have ml_2 : _ = 2 := ml_2
  clear hm_2 mo0_1
  refine al_end (fun e_3 he_3 => ?_)
  have s1_3 := ef 1 he_3 (up_m rfl up_h)
  have s2_3 := ef 2 he_3 up_h
  clear he_3 s0_0
  refine then_n ?_
  refine aw_seq ?_
  refine aw_drawK 6 1 ml_2 (by kernel_rfl) (by kernel_rfl) (by kernel_rfl) (by kernel_rfl) (fun m_4 hm_4 => ?_)
  have mo1_4 := m_room_o hm_4 mo1_2
  have mo0_4 := m_room_o hm_4 mo0_2
  have mo2_4 : m_4[2]? = _ := m_room_g hm_4 ml_2 0 rfl rfl
  have ml_4 : _ = 3 := m_room_l hm_4 ml_2
  clear hm_4 mo1_2 mo0_2 ml_2
  refine dh_ro (fun M_ hM_ => (ro_fld_ptr k41_fl24_0 rfl s1_3)) trivial ?_
  refine dh_ld (0) (fun M_ hM_ => (ro_eq (ro_ld_ptr k41_ty9 rfl (agr hM_ mo0_4 (by simp)) up_h (by first | exact Nat.le_of_ble_eq_true rfl | omega | (simp only [lnS] <;> omega) | (simp <;> omega))) (by first | (simp only [packA_t, packA_f, iE, bE, setAt, cellsA, Value.cells, map_vc, map_vn, Nat.reduceAdd, qS] <;> rfl) | rfl))) trivial trivial ?_
  refine dh_ro (fun M_ hM_ => (ro_lit0 k41_sl22)) trivial ?_
  refine dh_ro (fun M_ hM_ => (ro_fld_ptr k41_fl24_1 rfl (up_m rfl (u2 rfl s1_3)))) trivial ?_
  refine dh_ld (0) (fun M_ hM_ => (ro_eq (ro_ld_ptr k41_ty22 rfl (agr hM_ mo0_4 (by simp)) up_h (by first | exact Nat.le_of_ble_eq_true rfl | omega | (simp only [lnS] <;> omega) | (simp <;> omega))) (by first | (simp only [packA_t, packA_f, iE, bE, setAt, cellsA, Value.cells, map_vc, map_vn, Nat.reduceAdd, qS] <;> rfl) | rfl))) trivial trivial ?_
  refine dh_nw (2) (fun M_ hM_ => (nw_ape (by simpa using h0) (by exact pE_plain ps) k41_sl22 rfl (u2 rfl up_h) up_h (by first | omega | (simp only [lnS] <;> omega) | (simp <;> omega)))) trivial mo2_4 rfl trivial ⟨.inl (by simp <;> omega), ⟨.inl (by simp <;> omega), trivial⟩⟩ (fun m_5 hm_5 => ?_)
  have mo2_5 := m_set hm_5 mo2_4
  (try simp only [packA_t, packA_f, iE, bE, setAt, cellsA, Value.cells, map_vc, map_vn, Nat.reduceAdd, qS] at mo2_5)
  have mo1_5 := m_set_o hm_5 mo1_4 (by decide)
  have mo0_5 := m_set_o hm_5 mo0_4 (by decide)
  have ml_5 := m_set_l hm_5 ml_4
  clear hm_5 mo1_4 mo0_4 mo2_4
  refine dh_nil rfl ?_
  refine al_ro' (ro_build (evP_cons (u4 rfl up_h) (evP_cons up_h evP_nil)) k41_bz24 k41_bu24 k41_bp24 rfl) trivial rfl ?_
  refine al_stm (st_storeO (up_m rfl (u2 rfl (u4 rfl s2_3))) up_h rfl (oneL_c rfl (oneL_o mo2_5 oneL_nil)) mo1_5 k41_sz24 rfl (by first | exact Nat.le_of_ble_eq_true rfl | omega | (simp only [lnS] <;> omega) | (simp <;> omega))) trivial rfl (fun m_6 hm_6 => ?_)
  have mo1_6 := m_set hm_6 mo1_5
  (try simp only [packA_t, packA_f, iE, bE, setAt, cellsA, Value.cells, map_vc, map_vn, Nat.reduceAdd, qS] at mo1_6)
  have mo2_6 := m_set_o hm_6 mo2_5 (by decide)
  have mo0_6 := m_set_o hm_6 mo0_5 (by decide)
  have ml_6 := m_set_l hm_6 ml_5
  clear hm_6 mo2_5 mo1_5 mo0_5
  refine al_end (fun e_7 he_7 => ?_)
  have s2_7 := ef 2 he_7 (up_n (up_m rfl (u2 rfl (u4 rfl s2_3))))
  clear he_7 s1_3 s2_3
  refine then_n ?_
  refine aw_ret ?_
  refine retRowH (.inr rfl) (by kernel_rfl) mo2_6 (resV_cell s2_7 mo1_6 k41_ty24 (by first | exact Nat.le_of_ble_eq_true rfl | omega | (simp only [lnS] <;> omega) | (simp <;> omega)) (by simp)) rfl ?_
  first | rfl | (simp; done)
set_option maxRecDepth 100000 in
set_option maxHeartbeats 4000000 in
theorem rJoined_ok (na : ByteArray) (ps : List Piece) (nb : ByteArray) (qs : List Piece) (h0 : ps ≠ []) (hp : ps.length ≤ 1000) (hq : qs.length ≤ 1000) :
    FnOk Try.prog 55 [trA na ps, trA nb qs] (fun q => q = .tuple [trA (if (ps.length : Int) + qs.length ≤ 12 then na else ⟨#[]⟩) (if (ps.length : Int) + qs.length ≤ 12 then ps ++ qs else []), iA (if (ps.length : Int) + qs.length ≤ 12 then 0 else 8)]) := by
  refine fnOk_of (fn := Try.f55) 25 (by kernel_rfl) rfl (by kernel_rfl) (Nat.le_of_ble_eq_true rfl) ?_
  intro e_0 m_0 hA hm_0
  have s0_0 : evA e_0 (.tmp 0) = _ := hA 0 _ rfl
  have s1_0 : evA e_0 (.tmp 1) = _ := hA 1 _ rfl
  have ml_0 : m_0.length = 0 := by rw [hm_0]; rfl
  clear hA hm_0
  refine aw_seq ?_
  refine aw_text (by kernel_rfl) ?_
  refine al_stm (st_box s0_0 rfl ml_0) trivial rfl (fun m_1 hm_1 => ?_)
  have mo0_1 := m_push hm_1 ml_0
  (try simp only [packA_t, packA_f, iE, bE, setAt, cellsA, Value.cells, map_vc, map_vn, Nat.reduceAdd, qS, pE, one_pE, app_m] at mo0_1)
  have ml_1 := m_push_l hm_1 ml_0
  have ml_1 : _ = 1 := ml_1
  clear hm_1
  refine al_stm (st_box (up_m rfl s1_0) rfl ml_1) trivial rfl (fun m_2 hm_2 => ?_)
  have mo1_2 := m_push hm_2 ml_1
  (try simp only [packA_t, packA_f, iE, bE, setAt, cellsA, Value.cells, map_vc, map_vn, Nat.reduceAdd, qS, pE, one_pE, app_m] at mo1_2)
  have mo0_2 := m_push_o hm_2 mo0_1
  have ml_2 := m_push_l hm_2 ml_1
  have ml_2 : _ = 2 := ml_2
  clear hm_2 mo0_1
  refine al_stm (st_alloc k41_az24 rfl ml_2) trivial rfl (fun m_3 hm_3 => ?_)
  have mo2_3 := m_push hm_3 ml_2
  (try simp only [packA_t, packA_f, iE, bE, setAt, cellsA, Value.cells, map_vc, map_vn, Nat.reduceAdd, qS, pE, one_pE, app_m] at mo2_3)
  have mo1_3 := m_push_o hm_3 mo1_2
  have mo0_3 := m_push_o hm_3 mo0_2
  have ml_3 := m_push_l hm_3 ml_2
  have ml_3 : _ = 3 := ml_3
  clear hm_3 mo1_2 mo0_2
  refine al_ro' (ro_assign ev_c) trivial rfl ?_
  refine al_end (fun e_4 he_4 => ?_)
  have s2_4 := ef 2 he_4 (up_m rfl (u2 rfl up_h))
  have s3_4 := ef 3 he_4 (u2 rfl up_h)
  have s4_4 := ef 4 he_4 (up_m rfl up_h)
  clear he_4 s0_0 s1_0
  refine then_n ?_
  refine aw_seq ?_
  refine aw_seq ?_
  refine aw_text (by kernel_rfl) ?_
  refine al_ro' (ro_fld_ptr k41_fl24_1 rfl s2_4) trivial rfl ?_
  refine al_ro' (ro_eq (ro_ld_ptr k41_ty22 rfl mo0_3 up_h (by first | exact Nat.le_of_ble_eq_true rfl | omega | (simp only [lnS] <;> omega) | (simp <;> omega))) (by first | (simp only [packA_t, packA_f, iE, bE, setAt, cellsA, Value.cells, map_vc, map_vn, Nat.reduceAdd, qS, pE, one_pE, app_m] <;> rfl) | rfl)) trivial rfl ?_
  refine al_ro' (ro_eq (ro_len_row up_h rfl k41_sl22.1) (by first | (simp only [lnS] <;> rfl) | rfl)) trivial rfl ?_
  refine al_ro' (ro_fld_ptr k41_fl24_1 rfl (up_m rfl (u2 rfl s3_4))) trivial rfl ?_
  refine al_ro' (ro_eq (ro_ld_ptr k41_ty22 rfl mo1_3 up_h (by first | exact Nat.le_of_ble_eq_true rfl | omega | (simp only [lnS] <;> omega) | (simp <;> omega))) (by first | (simp only [packA_t, packA_f, iE, bE, setAt, cellsA, Value.cells, map_vc, map_vn, Nat.reduceAdd, qS, pE, one_pE, app_m] <;> rfl) | rfl)) trivial rfl ?_
  refine al_ro' (ro_eq (ro_len_row up_h rfl k41_sl22.1) (by first | (simp only [lnS] <;> rfl) | rfl)) trivial rfl ?_
  first | (refine al_ro' (ro_add' (up_m rfl (u2 rfl up_h)) up_h ?_) trivial rfl ?_; · (unfold In64; omega)) | refine al_ro' (ro_add (up_m rfl (u2 rfl up_h)) up_h) trivial rfl ?_
  refine al_ro' (ro_gtr up_h ev_c) trivial rfl ?_
  refine al_end (fun e_5 he_5 => ?_)
  have s2_5 := ef 2 he_5 (u8 rfl s2_4)
  have s3_5 := ef 3 he_5 (u8 rfl s3_4)
  have s4_5 := ef 4 he_5 (u8 rfl s4_4)
  have s14_5 := ef 14 he_5 up_h
  clear he_5 s2_4 s3_4 s4_4
  refine then_n ?_
  refine aw_case s14_5 (fun hq_6 => ?_) (fun hq_6 => ?_)
  · (first | replace hq_6 := bnt hq_6 | replace hq_6 := bnf hq_6 | replace hq_6 := bt hq_6 | replace hq_6 := bf hq_6 | replace hq_6 := bt' hq_6 | replace hq_6 := bf' hq_6 | skip)
    first
    | (cases hq_6; done) | (exfalso; omega)
    | (
       refine aw_seq ?_
       refine aw_text (by kernel_rfl) ?_
       refine al_ro' (ro_build evP_nil k41_bz24 k41_bu24 k41_bp24 rfl) trivial rfl ?_
       refine al_stm (st_store (up_m rfl s4_5) up_h rfl rfl mo2_3 k41_sz24 rfl (by first | exact Nat.le_of_ble_eq_true rfl | omega | (simp only [lnS] <;> omega) | (simp <;> omega))) trivial rfl (fun m_7 hm_7 => ?_)
       have mo2_7 := m_set hm_7 mo2_3
       (try simp only [packA_t, packA_f, iE, bE, setAt, cellsA, Value.cells, map_vc, map_vn, Nat.reduceAdd, qS, pE, one_pE, app_m] at mo2_7)
       have mo1_7 := m_set_o hm_7 mo1_3 (by decide)
       have mo0_7 := m_set_o hm_7 mo0_3 (by decide)
       have ml_7 := m_set_l hm_7 ml_3
       clear hm_7 mo2_3 mo1_3 mo0_3
       refine al_ro' (ro_assign ev_c) trivial rfl ?_
       refine al_end (fun e_8 he_8 => ?_)
       have s4_8 := ef 4 he_8 (up_m rfl (up_n (up_m rfl s4_5)))
       have s5_8 := ef 5 he_8 up_h
       clear he_8 s14_5 s2_5 s3_5 s4_5
       refine then_n ?_
       refine aw_ret ?_
       refine then_r ?_
       refine ret2 (.inr rfl) (by kernel_rfl) (resV_cell s4_8 mo2_7 k41_ty24 (by first | exact Nat.le_of_ble_eq_true rfl | omega | (simp only [lnS] <;> omega) | (simp <;> omega)) (by simp)) (resV_tmp s5_8) (vw_r (vw_agg (vwl_cons (.ro _ rfl) (vwl_cons (.nil 4) vwl_nil)))) (.ro _ rfl) ?_
       clear s4_8 s5_8 mo2_7 mo1_7 mo0_7 ml_7
       (rw [if_neg (by omega), if_neg (by omega), if_neg (by omega)]; first | done | rfl))
  · (first | replace hq_6 := bnt hq_6 | replace hq_6 := bnf hq_6 | replace hq_6 := bt hq_6 | replace hq_6 := bf hq_6 | replace hq_6 := bt' hq_6 | replace hq_6 := bf' hq_6 | skip)
    first
    | (cases hq_6; done) | (exfalso; omega)
    | (
       refine aw_skip ?_
       refine then_n ?_
       refine aw_seq ?_
       refine aw_text (by kernel_rfl) ?_
       refine al_ro' (ro_eq (ro_ld_ptr k41_ty24 rfl mo0_3 s2_5 (by first | exact Nat.le_of_ble_eq_true rfl | omega | (simp only [lnS] <;> omega) | (simp <;> omega))) (by first | (simp only [packA_t, packA_f, iE, bE, setAt, cellsA, Value.cells, map_vc, map_vn, Nat.reduceAdd, qS, pE, one_pE, app_m] <;> rfl) | rfl)) trivial rfl ?_
       refine al_stm (st_callH ml_3 (evL_cons up_h evL_nil) rfl (rCopyOwn_ok na ps h0 (by omega)) k41_hcf18) trivial rfl (fun m_9 hm_9 => ?_)
       have mo3_9 := m_push hm_9 ml_3
       (try simp only [packA_t, packA_f, iE, bE, setAt, cellsA, Value.cells, map_vc, map_vn, Nat.reduceAdd, qS, pE, one_pE, app_m] at mo3_9)
       have mo2_9 := m_push_o hm_9 mo2_3
       have mo1_9 := m_push_o hm_9 mo1_3
       have mo0_9 := m_push_o hm_9 mo0_3
       have ml_9 := m_push_l hm_9 ml_3
       have ml_9 : _ = 4 := ml_9
       clear hm_9 mo2_3 mo1_3 mo0_3
       refine al_stm (st_alloc k41_az24 rfl ml_9) trivial rfl (fun m_10 hm_10 => ?_)
       have mo4_10 := m_push hm_10 ml_9
       (try simp only [packA_t, packA_f, iE, bE, setAt, cellsA, Value.cells, map_vc, map_vn, Nat.reduceAdd, qS, pE, one_pE, app_m] at mo4_10)
       have mo3_10 := m_push_o hm_10 mo3_9
       have mo2_10 := m_push_o hm_10 mo2_9
       have mo1_10 := m_push_o hm_10 mo1_9
       have mo0_10 := m_push_o hm_10 mo0_9
       have ml_10 := m_push_l hm_10 ml_9
       have ml_10 : _ = 5 := ml_10
       clear hm_10 mo3_9 mo2_9 mo1_9 mo0_9
       refine al_stm (st_storeO up_h (up_m rfl up_h) rfl (oneL_c rfl (oneL_o mo3_10 oneL_nil)) mo4_10 k41_sz24 rfl (by first | exact Nat.le_of_ble_eq_true rfl | omega | (simp only [lnS] <;> omega) | (simp <;> omega))) trivial rfl (fun m_11 hm_11 => ?_)
       have mo4_11 := m_set hm_11 mo4_10
       (try simp only [packA_t, packA_f, iE, bE, setAt, cellsA, Value.cells, map_vc, map_vn, Nat.reduceAdd, qS, pE, one_pE, app_m] at mo4_11)
       have mo3_11 := m_set_o hm_11 mo3_10 (by decide)
       have mo2_11 := m_set_o hm_11 mo2_10 (by decide)
       have mo1_11 := m_set_o hm_11 mo1_10 (by decide)
       have mo0_11 := m_set_o hm_11 mo0_10 (by decide)
       have ml_11 := m_set_l hm_11 ml_10
       clear hm_11 mo4_10 mo3_10 mo2_10 mo1_10 mo0_10
       refine al_end (fun e_12 he_12 => ?_)
       have s3_12 := ef 3 he_12 (up_n (up_m rfl (u2 rfl s3_5)))
       have s4_12 := ef 4 he_12 (up_n (up_m rfl (u2 rfl s4_5)))
       have s6_12 := ef 6 he_12 (up_n up_h)
       clear he_12 s14_5 s2_5 s3_5 s4_5
       refine then_n ?_
       refine aw_seq ?_
       refine aw_text (by kernel_rfl) ?_
       refine al_ro' (ro_fld_ptr k41_fl24_1 rfl s6_12) trivial rfl ?_
       refine al_ro' (ro_eq (ro_ld_ptr k41_ty22 rfl mo4_11 up_h (by first | exact Nat.le_of_ble_eq_true rfl | omega | (simp only [lnS] <;> omega) | (simp <;> omega))) (by first | (simp only [packA_t, packA_f, iE, bE, setAt, cellsA, Value.cells, map_vc, map_vn, Nat.reduceAdd, qS, pE, one_pE, app_m] <;> rfl) | rfl)) trivial rfl ?_
       refine al_ro' (ro_fld_ptr k41_fl24_1 rfl (u2 rfl s3_12)) trivial rfl ?_
       refine al_ro' (ro_eq (ro_ld_ptr k41_ty22 rfl mo1_11 up_h (by first | exact Nat.le_of_ble_eq_true rfl | omega | (simp only [lnS] <;> omega) | (simp <;> omega))) (by first | (simp only [packA_t, packA_f, iE, bE, setAt, cellsA, Value.cells, map_vc, map_vn, Nat.reduceAdd, qS, pE, one_pE, app_m] <;> rfl) | rfl)) trivial rfl ?_
       refine al_stm (st_app k41_sl22 rfl ml_11 mo3_11 (u2 rfl up_h) up_h (by first | rfl | (simp [oneA]; done) | (exact pE_one _)) (by first | omega | (simp only [lnS] <;> omega) | (simp <;> omega))) trivial rfl (fun m_13 hm_13 => ?_)
       have mo5_13 := m_swap hm_13 ml_11
       (try simp only [packA_t, packA_f, iE, bE, setAt, cellsA, Value.cells, map_vc, map_vn, Nat.reduceAdd, qS, pE, one_pE, app_m] at mo5_13)
       have mo4_13 := m_swap_o hm_13 mo4_11 (by decide)
       have mo2_13 := m_swap_o hm_13 mo2_11 (by decide)
       have mo1_13 := m_swap_o hm_13 mo1_11 (by decide)
       have mo0_13 := m_swap_o hm_13 mo0_11 (by decide)
       have ml_13 := m_swap_l hm_13 ml_11
       have ml_13 : _ = 6 := ml_13
       clear hm_13 mo4_11 mo3_11 mo2_11 mo1_11 mo0_11
       refine al_ro' (ro_fld_ptr k41_fl24_1 rfl (up_m rfl (u4 rfl s6_12))) trivial rfl ?_
       refine al_stm (st_store_own up_h (up_m rfl up_h) mo4_13 mo5_13 k41_sz22 (by first | exact Nat.le_of_ble_eq_true rfl | omega | (simp only [lnS] <;> omega) | (simp <;> omega))) trivial rfl (fun m_14 hm_14 => ?_)
       have mo4_14 := m_set hm_14 mo4_13
       (try simp only [packA_t, packA_f, iE, bE, setAt, cellsA, Value.cells, map_vc, map_vn, Nat.reduceAdd, qS, pE, one_pE, app_m] at mo4_14)
       have mo5_14 := m_set_o hm_14 mo5_13 (by decide)
       have mo2_14 := m_set_o hm_14 mo2_13 (by decide)
       have mo1_14 := m_set_o hm_14 mo1_13 (by decide)
       have mo0_14 := m_set_o hm_14 mo0_13 (by decide)
       have ml_14 := m_set_l hm_14 ml_13
       clear hm_14 mo5_13 mo4_13 mo2_13 mo1_13 mo0_13
       refine al_end (fun e_15 he_15 => ?_)
       have s4_15 := ef 4 he_15 (up_n (u2 rfl (u4 rfl s4_12)))
       have s6_15 := ef 6 he_15 (up_n (u2 rfl (u4 rfl s6_12)))
       clear he_15 s3_12 s4_12 s6_12
       refine then_n ?_
       refine aw_seq ?_
       refine aw_text (by kernel_rfl) ?_
       refine al_ro' (ro_eq (ro_ld_ptr k41_ty24 rfl mo4_14 s6_15 (by first | exact Nat.le_of_ble_eq_true rfl | omega | (simp only [lnS] <;> omega) | (simp <;> omega))) (by first | (simp only [packA_t, packA_f, iE, bE, setAt, cellsA, Value.cells, map_vc, map_vn, Nat.reduceAdd, qS, pE, one_pE, app_m] <;> rfl) | rfl)) trivial rfl ?_
       refine al_stm (st_storeO (up_m rfl s4_15) up_h rfl (oneL_c rfl (oneL_o mo5_14 oneL_nil)) mo2_14 k41_sz24 rfl (by first | exact Nat.le_of_ble_eq_true rfl | omega | (simp only [lnS] <;> omega) | (simp <;> omega))) trivial rfl (fun m_16 hm_16 => ?_)
       have mo2_16 := m_set hm_16 mo2_14
       (try simp only [packA_t, packA_f, iE, bE, setAt, cellsA, Value.cells, map_vc, map_vn, Nat.reduceAdd, qS, pE, one_pE, app_m] at mo2_16)
       have mo4_16 := m_set_o hm_16 mo4_14 (by decide)
       have mo5_16 := m_set_o hm_16 mo5_14 (by decide)
       have mo1_16 := m_set_o hm_16 mo1_14 (by decide)
       have mo0_16 := m_set_o hm_16 mo0_14 (by decide)
       have ml_16 := m_set_l hm_16 ml_14
       clear hm_16 mo4_14 mo5_14 mo2_14 mo1_14 mo0_14
       refine al_ro' (ro_assign ev_c) trivial rfl ?_
       refine al_end (fun e_17 he_17 => ?_)
       have s4_17 := ef 4 he_17 (up_m rfl (up_n (up_m rfl s4_15)))
       have s5_17 := ef 5 he_17 up_h
       clear he_17 s4_15 s6_15
       refine then_n ?_
       refine aw_ret ?_
       refine ret2 (.inr rfl) (by kernel_rfl) (resV_cell s4_17 mo2_16 k41_ty24 (by first | exact Nat.le_of_ble_eq_true rfl | omega | (simp only [lnS] <;> omega) | (simp <;> omega)) (by simp)) (resV_tmp s5_17) (vw_r (vw_agg (vwl_cons (.ro _ rfl) (vwl_cons (.own _ _ _ _ mo5_16) vwl_nil)))) (.ro _ rfl) ?_
       clear s4_17 s5_17 mo2_16 mo4_16 mo5_16 mo1_16 mo0_16 ml_16
       (rw [if_pos (by omega), if_pos (by omega), if_pos (by omega)]; first | done | rfl | simp [trA]))
end Go.Proofs.Ytelgkjekpcfffaa
