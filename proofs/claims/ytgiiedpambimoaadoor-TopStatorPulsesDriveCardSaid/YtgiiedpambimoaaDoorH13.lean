/- The law of chapter 3: pulses drive as was wanted. The variables of the package hold what the text lays. -/
import Derived.Test.YtgiiedpambimoaaDoorM5
namespace Go.Proofs.YtgiiedpambimoaaDoor
open Go Go.RowKit Go.Proofs
set_option linter.unusedSimpArgs false
set_option linter.unusedVariables false
theorem h13_az24 : (Tryd.prog.info? 24).bind (·.zero) = some (.agg #[.int .i64 0, .int .i64 0]) := by kernel_rfl
theorem h13_az48 : (Tryd.prog.info? 48).bind (·.zero) = some (.agg #[.slice none 0 0, .slice none 0 0]) := by kernel_rfl
theorem h13_ar112 : ArIs Tryd.prog 112 8 2 := ⟨by kernel_rfl, by kernel_rfl⟩
theorem h13_bz24 : (Tryd.prog.info? 24).bind (·.zero) = some (.agg #[.int .i64 0, .int .i64 0]) := by kernel_rfl
theorem h13_bu24 : Tryd.prog.underlying 24 = some (.struct (fsOf Tryd.prog 24)) := by kernel_rfl
theorem h13_bp24 : ∀ w, ((fsOf Tryd.prog 24).mapM fun f => Prod.mk f.offset <$> sizeOf f.type : Sem (Array (Nat × Nat))).run Tryd.prog w = .ok (#[(0, 1), (1, 1)]) w := fun _ => by kernel_rfl
theorem h13_fl24_0 : FldIs Tryd.prog 24 0 0 false 1 := by unfold FldIs; kernel_rfl
theorem h13_fl24_1 : FldIs Tryd.prog 24 1 1 false 1 := by unfold FldIs; kernel_rfl
theorem h13_fl48_0 : FldIs Tryd.prog 48 0 0 false 1 := by unfold FldIs; kernel_rfl
theorem h13_fl48_1 : FldIs Tryd.prog 48 1 1 false 1 := by unfold FldIs; kernel_rfl
theorem h13_fl96_1 : FldIs Tryd.prog 96 1 1 false 1 := by unfold FldIs; kernel_rfl
theorem h13_hcf18 : ∀ args w, (callFunc 18 args).run Tryd.prog w = .ok (.enter 18 args) w := fun _ _ => by kernel_rfl
theorem h13_hcf19 : ∀ args w, (callFunc 19 args).run Tryd.prog w = .ok (.enter 19 args) w := fun _ _ => by kernel_rfl
theorem h13_hcf20 : ∀ args w, (callFunc 20 args).run Tryd.prog w = .ok (.enter 20 args) w := fun _ _ => by kernel_rfl
theorem h13_hcf21 : ∀ args w, (callFunc 21 args).run Tryd.prog w = .ok (.enter 21 args) w := fun _ _ => by kernel_rfl
theorem h13_hcf22 : ∀ args w, (callFunc 22 args).run Tryd.prog w = .ok (.enter 22 args) w := fun _ _ => by kernel_rfl
theorem h13_hcf23 : ∀ args w, (callFunc 23 args).run Tryd.prog w = .ok (.enter 23 args) w := fun _ _ => by kernel_rfl
theorem h13_hcf24 : ∀ args w, (callFunc 24 args).run Tryd.prog w = .ok (.enter 24 args) w := fun _ _ => by kernel_rfl
theorem h13_hcf25 : ∀ args w, (callFunc 25 args).run Tryd.prog w = .ok (.enter 25 args) w := fun _ _ => by kernel_rfl
theorem h13_hcf26 : ∀ args w, (callFunc 26 args).run Tryd.prog w = .ok (.enter 26 args) w := fun _ _ => by kernel_rfl
theorem h13_hcf32 : ∀ args w, (callFunc 32 args).run Tryd.prog w = .ok (.enter 32 args) w := fun _ _ => by kernel_rfl
theorem h13_hcf46 : ∀ args w, (callFunc 46 args).run Tryd.prog w = .ok (.enter 46 args) w := fun _ _ => by kernel_rfl
theorem h13_hcf55 : ∀ args w, (callFunc 55 args).run Tryd.prog w = .ok (.enter 55 args) w := fun _ _ => by kernel_rfl
theorem h13_hcf59 : ∀ args w, (callFunc 59 args).run Tryd.prog w = .ok (.enter 59 args) w := fun _ _ => by kernel_rfl
theorem h13_hcf62 : ∀ args w, (callFunc 62 args).run Tryd.prog w = .ok (.enter 62 args) w := fun _ _ => by kernel_rfl
theorem h13_hcf63 : ∀ args w, (callFunc 63 args).run Tryd.prog w = .ok (.enter 63 args) w := fun _ _ => by kernel_rfl
theorem h13_sl43 : SlIs Tryd.prog 43 24 2 16 (.agg #[.int .i64 0, .int .i64 0]) := ⟨by kernel_rfl, by kernel_rfl, by kernel_rfl⟩
theorem h13_sl46 : SlIs Tryd.prog 46 3 1 8 (.int .i64 0) := ⟨by kernel_rfl, by kernel_rfl, by kernel_rfl⟩
theorem h13_sz24 : (Tryd.prog.info? 24).map (·.size) = some 2 := by kernel_rfl
theorem h13_sz48 : (Tryd.prog.info? 48).map (·.size) = some 2 := by kernel_rfl
theorem h13_ty24 : TyIs Tryd.prog 24 true 2 := ⟨by kernel_rfl, by kernel_rfl⟩
theorem h13_ty3 : TyIs Tryd.prog 3 false 1 := ⟨by kernel_rfl, by kernel_rfl⟩
theorem h13_ty43 : TyIs Tryd.prog 43 false 1 := ⟨by kernel_rfl, by kernel_rfl⟩
theorem h13_ty46 : TyIs Tryd.prog 46 false 1 := ⟨by kernel_rfl, by kernel_rfl⟩
theorem h13_ty96 : TyIs Tryd.prog 96 true 2 := ⟨by kernel_rfl, by kernel_rfl⟩

set_option maxRecDepth 100000 in
set_option maxHeartbeats 1000000 in
theorem forceOf_ok (u v : V2) (hu : Bd 100000 u) (hv : Bd 100000 v) : FnOk Tryd.prog 25 [tA u, tA v] (fun q => q = .tuple [nA (prodV u v).2, nA 0]) := by
  have hr : rightE [u, v] = 0 := bd_right (by simp; exact ⟨hu, hv⟩)
  refine fnOk_of (fn := Tryd.f25) 18 (by kernel_rfl) rfl (by kernel_rfl) (Nat.le_of_ble_eq_true rfl) ?_
  intro e_0 m_0 hA hm_0
  have s0_0 : evA e_0 (.tmp 0) = _ := hA 0 _ rfl
  have s1_0 : evA e_0 (.tmp 1) = _ := hA 1 _ rfl
  have ml_0 : m_0.length = 0 := by rw [hm_0]; rfl
  clear hA hm_0
  refine aw_seq ?_
  refine aw_text (by kernel_rfl) ?_
  refine al_stm (st_box s0_0 rfl ml_0) trivial rfl (fun m_1 hm_1 => ?_)
  have mo0_1 := m_push hm_1 ml_0
  (try simp only [packA_t, packA_f, iE, bE, setAt, cellsA, Value.cells, map_vc, map_vn, Nat.reduceAdd, qS] at mo0_1)
  have ml_1 := m_push_l hm_1 ml_0
  have ml_1 : _ = 1 := ml_1
  clear hm_1
  refine al_stm (st_box (up_m rfl s1_0) rfl ml_1) trivial rfl (fun m_2 hm_2 => ?_)
  have mo1_2 := m_push hm_2 ml_1
  (try simp only [packA_t, packA_f, iE, bE, setAt, cellsA, Value.cells, map_vc, map_vn, Nat.reduceAdd, qS] at mo1_2)
  have mo0_2 := m_push_o hm_2 mo0_1
  have ml_2 := m_push_l hm_2 ml_1
  have ml_2 : _ = 2 := ml_2
  clear hm_2 mo0_1
  refine al_ro' (ro_assign ev_c) trivial rfl ?_
  refine al_ro' (ro_assign ev_c) trivial rfl ?_
  refine al_end (fun e_3 he_3 => ?_)
  have s2_3 := ef 2 he_3 (up_m rfl (u2 rfl up_h))
  have s3_3 := ef 3 he_3 (u2 rfl up_h)
  clear he_3 s0_0 s1_0
  refine then_n ?_
  refine aw_seq ?_
  refine aw_seq ?_
  refine aw_text (by kernel_rfl) ?_
  refine al_ro' (ro_eq (ro_ld_ptr h13_ty24 rfl mo0_2 s2_3 (by first | exact Nat.le_of_ble_eq_true rfl | omega | (simp only [lnS] <;> omega) | (simp <;> omega))) (by first | (simp only [packA_t, packA_f, iE, bE, setAt, cellsA, Value.cells, map_vc, map_vn, Nat.reduceAdd, qS] <;> rfl) | rfl)) trivial rfl ?_
  refine al_ro' (ro_eq (ro_ld_ptr h13_ty24 rfl mo1_2 (up_m rfl s3_3) (by first | exact Nat.le_of_ble_eq_true rfl | omega | (simp only [lnS] <;> omega) | (simp <;> omega))) (by first | (simp only [packA_t, packA_f, iE, bE, setAt, cellsA, Value.cells, map_vc, map_vn, Nat.reduceAdd, qS] <;> rfl) | rfl)) trivial rfl ?_
  refine al_ro' (ro_lit h13_sl43 (evP_cons (up_m rfl up_h) (evP_cons up_h evP_nil)) rfl rfl rfl rfl) trivial rfl ?_
  refine al_ro' (ro_call (evL_cons up_h evL_nil) rfl ((right_ok [u, v] (by simp)).mono (fun q h => h.trans (by rw [hr]))) h13_hcf59) trivial rfl ?_
  refine al_ro' (ro_assign up_h) trivial rfl ?_
  refine al_end (fun e_4 he_4 => ?_)
  have s2_4 := ef 2 he_4 (up_m rfl (u4 rfl s2_3))
  have s3_4 := ef 3 he_4 (up_m rfl (u4 rfl s3_3))
  have s6_4 := ef 6 he_4 up_h
  clear he_4 s2_3 s3_3
  refine then_n ?_
  refine aw_seq ?_
  refine aw_text (by kernel_rfl) ?_
  refine al_ro' (ro_move s6_4) trivial rfl ?_
  refine al_ro' (ro_neq up_h ev_c) trivial rfl ?_
  refine al_end (fun e_5 he_5 => ?_)
  have s2_5 := ef 2 he_5 (u2 rfl s2_4)
  have s3_5 := ef 3 he_5 (u2 rfl s3_4)
  have s6_5 := ef 6 he_5 (u2 rfl s6_4)
  have s12_5 := ef 12 he_5 up_h
  clear he_5 s2_4 s3_4 s6_4
  refine then_n ?_
  refine aw_case s12_5 (fun hq_6 => ?_) (fun hq_6 => ?_)
  · (first | replace hq_6 := bnt hq_6 | replace hq_6 := bnf hq_6 | replace hq_6 := bt hq_6 | replace hq_6 := bf hq_6 | replace hq_6 := bt' hq_6 | replace hq_6 := bf' hq_6 | skip)
    first
    | (cases hq_6; done) | (exfalso; omega)
    | (
       refine aw_seq ?_
       refine aw_text (by kernel_rfl) ?_
       refine al_ro' (ro_move s6_5) trivial rfl ?_
       refine al_ro' (ro_assign ev_c) trivial rfl ?_
       refine al_ro' (ro_assign (up_m rfl up_h)) trivial rfl ?_
       refine al_end (fun e_7 he_7 => ?_)
       have s4_7 := ef 4 he_7 (up_m rfl up_h)
       have s5_7 := ef 5 he_7 up_h
       clear he_7 s12_5 s2_5 s3_5 s6_5
       refine then_n ?_
       refine aw_ret ?_
       refine then_r ?_
       refine ret2 (.inr rfl) (by kernel_rfl) (resV_tmp s4_7) (resV_tmp s5_7) (.ro _ rfl) (.ro _ rfl) ?_
       clear s4_7 s5_7 mo1_2 mo0_2 ml_2
       rfl)
  · (first | replace hq_6 := bnt hq_6 | replace hq_6 := bnf hq_6 | replace hq_6 := bt hq_6 | replace hq_6 := bf hq_6 | replace hq_6 := bt' hq_6 | replace hq_6 := bf' hq_6 | skip)
    first
    | (cases hq_6; done) | (exfalso; omega)
    | (
       refine aw_skip ?_
       refine then_n ?_
       refine aw_seq ?_
       refine aw_text (by kernel_rfl) ?_
       refine al_ro' (ro_eq (ro_ld_ptr h13_ty24 rfl mo0_2 s2_5 (by first | exact Nat.le_of_ble_eq_true rfl | omega | (simp only [lnS] <;> omega) | (simp <;> omega))) (by first | (simp only [packA_t, packA_f, iE, bE, setAt, cellsA, Value.cells, map_vc, map_vn, Nat.reduceAdd, qS] <;> rfl) | rfl)) trivial rfl ?_
       refine al_ro' (ro_eq (ro_ld_ptr h13_ty24 rfl mo1_2 (up_m rfl s3_5) (by first | exact Nat.le_of_ble_eq_true rfl | omega | (simp only [lnS] <;> omega) | (simp <;> omega))) (by first | (simp only [packA_t, packA_f, iE, bE, setAt, cellsA, Value.cells, map_vc, map_vn, Nat.reduceAdd, qS] <;> rfl) | rfl)) trivial rfl ?_
       refine al_ro' (ro_call (evL_cons (up_m rfl up_h) (evL_cons up_h evL_nil)) rfl (product_ok u v (hu.mono (by decide)) (hv.mono (by decide))) h13_hcf62) trivial rfl ?_
       refine al_ro' (ro_eq (ro_fld h13_fl96_1 up_h (by first | exact Nat.le_of_ble_eq_true rfl | omega | (simp only [lnS] <;> omega) | (simp <;> omega)) rfl) (by first | (simp only [packA_t, packA_f, iE, bE, setAt, cellsA, Value.cells, map_vc, map_vn, Nat.reduceAdd, qS] <;> rfl) | rfl)) trivial rfl ?_
       refine al_ro' (ro_assign up_h) trivial rfl ?_
       refine al_ro' (ro_assign ev_c) trivial rfl ?_
       refine al_end (fun e_8 he_8 => ?_)
       have s4_8 := ef 4 he_8 (up_m rfl up_h)
       have s5_8 := ef 5 he_8 up_h
       clear he_8 s12_5 s2_5 s3_5 s6_5
       refine then_n ?_
       refine aw_ret ?_
       refine ret2 (.inr rfl) (by kernel_rfl) (resV_tmp s4_8) (resV_tmp s5_8) (.ro _ rfl) (.ro _ rfl) ?_
       clear s4_8 s5_8 mo1_2 mo0_2 ml_2
       rfl)
set_option maxRecDepth 100000 in
set_option maxHeartbeats 1000000 in
theorem stateVector_ok (z : Int) (hz : 0 ≤ z ∧ z ≤ 7) : FnOkG Tryd.prog gT 26 [nA z] (fun q => q = .tuple [tA (stA.getD z.toNat default), nA 0]) := by
  have hsl : stA.length = 8 := rfl
  have hw : withinB z 0 7 = true := by simp [withinB]; omega
  refine fnOkG_of (fn := Tryd.f26) gT 11 (by kernel_rfl) rfl (by kernel_rfl) (Nat.le_of_ble_eq_true rfl) ?_
  intro e_0 m_0 hA hm_0
  have s0_0 : evA e_0 (.tmp 0) = _ := hA 0 _ rfl
  have ml_0 : m_0.length = 1 := by rw [hm_0]; rfl
  have mo0_0 : m_0[0]? = some (.glob gT) := by rw [hm_0]; rfl
  clear hA hm_0
  refine aw_seq ?_
  refine aw_text (by kernel_rfl) ?_
  refine al_stm (st_alloc h13_az24 rfl ml_0) trivial rfl (fun m_1 hm_1 => ?_)
  have mo1_1 := m_push hm_1 ml_0
  (try simp only [packA_t, packA_f, iE, bE, setAt, cellsA, Value.cells, map_vc, map_vn, Nat.reduceAdd, qS, tE] at mo1_1)
  have mo0_1 := m_push_o hm_1 mo0_0
  have ml_1 := m_push_l hm_1 ml_0
  have ml_1 : _ = 2 := ml_1
  clear hm_1 mo0_0
  refine al_ro' (ro_assign ev_c) trivial rfl ?_
  refine al_end (fun e_2 he_2 => ?_)
  have s0_2 := ef 0 he_2 (u2 rfl s0_0)
  have s2_2 := ef 2 he_2 (up_m rfl up_h)
  clear he_2 s0_0
  refine then_n ?_
  refine aw_seq ?_
  refine aw_seq ?_
  refine aw_text (by kernel_rfl) ?_
  refine al_ro' (ro_move s0_2) trivial rfl ?_
  refine al_ro' (ro_call (evL_cons up_h (evL_cons ev_c (evL_cons ev_c evL_nil))) rfl ((sWithin_ok _ _ _).mono (fun q h => h.trans (by rw [hw]))) h13_hcf63) trivial rfl ?_
  refine al_ro' (ro_not up_h) trivial rfl ?_
  refine al_end (fun e_3 he_3 => ?_)
  have s0_3 := ef 0 he_3 (up_m rfl (u2 rfl s0_2))
  have s2_3 := ef 2 he_3 (up_m rfl (u2 rfl s2_2))
  have s6_3 := ef 6 he_3 up_h
  clear he_3 s0_2 s2_2
  refine then_n ?_
  refine aw_case s6_3 (fun hq_4 => ?_) (fun hq_4 => ?_)
  · (first | replace hq_4 := bnt hq_4 | replace hq_4 := bnf hq_4 | replace hq_4 := bt hq_4 | replace hq_4 := bf hq_4 | replace hq_4 := bt' hq_4 | replace hq_4 := bf' hq_4 | skip)
    first
    | (cases hq_4; done) | (exfalso; omega)
    | (
       refine aw_seq ?_
       refine aw_text (by kernel_rfl) ?_
       refine al_ro' (ro_build evP_nil h13_bz24 h13_bu24 h13_bp24 rfl) trivial rfl ?_
       refine al_stm (st_store (up_m rfl s2_3) up_h rfl rfl mo1_1 h13_sz24 rfl (by first | exact Nat.le_of_ble_eq_true rfl | omega | (simp only [lnS] <;> omega) | (simp <;> omega))) trivial rfl (fun m_5 hm_5 => ?_)
       have mo1_5 := m_set hm_5 mo1_1
       (try simp only [packA_t, packA_f, iE, bE, setAt, cellsA, Value.cells, map_vc, map_vn, Nat.reduceAdd, qS, tE] at mo1_5)
       have mo0_5 := m_set_o hm_5 mo0_1 (by decide)
       have ml_5 := m_set_l hm_5 ml_1
       clear hm_5 mo1_1 mo0_1
       refine al_ro' (ro_assign ev_c) trivial rfl ?_
       refine al_end (fun e_6 he_6 => ?_)
       have s2_6 := ef 2 he_6 (up_m rfl (up_n (up_m rfl s2_3)))
       have s3_6 := ef 3 he_6 up_h
       clear he_6 s0_3 s2_3 s6_3
       refine then_n ?_
       refine aw_ret ?_
       refine then_r ?_
       refine ret2 (.inr rfl) (by kernel_rfl) (resV_cell s2_6 mo1_5 h13_ty24 (by first | exact Nat.le_of_ble_eq_true rfl | omega | (simp only [lnS] <;> omega) | (simp <;> omega)) (by simp)) (resV_tmp s3_6) (vw_r (.ro _ rfl)) (.ro _ rfl) ?_
       clear s2_6 s3_6 mo1_5 mo0_5 ml_5
       rfl)
  · (first | replace hq_4 := bnt hq_4 | replace hq_4 := bnf hq_4 | replace hq_4 := bt hq_4 | replace hq_4 := bf hq_4 | replace hq_4 := bt' hq_4 | replace hq_4 := bf' hq_4 | skip)
    first
    | (cases hq_4; done) | (exfalso; omega)
    | (
       refine aw_skip ?_
       refine then_n ?_
       refine aw_seq ?_
       refine aw_text (by kernel_rfl) ?_
       refine al_ro' (ro_move s0_3) trivial rfl ?_
       refine al_ro' (ro_eq (ro_ixg h13_ar112 mo0_1 rfl rfl (by rintro l hl; obtain ⟨_, _, rfl⟩ := List.mem_map.1 hl; rfl) up_h (by first | decide | omega | (simp <;> omega)) (by first | omega | (simp only [lnS] <;> omega) | (simp <;> omega)) (by first | (refine idx_map ?_; first | omega | (simp only [lnS]; omega)) | (refine idx_mapI ?_; first | omega | (simp only [lnS]; omega)) | (refine idx_mapN ?_; first | omega | (simp only [lnS]; omega)) | rfl)) (by first | (simp only [packA_t, packA_f, iE, bE, setAt, cellsA, Value.cells, map_vc, map_vn, Nat.reduceAdd, qS, tE] <;> rfl) | rfl)) trivial rfl ?_
       refine al_ro' (ro_eq (ro_ld_ref h13_ty96 rfl up_h (by first | exact Nat.le_of_ble_eq_true rfl | omega | (simp only [lnS] <;> omega) | (simp <;> omega))) (by first | (simp only [packA_t, packA_f, iE, bE, setAt, cellsA, Value.cells, map_vc, map_vn, Nat.reduceAdd, qS, tE] <;> rfl) | rfl)) trivial rfl ?_
       refine al_stm (st_store (up_m rfl (u2 rfl s2_3)) up_h rfl rfl mo1_1 h13_sz24 rfl (by first | exact Nat.le_of_ble_eq_true rfl | omega | (simp only [lnS] <;> omega) | (simp <;> omega))) trivial rfl (fun m_7 hm_7 => ?_)
       have mo1_7 := m_set hm_7 mo1_1
       (try simp only [packA_t, packA_f, iE, bE, setAt, cellsA, Value.cells, map_vc, map_vn, Nat.reduceAdd, qS, tE] at mo1_7)
       have mo0_7 := m_set_o hm_7 mo0_1 (by decide)
       have ml_7 := m_set_l hm_7 ml_1
       clear hm_7 mo1_1 mo0_1
       refine al_ro' (ro_assign ev_c) trivial rfl ?_
       refine al_end (fun e_8 he_8 => ?_)
       have s2_8 := ef 2 he_8 (up_m rfl (up_n (up_m rfl (u2 rfl s2_3))))
       have s3_8 := ef 3 he_8 up_h
       clear he_8 s0_3 s2_3 s6_3
       refine then_n ?_
       refine aw_ret ?_
       refine ret2 (.inr rfl) (by kernel_rfl) (resV_cell s2_8 mo1_7 h13_ty24 (by first | exact Nat.le_of_ble_eq_true rfl | omega | (simp only [lnS] <;> omega) | (simp <;> omega)) (by simp)) (resV_tmp s3_8) (vw_r (.ro _ rfl)) (.ro _ rfl) ?_
       clear s2_8 s3_8 mo1_7 mo0_7 ml_7
       rfl)
def smB (v : V2) : Bool := withinB v.1 (-1000) 1000 && withinB v.2 (-1000) 1000
theorem smB_bd {v : V2} (h : smB v = true) : Bd 1000 v := by
  simp only [smB, withinB, Bool.and_eq_true, decide_eq_true_eq] at h
  exact h
set_option maxRecDepth 100000 in
set_option maxHeartbeats 1000000 in
theorem statorSmall_ok (v : V2) : FnOk Tryd.prog 21 [tA v] (fun q => q = oA (smB v)) := by
  refine fnOk_of (fn := Tryd.f21) 11 (by kernel_rfl) rfl (by kernel_rfl) (Nat.le_of_ble_eq_true rfl) ?_
  intro e_0 m_0 hA hm_0
  have s0_0 : evA e_0 (.tmp 0) = _ := hA 0 _ rfl
  have ml_0 : m_0.length = 0 := by rw [hm_0]; rfl
  clear hA hm_0
  refine aw_seq ?_
  refine aw_text (by kernel_rfl) ?_
  refine al_stm (st_box s0_0 rfl ml_0) trivial rfl (fun m_1 hm_1 => ?_)
  have mo0_1 := m_push hm_1 ml_0
  (try simp only [packA_t, packA_f, iE, bE, setAt, cellsA, Value.cells, map_vc, map_vn, Nat.reduceAdd, qS] at mo0_1)
  have ml_1 := m_push_l hm_1 ml_0
  have ml_1 : _ = 1 := ml_1
  clear hm_1
  refine al_ro' (ro_assign ev_c) trivial rfl ?_
  refine al_end (fun e_2 he_2 => ?_)
  have s1_2 := ef 1 he_2 (up_m rfl up_h)
  clear he_2 s0_0
  refine then_n ?_
  refine aw_seq ?_
  refine aw_text (by kernel_rfl) ?_
  refine al_ro' (ro_fld_ptr h13_fl24_0 rfl s1_2) trivial rfl ?_
  refine al_ro' (ro_eq (ro_ld_ptr h13_ty3 rfl mo0_1 up_h (by first | exact Nat.le_of_ble_eq_true rfl | omega | (simp only [lnS] <;> omega) | (simp <;> omega))) (by first | (simp only [packA_t, packA_f, iE, bE, setAt, cellsA, Value.cells, map_vc, map_vn, Nat.reduceAdd, qS] <;> rfl) | rfl)) trivial rfl ?_
  refine al_ro' (ro_call (evL_cons up_h (evL_cons ev_c (evL_cons ev_c evL_nil))) rfl (bWithin_ok _ _ _) h13_hcf18) trivial rfl ?_
  refine al_ro' (ro_move up_h) trivial rfl ?_
  refine al_case up_h (fun hb_3 hq_3 => ?_) (fun hb_3 hq_3 => ?_)
  · (first | replace hq_3 := bnt hq_3 | replace hq_3 := bnf hq_3 | replace hq_3 := bt hq_3 | replace hq_3 := bf hq_3 | replace hq_3 := bt' hq_3 | replace hq_3 := bf' hq_3 | skip)
    first
    | (cases hq_3; done) | (exfalso; omega)
    | (
       refine al_ro' (ro_fld_ptr h13_fl24_1 rfl (u4 rfl s1_2)) ⟨_, rfl, hb_3⟩ rfl ?_
       refine al_ro' (ro_eq (ro_ld_ptr h13_ty3 rfl mo0_1 up_h (by first | exact Nat.le_of_ble_eq_true rfl | omega | (simp only [lnS] <;> omega) | (simp <;> omega))) (by first | (simp only [packA_t, packA_f, iE, bE, setAt, cellsA, Value.cells, map_vc, map_vn, Nat.reduceAdd, qS] <;> rfl) | rfl)) ⟨_, rfl, (up_m rfl hb_3)⟩ rfl ?_
       refine al_ro' (ro_call (evL_cons up_h (evL_cons ev_c (evL_cons ev_c evL_nil))) rfl (bWithin_ok _ _ _) h13_hcf18) ⟨_, rfl, (u2 rfl hb_3)⟩ rfl ?_
       refine al_ro' (ro_pickT (up_m rfl (u2 rfl hb_3)) up_h) trivial rfl ?_
       refine al_ro' (ro_assign up_h) trivial rfl ?_
       refine al_end (fun e_4 he_4 => ?_)
       have s2_4 := ef 2 he_4 up_h
       clear he_4 hb_3 s1_2
       refine then_n ?_
       refine aw_ret ?_
       refine ret1 (.inr rfl) (by kernel_rfl) (resV_tmp s2_4) (.ro _ rfl) ?_
       clear s2_4 mo0_1 ml_1
       (first | rfl | (simp [smB, *]; done) | (simp [smB, *] <;> omega) | (simp_all [smB]; done) | (simp_all [smB] <;> omega)))
  · (first | replace hq_3 := bnt hq_3 | replace hq_3 := bnf hq_3 | replace hq_3 := bt hq_3 | replace hq_3 := bf hq_3 | replace hq_3 := bt' hq_3 | replace hq_3 := bf' hq_3 | skip)
    first
    | (cases hq_3; done) | (exfalso; omega)
    | (
       refine al_skip' ⟨_, rfl, .inl hb_3⟩ rfl ?_
       refine al_skip' ⟨_, rfl, .inl (up_m rfl hb_3)⟩ rfl ?_
       refine al_skip' ⟨_, rfl, .inl (u2 rfl hb_3)⟩ rfl ?_
       refine al_ro' (ro_pickF (up_m rfl (u2 rfl hb_3)) ev_c) trivial rfl ?_
       refine al_ro' (ro_assign up_h) trivial rfl ?_
       refine al_end (fun e_5 he_5 => ?_)
       have s2_5 := ef 2 he_5 up_h
       clear he_5 hb_3 s1_2
       refine then_n ?_
       refine aw_ret ?_
       refine ret1 (.inr rfl) (by kernel_rfl) (resV_tmp s2_5) (.ro _ rfl) ?_
       clear s2_5 mo0_1 ml_1
       (first | rfl | (simp [smB, *]; done) | (simp [smB, *] <;> omega) | (simp_all [smB]; done) | (simp_all [smB] <;> omega)))
def nrB (s : Int) (v : V2) : Bool := smallB (2 * v.1 - v.2) s && smallB (2 * v.2 - v.1) s && smallB (v.1 + v.2) s
theorem nrB_nr {s : Int} {v : V2} (h : nrB s v = true) : Nr s v := by
  simp only [nrB, smallB, withinB, Bool.and_eq_true, decide_eq_true_eq] at h
  unfold Nr; omega
set_option maxRecDepth 100000 in
set_option maxHeartbeats 1000000 in
theorem rIsNear_ok (s : Int) (v : V2) (hv : Bd 100000 v) (hs : 0 ≤ s ∧ s ≤ 100000) : FnOk Tryd.prog 22 [nA s, tA v] (fun q => q = oA (nrB s v)) := by
  obtain ⟨⟨b1, b2⟩, b3, b4⟩ := hv
  refine fnOk_of (fn := Tryd.f22) 32 (by kernel_rfl) rfl (by kernel_rfl) (Nat.le_of_ble_eq_true rfl) ?_
  intro e_0 m_0 hA hm_0
  have s0_0 : evA e_0 (.tmp 0) = _ := hA 0 _ rfl
  have s1_0 : evA e_0 (.tmp 1) = _ := hA 1 _ rfl
  have ml_0 : m_0.length = 0 := by rw [hm_0]; rfl
  clear hA hm_0
  refine aw_seq ?_
  refine aw_text (by kernel_rfl) ?_
  refine al_stm (st_box s1_0 rfl ml_0) trivial rfl (fun m_1 hm_1 => ?_)
  have mo0_1 := m_push hm_1 ml_0
  (try simp only [packA_t, packA_f, iE, bE, setAt, cellsA, Value.cells, map_vc, map_vn, Nat.reduceAdd, qS] at mo0_1)
  have ml_1 := m_push_l hm_1 ml_0
  have ml_1 : _ = 1 := ml_1
  clear hm_1
  refine al_ro' (ro_assign ev_c) trivial rfl ?_
  refine al_end (fun e_2 he_2 => ?_)
  have s0_2 := ef 0 he_2 (u2 rfl s0_0)
  have s3_2 := ef 3 he_2 (up_m rfl up_h)
  clear he_2 s0_0 s1_0
  refine then_n ?_
  refine aw_seq ?_
  refine aw_text (by kernel_rfl) ?_
  refine al_ro' (ro_fld_ptr h13_fl24_0 rfl s3_2) trivial rfl ?_
  refine al_ro' (ro_eq (ro_ld_ptr h13_ty3 rfl mo0_1 up_h (by first | exact Nat.le_of_ble_eq_true rfl | omega | (simp only [lnS] <;> omega) | (simp <;> omega))) (by first | (simp only [packA_t, packA_f, iE, bE, setAt, cellsA, Value.cells, map_vc, map_vn, Nat.reduceAdd, qS] <;> rfl) | rfl)) trivial rfl ?_
  first | (refine al_ro' (ro_mul' ev_c up_h ?_) trivial rfl ?_; · (unfold In64; omega)) | refine al_ro' (ro_mul ev_c up_h) trivial rfl ?_
  refine al_ro' (ro_fld_ptr h13_fl24_1 rfl (up_m rfl (u2 rfl s3_2))) trivial rfl ?_
  refine al_ro' (ro_eq (ro_ld_ptr h13_ty3 rfl mo0_1 up_h (by first | exact Nat.le_of_ble_eq_true rfl | omega | (simp only [lnS] <;> omega) | (simp <;> omega))) (by first | (simp only [packA_t, packA_f, iE, bE, setAt, cellsA, Value.cells, map_vc, map_vn, Nat.reduceAdd, qS] <;> rfl) | rfl)) trivial rfl ?_
  first | (refine al_ro' (ro_sub' (u2 rfl up_h) up_h ?_) trivial rfl ?_; · (unfold In64; omega)) | refine al_ro' (ro_sub (u2 rfl up_h) up_h) trivial rfl ?_
  refine al_ro' (ro_move (u2 rfl (u4 rfl s0_2))) trivial rfl ?_
  refine al_ro' (ro_call (evL_cons (up_m rfl up_h) (evL_cons up_h evL_nil)) rfl (rSize_ok _ _ (by omega)) h13_hcf55) trivial rfl ?_
  refine al_ro' (ro_move up_h) trivial rfl ?_
  refine al_case up_h (fun hb_3 hq_3 => ?_) (fun hb_3 hq_3 => ?_)
  · (first | replace hq_3 := bnt hq_3 | replace hq_3 := bnf hq_3 | replace hq_3 := bt hq_3 | replace hq_3 := bf hq_3 | replace hq_3 := bt' hq_3 | replace hq_3 := bf' hq_3 | skip)
    first
    | (cases hq_3; done) | (exfalso; omega)
    | (
       refine al_ro' (ro_fld_ptr h13_fl24_1 rfl (up_m rfl (u8 rfl s3_2))) ⟨_, rfl, hb_3⟩ rfl ?_
       refine al_ro' (ro_eq (ro_ld_ptr h13_ty3 rfl mo0_1 up_h (by first | exact Nat.le_of_ble_eq_true rfl | omega | (simp only [lnS] <;> omega) | (simp <;> omega))) (by first | (simp only [packA_t, packA_f, iE, bE, setAt, cellsA, Value.cells, map_vc, map_vn, Nat.reduceAdd, qS] <;> rfl) | rfl)) ⟨_, rfl, (up_m rfl hb_3)⟩ rfl ?_
       first | (refine al_ro' (ro_mul' ev_c up_h ?_) ⟨_, rfl, (u2 rfl hb_3)⟩ rfl ?_; · (unfold In64; omega)) | refine al_ro' (ro_mul ev_c up_h) ⟨_, rfl, (u2 rfl hb_3)⟩ rfl ?_
       refine al_ro' (ro_fld_ptr h13_fl24_0 rfl (u4 rfl (u8 rfl s3_2))) ⟨_, rfl, (up_m rfl (u2 rfl hb_3))⟩ rfl ?_
       refine al_ro' (ro_eq (ro_ld_ptr h13_ty3 rfl mo0_1 up_h (by first | exact Nat.le_of_ble_eq_true rfl | omega | (simp only [lnS] <;> omega) | (simp <;> omega))) (by first | (simp only [packA_t, packA_f, iE, bE, setAt, cellsA, Value.cells, map_vc, map_vn, Nat.reduceAdd, qS] <;> rfl) | rfl)) ⟨_, rfl, (u4 rfl hb_3)⟩ rfl ?_
       first | (refine al_ro' (ro_sub' (u2 rfl up_h) up_h ?_) ⟨_, rfl, (up_m rfl (u4 rfl hb_3))⟩ rfl ?_; · (unfold In64; omega)) | refine al_ro' (ro_sub (u2 rfl up_h) up_h) ⟨_, rfl, (up_m rfl (u4 rfl hb_3))⟩ rfl ?_
       refine al_ro' (ro_move (up_m rfl (u2 rfl (u4 rfl (u8 rfl s0_2))))) ⟨_, rfl, (u2 rfl (u4 rfl hb_3))⟩ rfl ?_
       refine al_ro' (ro_call (evL_cons (up_m rfl up_h) (evL_cons up_h evL_nil)) rfl (rSize_ok _ _ (by omega)) h13_hcf55) ⟨_, rfl, (up_m rfl (u2 rfl (u4 rfl hb_3)))⟩ rfl ?_
       refine al_ro' (ro_pickT (u8 rfl hb_3) up_h) trivial rfl ?_
       refine al_ro' (ro_move up_h) trivial rfl ?_
       refine al_case up_h (fun hb_4 hq_4 => ?_) (fun hb_4 hq_4 => ?_)
       · (first | replace hq_4 := bnt hq_4 | replace hq_4 := bnf hq_4 | replace hq_4 := bt hq_4 | replace hq_4 := bf hq_4 | replace hq_4 := bt' hq_4 | replace hq_4 := bf' hq_4 | skip)
         first
         | (cases hq_4; done) | (exfalso; omega)
         | (
            refine al_ro' (ro_fld_ptr h13_fl24_0 rfl (up_m rfl (u2 rfl (u16 rfl s3_2)))) ⟨_, rfl, hb_4⟩ rfl ?_
            refine al_ro' (ro_eq (ro_ld_ptr h13_ty3 rfl mo0_1 up_h (by first | exact Nat.le_of_ble_eq_true rfl | omega | (simp only [lnS] <;> omega) | (simp <;> omega))) (by first | (simp only [packA_t, packA_f, iE, bE, setAt, cellsA, Value.cells, map_vc, map_vn, Nat.reduceAdd, qS] <;> rfl) | rfl)) ⟨_, rfl, (up_m rfl hb_4)⟩ rfl ?_
            refine al_ro' (ro_fld_ptr h13_fl24_1 rfl (up_m rfl (u4 rfl (u16 rfl s3_2)))) ⟨_, rfl, (u2 rfl hb_4)⟩ rfl ?_
            refine al_ro' (ro_eq (ro_ld_ptr h13_ty3 rfl mo0_1 up_h (by first | exact Nat.le_of_ble_eq_true rfl | omega | (simp only [lnS] <;> omega) | (simp <;> omega))) (by first | (simp only [packA_t, packA_f, iE, bE, setAt, cellsA, Value.cells, map_vc, map_vn, Nat.reduceAdd, qS] <;> rfl) | rfl)) ⟨_, rfl, (up_m rfl (u2 rfl hb_4))⟩ rfl ?_
            first | (refine al_ro' (ro_add' (u2 rfl up_h) up_h ?_) ⟨_, rfl, (u4 rfl hb_4)⟩ rfl ?_; · (unfold In64; omega)) | refine al_ro' (ro_add (u2 rfl up_h) up_h) ⟨_, rfl, (u4 rfl hb_4)⟩ rfl ?_
            refine al_ro' (ro_move (u8 rfl (u16 rfl s0_2))) ⟨_, rfl, (up_m rfl (u4 rfl hb_4))⟩ rfl ?_
            refine al_ro' (ro_call (evL_cons (up_m rfl up_h) (evL_cons up_h evL_nil)) rfl (rSize_ok _ _ (by omega)) h13_hcf55) ⟨_, rfl, (u2 rfl (u4 rfl hb_4))⟩ rfl ?_
            refine al_ro' (ro_pickT (up_m rfl (u2 rfl (u4 rfl hb_4))) up_h) trivial rfl ?_
            refine al_ro' (ro_assign up_h) trivial rfl ?_
            refine al_end (fun e_5 he_5 => ?_)
            have s4_5 := ef 4 he_5 up_h
            clear he_5 hb_3 hb_4 s0_2 s3_2
            refine then_n ?_
            refine aw_ret ?_
            refine ret1 (.inr rfl) (by kernel_rfl) (resV_tmp s4_5) (.ro _ rfl) ?_
            clear s4_5 mo0_1 ml_1
            (first | rfl | (simp [nrB, *]; done) | (simp [nrB, *] <;> omega) | (simp_all [nrB]; done) | (simp_all [nrB] <;> omega)))
       · (first | replace hq_4 := bnt hq_4 | replace hq_4 := bnf hq_4 | replace hq_4 := bt hq_4 | replace hq_4 := bf hq_4 | replace hq_4 := bt' hq_4 | replace hq_4 := bf' hq_4 | skip)
         first
         | (cases hq_4; done) | (exfalso; omega)
         | (
            refine al_skip' ⟨_, rfl, .inl hb_4⟩ rfl ?_
            refine al_skip' ⟨_, rfl, .inl (up_m rfl hb_4)⟩ rfl ?_
            refine al_skip' ⟨_, rfl, .inl (u2 rfl hb_4)⟩ rfl ?_
            refine al_skip' ⟨_, rfl, .inl (up_m rfl (u2 rfl hb_4))⟩ rfl ?_
            refine al_skip' ⟨_, rfl, .inl (u4 rfl hb_4)⟩ rfl ?_
            refine al_skip' ⟨_, rfl, .inl (up_m rfl (u4 rfl hb_4))⟩ rfl ?_
            refine al_skip' ⟨_, rfl, .inl (u2 rfl (u4 rfl hb_4))⟩ rfl ?_
            refine al_ro' (ro_pickF (up_m rfl (u2 rfl (u4 rfl hb_4))) ev_c) trivial rfl ?_
            refine al_ro' (ro_assign up_h) trivial rfl ?_
            refine al_end (fun e_6 he_6 => ?_)
            have s4_6 := ef 4 he_6 up_h
            clear he_6 hb_3 hb_4 s0_2 s3_2
            refine then_n ?_
            refine aw_ret ?_
            refine ret1 (.inr rfl) (by kernel_rfl) (resV_tmp s4_6) (.ro _ rfl) ?_
            clear s4_6 mo0_1 ml_1
            (first | rfl | (simp [nrB, *]; done) | (simp [nrB, *] <;> omega) | (simp_all [nrB]; done) | (simp_all [nrB] <;> omega))))
  · (first | replace hq_3 := bnt hq_3 | replace hq_3 := bnf hq_3 | replace hq_3 := bt hq_3 | replace hq_3 := bf hq_3 | replace hq_3 := bt' hq_3 | replace hq_3 := bf' hq_3 | skip)
    first
    | (cases hq_3; done) | (exfalso; omega)
    | (
       refine al_skip' ⟨_, rfl, .inl hb_3⟩ rfl ?_
       refine al_skip' ⟨_, rfl, .inl (up_m rfl hb_3)⟩ rfl ?_
       refine al_skip' ⟨_, rfl, .inl (u2 rfl hb_3)⟩ rfl ?_
       refine al_skip' ⟨_, rfl, .inl (up_m rfl (u2 rfl hb_3))⟩ rfl ?_
       refine al_skip' ⟨_, rfl, .inl (u4 rfl hb_3)⟩ rfl ?_
       refine al_skip' ⟨_, rfl, .inl (up_m rfl (u4 rfl hb_3))⟩ rfl ?_
       refine al_skip' ⟨_, rfl, .inl (u2 rfl (u4 rfl hb_3))⟩ rfl ?_
       refine al_skip' ⟨_, rfl, .inl (up_m rfl (u2 rfl (u4 rfl hb_3)))⟩ rfl ?_
       refine al_ro' (ro_pickF (u8 rfl hb_3) ev_c) trivial rfl ?_
       refine al_ro' (ro_move up_h) trivial rfl ?_
       refine al_skip' ⟨_, rfl, .inl up_h⟩ rfl ?_
       refine al_skip' ⟨_, rfl, .inl (up_m rfl up_h)⟩ rfl ?_
       refine al_skip' ⟨_, rfl, .inl (u2 rfl up_h)⟩ rfl ?_
       refine al_skip' ⟨_, rfl, .inl (up_m rfl (u2 rfl up_h))⟩ rfl ?_
       refine al_skip' ⟨_, rfl, .inl (u4 rfl up_h)⟩ rfl ?_
       refine al_skip' ⟨_, rfl, .inl (up_m rfl (u4 rfl up_h))⟩ rfl ?_
       refine al_skip' ⟨_, rfl, .inl (u2 rfl (u4 rfl up_h))⟩ rfl ?_
       refine al_ro' (ro_pickF (up_m rfl (u2 rfl (u4 rfl up_h))) ev_c) trivial rfl ?_
       refine al_ro' (ro_assign up_h) trivial rfl ?_
       refine al_end (fun e_7 he_7 => ?_)
       have s4_7 := ef 4 he_7 up_h
       clear he_7 hb_3 s0_2 s3_2
       refine then_n ?_
       refine aw_ret ?_
       refine ret1 (.inr rfl) (by kernel_rfl) (resV_tmp s4_7) (.ro _ rfl) ?_
       clear s4_7 mo0_1 ml_1
       (first | rfl | (simp [nrB, *]; done) | (simp [nrB, *] <;> omega) | (simp_all [nrB]; done) | (simp_all [nrB] <;> omega)))
set_option maxRecDepth 100000 in
set_option maxHeartbeats 1000000 in
theorem copyVectors_ok (cs : List V2) (hc : cs.length ≤ 1000000) : FnOk Tryd.prog 24 [.row 2 (cs.map tE)] (fun q => q = .row 2 (cs.map tE)) := by
  refine fnOk_of (fn := Tryd.f24) 6 (by kernel_rfl) rfl (by kernel_rfl) (Nat.le_of_ble_eq_true rfl) ?_
  intro e_0 m_0 hA hm_0
  have s0_0 : evA e_0 (.tmp 0) = _ := hA 0 _ rfl
  have ml_0 : m_0.length = 0 := by rw [hm_0]; rfl
  clear hA hm_0
  refine aw_seq ?_
  refine aw_text (by kernel_rfl) ?_
  refine al_ro' (ro_assign ev_c) trivial rfl ?_
  refine al_end (fun e_1 he_1 => ?_)
  have s0_1 := ef 0 he_1 (up_m rfl s0_0)
  clear he_1 s0_0
  refine then_n ?_
  refine aw_seq ?_
  refine aw_text (by kernel_rfl) ?_
  refine al_ro' (ro_lit0 h13_sl43) trivial rfl ?_
  refine al_ro' (ro_move (up_m rfl s0_1)) trivial rfl ?_
  refine al_ro' (ro_ape h13_sl43 rfl (up_m rfl up_h) up_h (by first | omega | (simp only [lnS] <;> omega) | (simp <;> omega))) trivial rfl ?_
  refine al_ro' (ro_assign up_h) trivial rfl ?_
  refine al_end (fun e_2 he_2 => ?_)
  have s2_2 := ef 2 he_2 up_h
  clear he_2 s0_1
  refine then_n ?_
  refine aw_ret ?_
  refine ret1 (.inr rfl) (by kernel_rfl) (resV_tmp s2_2) (.ro _ rfl) ?_
  clear s2_2  ml_0
  rfl
set_option maxRecDepth 100000 in
set_option maxHeartbeats 1000000 in
theorem tAwake_ok : FnOkG Tryd.prog gT 20 [] (fun q => q = oA true) := by
  refine fnOkG_of (fn := Tryd.f20) gT 35 (by kernel_rfl) rfl (by kernel_rfl) (Nat.le_of_ble_eq_true rfl) ?_
  intro e_0 m_0 hA hm_0
  have ml_0 : m_0.length = 1 := by rw [hm_0]; rfl
  have mo0_0 : m_0[0]? = some (.glob gT) := by rw [hm_0]; rfl
  clear hA hm_0
  refine aw_seq ?_
  refine aw_text (by kernel_rfl) ?_
  refine al_ro' (ro_assign ev_c) trivial rfl ?_
  refine al_end (fun e_1 he_1 => ?_)
  clear he_1
  refine then_n ?_
  refine aw_seq ?_
  refine aw_text (by kernel_rfl) ?_
  refine al_ro' (ro_build (evP_cons ev_c evP_nil) h13_bz24 h13_bu24 h13_bp24 rfl) trivial rfl ?_
  refine al_ro' (ro_call (evL_cons up_h (evL_cons ev_c evL_nil)) rfl (turned0_ok) h13_hcf32) trivial rfl ?_
  refine al_ro' (ro_move up_h) trivial rfl ?_
  refine al_ro' (ro_extract up_h rfl) trivial rfl ?_
  refine al_ro' (ro_extract (up_m rfl up_h) rfl) trivial rfl ?_
  refine al_stm (st_alloc h13_az24 rfl ml_0) trivial rfl (fun m_2 hm_2 => ?_)
  have mo1_2 := m_push hm_2 ml_0
  (try simp only [packA_t, packA_f, iE, bE, setAt, cellsA, Value.cells, map_vc, map_vn, Nat.reduceAdd, qS] at mo1_2)
  have mo0_2 := m_push_o hm_2 mo0_0
  have ml_2 := m_push_l hm_2 ml_0
  have ml_2 : _ = 2 := ml_2
  clear hm_2 mo0_0
  refine al_stm (st_store up_h (u2 rfl up_h) rfl rfl mo1_2 h13_sz24 rfl (by first | exact Nat.le_of_ble_eq_true rfl | omega | (simp only [lnS] <;> omega) | (simp <;> omega))) trivial rfl (fun m_3 hm_3 => ?_)
  have mo1_3 := m_set hm_3 mo1_2
  (try simp only [packA_t, packA_f, iE, bE, setAt, cellsA, Value.cells, map_vc, map_vn, Nat.reduceAdd, qS] at mo1_3)
  have mo0_3 := m_set_o hm_3 mo0_2 (by decide)
  have ml_3 := m_set_l hm_3 ml_2
  clear hm_3 mo1_2 mo0_2
  refine al_ro' (ro_assign (up_n (up_m rfl up_h))) trivial rfl ?_
  refine al_end (fun e_4 he_4 => ?_)
  have s1_4 := ef 1 he_4 (up_m rfl (up_n up_h))
  have s2_4 := ef 2 he_4 up_h
  clear he_4
  refine then_n ?_
  refine aw_seq ?_
  refine aw_text (by kernel_rfl) ?_
  refine al_ro' (ro_build (evP_cons ev_c evP_nil) h13_bz24 h13_bu24 h13_bp24 rfl) trivial rfl ?_
  refine al_ro' (ro_build (evP_cons ev_c evP_nil) h13_bz24 h13_bu24 h13_bp24 rfl) trivial rfl ?_
  refine al_ro' (ro_build (evP_cons ev_c evP_nil) h13_bz24 h13_bu24 h13_bp24 rfl) trivial rfl ?_
  refine al_ro' (ro_lit h13_sl43 (evP_cons (u2 rfl up_h) (evP_cons (up_m rfl up_h) (evP_cons up_h evP_nil))) rfl rfl rfl rfl) trivial rfl ?_
  refine al_ro' (ro_callG (evL_cons ev_c (evL_cons up_h evL_nil)) rfl mo0_3 (modulated0_ok) h13_hcf23) trivial rfl ?_
  refine al_ro' (ro_move up_h) trivial rfl ?_
  refine al_ro' (ro_extract up_h rfl) trivial rfl ?_
  refine al_ro' (ro_extract (up_m rfl up_h) rfl) trivial rfl ?_
  refine al_stm (st_alloc h13_az48 rfl ml_3) trivial rfl (fun m_5 hm_5 => ?_)
  have mo2_5 := m_push hm_5 ml_3
  (try simp only [packA_t, packA_f, iE, bE, setAt, cellsA, Value.cells, map_vc, map_vn, Nat.reduceAdd, qS] at mo2_5)
  have mo1_5 := m_push_o hm_5 mo1_3
  have mo0_5 := m_push_o hm_5 mo0_3
  have ml_5 := m_push_l hm_5 ml_3
  have ml_5 : _ = 3 := ml_5
  clear hm_5 mo1_3 mo0_3
  refine al_stm (st_store up_h (u2 rfl up_h) rfl rfl mo2_5 h13_sz48 rfl (by first | exact Nat.le_of_ble_eq_true rfl | omega | (simp only [lnS] <;> omega) | (simp <;> omega))) trivial rfl (fun m_6 hm_6 => ?_)
  have mo2_6 := m_set hm_6 mo2_5
  (try simp only [packA_t, packA_f, iE, bE, setAt, cellsA, Value.cells, map_vc, map_vn, Nat.reduceAdd, qS] at mo2_6)
  have mo1_6 := m_set_o hm_6 mo1_5 (by decide)
  have mo0_6 := m_set_o hm_6 mo0_5 (by decide)
  have ml_6 := m_set_l hm_6 ml_5
  clear hm_6 mo2_5 mo1_5 mo0_5
  refine al_ro' (ro_assign (up_n (up_m rfl up_h))) trivial rfl ?_
  refine al_end (fun e_7 he_7 => ?_)
  have s1_7 := ef 1 he_7 (up_m rfl (up_n (up_m rfl (u8 rfl s1_4))))
  have s2_7 := ef 2 he_7 (up_m rfl (up_n (up_m rfl (u8 rfl s2_4))))
  have s3_7 := ef 3 he_7 (up_m rfl (up_n up_h))
  have s4_7 := ef 4 he_7 up_h
  clear he_7 s1_4 s2_4
  refine then_n ?_
  refine aw_seq ?_
  refine aw_text (by kernel_rfl) ?_
  refine al_ro' (ro_move s2_7) trivial rfl ?_
  refine al_ro' (ro_eql up_h ev_c) trivial rfl ?_
  refine al_ro' (ro_move up_h) trivial rfl ?_
  refine al_case up_h (fun hb_8 hq_8 => ?_) (fun hb_8 hq_8 => ?_)
  · (first | replace hq_8 := bnt hq_8 | replace hq_8 := bnf hq_8 | replace hq_8 := bt hq_8 | replace hq_8 := bf hq_8 | replace hq_8 := bt' hq_8 | replace hq_8 := bf' hq_8 | skip)
    first
    | (cases hq_8; done) | (exfalso; omega)
    | (
       refine al_ro' (ro_eq (ro_ld_ptr h13_ty24 rfl mo1_6 (up_m rfl (u2 rfl s1_7)) (by first | exact Nat.le_of_ble_eq_true rfl | omega | (simp only [lnS] <;> omega) | (simp <;> omega))) (by first | (simp only [packA_t, packA_f, iE, bE, setAt, cellsA, Value.cells, map_vc, map_vn, Nat.reduceAdd, qS] <;> rfl) | rfl)) ⟨_, rfl, hb_8⟩ rfl ?_
       refine al_ro' (ro_build (evP_cons ev_c evP_nil) h13_bz24 h13_bu24 h13_bp24 rfl) ⟨_, rfl, (up_m rfl hb_8)⟩ rfl ?_
       refine al_ro' (ro_aeql (up_m rfl up_h) up_h (xs := [.int .i64 (-1), .int .i64 0]) (ys := [.int .i64 (-1), .int .i64 0]) (b := true) ⟨rfl, by kernel_rfl, fun _ => by kernel_rfl⟩) ⟨_, rfl, (u2 rfl hb_8)⟩ rfl ?_
       refine al_ro' (ro_pickT (up_m rfl (u2 rfl hb_8)) up_h) trivial rfl ?_
       refine al_ro' (ro_move up_h) trivial rfl ?_
       refine al_case up_h (fun hb_9 hq_9 => ?_) (fun hb_9 hq_9 => ?_)
       · (first | replace hq_9 := bnt hq_9 | replace hq_9 := bnf hq_9 | replace hq_9 := bt hq_9 | replace hq_9 := bf hq_9 | replace hq_9 := bt' hq_9 | replace hq_9 := bf' hq_9 | skip)
         first
         | (cases hq_9; done) | (exfalso; omega)
         | (
            refine al_ro' (ro_move (u8 rfl s4_7)) ⟨_, rfl, hb_9⟩ rfl ?_
            refine al_ro' (ro_eql up_h ev_c) ⟨_, rfl, (up_m rfl hb_9)⟩ rfl ?_
            refine al_ro' (ro_pickT (u2 rfl hb_9) up_h) trivial rfl ?_
            refine al_ro' (ro_move up_h) trivial rfl ?_
            refine al_case up_h (fun hb_10 hq_10 => ?_) (fun hb_10 hq_10 => ?_)
            · (first | replace hq_10 := bnt hq_10 | replace hq_10 := bnf hq_10 | replace hq_10 := bt hq_10 | replace hq_10 := bf hq_10 | replace hq_10 := bt' hq_10 | replace hq_10 := bf' hq_10 | skip)
              first
              | (cases hq_10; done) | (exfalso; omega)
              | (
                 refine al_ro' (ro_fld_ptr h13_fl48_0 rfl (u4 rfl (u8 rfl s3_7))) ⟨_, rfl, hb_10⟩ rfl ?_
                 refine al_ro' (ro_eq (ro_ld_ptr h13_ty46 rfl mo2_6 up_h (by first | exact Nat.le_of_ble_eq_true rfl | omega | (simp only [lnS] <;> omega) | (simp <;> omega))) (by first | (simp only [packA_t, packA_f, iE, bE, setAt, cellsA, Value.cells, map_vc, map_vn, Nat.reduceAdd, qS] <;> rfl) | rfl)) ⟨_, rfl, (up_m rfl hb_10)⟩ rfl ?_
                 refine al_ro' (ro_lit h13_sl46 (evP_cons ev_c (evP_cons ev_c (evP_cons ev_c evP_nil))) rfl rfl rfl rfl) ⟨_, rfl, (u2 rfl hb_10)⟩ rfl ?_
                 refine al_ro' (ro_call (evL_cons (up_m rfl up_h) (evL_cons up_h evL_nil)) rfl (sameI_ok [0, 4, 0] (by decide)) h13_hcf46) ⟨_, rfl, (up_m rfl (u2 rfl hb_10))⟩ rfl ?_
                 refine al_ro' (ro_pickT (u4 rfl hb_10) up_h) trivial rfl ?_
                 refine al_ro' (ro_assign up_h) trivial rfl ?_
                 refine al_end (fun e_11 he_11 => ?_)
                 have s0_11 := ef 0 he_11 up_h
                 clear he_11 hb_10 hb_8 hb_9 s1_7 s2_7 s3_7 s4_7
                 refine then_n ?_
                 refine aw_ret ?_
                 refine ret1 (.inr rfl) (by kernel_rfl) (resV_tmp s0_11) (.ro _ rfl) ?_
                 clear s0_11 mo2_6 mo1_6 mo0_6 ml_6
                 rfl)
            · (first | replace hq_10 := bnt hq_10 | replace hq_10 := bnf hq_10 | replace hq_10 := bt hq_10 | replace hq_10 := bf hq_10 | replace hq_10 := bt' hq_10 | replace hq_10 := bf' hq_10 | skip)
              first
              | (cases hq_10; done) | (exfalso; omega)
              | (
                 refine al_skip' ⟨_, rfl, .inl hb_10⟩ rfl ?_
                 refine al_skip' ⟨_, rfl, .inl (up_m rfl hb_10)⟩ rfl ?_
                 refine al_skip' ⟨_, rfl, .inl (u2 rfl hb_10)⟩ rfl ?_
                 refine al_skip' ⟨_, rfl, .inl (up_m rfl (u2 rfl hb_10))⟩ rfl ?_
                 refine al_ro' (ro_pickF (u4 rfl hb_10) ev_c) trivial rfl ?_
                 refine al_ro' (ro_assign up_h) trivial rfl ?_
                 refine al_end (fun e_12 he_12 => ?_)
                 have s0_12 := ef 0 he_12 up_h
                 clear he_12 hb_10 hb_8 hb_9 s1_7 s2_7 s3_7 s4_7
                 refine then_n ?_
                 refine aw_ret ?_
                 refine ret1 (.inr rfl) (by kernel_rfl) (resV_tmp s0_12) (.ro _ rfl) ?_
                 clear s0_12 mo2_6 mo1_6 mo0_6 ml_6
                 rfl))
       · (first | replace hq_9 := bnt hq_9 | replace hq_9 := bnf hq_9 | replace hq_9 := bt hq_9 | replace hq_9 := bf hq_9 | replace hq_9 := bt' hq_9 | replace hq_9 := bf' hq_9 | skip)
         first
         | (cases hq_9; done) | (exfalso; omega)
         | (
            refine al_skip' ⟨_, rfl, .inl hb_9⟩ rfl ?_
            refine al_skip' ⟨_, rfl, .inl (up_m rfl hb_9)⟩ rfl ?_
            refine al_ro' (ro_pickF (u2 rfl hb_9) ev_c) trivial rfl ?_
            refine al_ro' (ro_move up_h) trivial rfl ?_
            refine al_skip' ⟨_, rfl, .inl up_h⟩ rfl ?_
            refine al_skip' ⟨_, rfl, .inl (up_m rfl up_h)⟩ rfl ?_
            refine al_skip' ⟨_, rfl, .inl (u2 rfl up_h)⟩ rfl ?_
            refine al_skip' ⟨_, rfl, .inl (up_m rfl (u2 rfl up_h))⟩ rfl ?_
            refine al_ro' (ro_pickF (u4 rfl up_h) ev_c) trivial rfl ?_
            refine al_ro' (ro_assign up_h) trivial rfl ?_
            refine al_end (fun e_13 he_13 => ?_)
            have s0_13 := ef 0 he_13 up_h
            clear he_13 hb_8 hb_9 s1_7 s2_7 s3_7 s4_7
            refine then_n ?_
            refine aw_ret ?_
            refine ret1 (.inr rfl) (by kernel_rfl) (resV_tmp s0_13) (.ro _ rfl) ?_
            clear s0_13 mo2_6 mo1_6 mo0_6 ml_6
            rfl))
  · (first | replace hq_8 := bnt hq_8 | replace hq_8 := bnf hq_8 | replace hq_8 := bt hq_8 | replace hq_8 := bf hq_8 | replace hq_8 := bt' hq_8 | replace hq_8 := bf' hq_8 | skip)
    first
    | (cases hq_8; done) | (exfalso; omega)
    | (
       refine al_skip' ⟨_, rfl, .inl hb_8⟩ rfl ?_
       refine al_skip' ⟨_, rfl, .inl (up_m rfl hb_8)⟩ rfl ?_
       refine al_skip' ⟨_, rfl, .inl (u2 rfl hb_8)⟩ rfl ?_
       refine al_ro' (ro_pickF (up_m rfl (u2 rfl hb_8)) ev_c) trivial rfl ?_
       refine al_ro' (ro_move up_h) trivial rfl ?_
       refine al_skip' ⟨_, rfl, .inl up_h⟩ rfl ?_
       refine al_skip' ⟨_, rfl, .inl (up_m rfl up_h)⟩ rfl ?_
       refine al_ro' (ro_pickF (u2 rfl up_h) ev_c) trivial rfl ?_
       refine al_ro' (ro_move up_h) trivial rfl ?_
       refine al_skip' ⟨_, rfl, .inl up_h⟩ rfl ?_
       refine al_skip' ⟨_, rfl, .inl (up_m rfl up_h)⟩ rfl ?_
       refine al_skip' ⟨_, rfl, .inl (u2 rfl up_h)⟩ rfl ?_
       refine al_skip' ⟨_, rfl, .inl (up_m rfl (u2 rfl up_h))⟩ rfl ?_
       refine al_ro' (ro_pickF (u4 rfl up_h) ev_c) trivial rfl ?_
       refine al_ro' (ro_assign up_h) trivial rfl ?_
       refine al_end (fun e_14 he_14 => ?_)
       have s0_14 := ef 0 he_14 up_h
       clear he_14 hb_8 s1_7 s2_7 s3_7 s4_7
       refine then_n ?_
       refine aw_ret ?_
       refine ret1 (.inr rfl) (by kernel_rfl) (resV_tmp s0_14) (.ro _ rfl) ?_
       clear s0_14 mo2_6 mo1_6 mo0_6 ml_6
       rfl)
theorem modE_zero {s : Int} {cs : List V2} (hs : 1 ≤ s ∧ s ≤ 100000) (hl : cs.length ≤ 60) (hc : ∀ v ∈ cs, Bd 1000 v) : modE s cs.length cs = 0 := by
  have h1 : withinB_ s 1 100000 = true := by simp [withinB_]; omega
  have h2 : cs.all rightB = true := by
    rw [List.all_eq_true]
    intro v hv
    obtain ⟨⟨a, b⟩, c, d⟩ := hc v hv
    simp only [rightB, smallB_, withinB_, Bool.and_eq_true, decide_eq_true_eq]
    have e : wrap64 (-100000) = -100000 := by decide +kernel
    rw [e]; omega
  unfold modE
  rw [h1, h2, decide_eq_true (by omega)]
  rfl
theorem force_bd {M : Int} {u f : V2} (hM : 0 ≤ M) (hu : Bd M u) (hf : Bd 1000 f) : -(6000 * M) ≤ (prodV u f).2 ∧ (prodV u f).2 ≤ 6000 * M := by
  have h1 := (conj_bd hf)
  have m1 := mulBd hu.1 h1.2
  have m2 := mulBd hu.2 h1.1
  have m3 := mulBd hu.2 h1.2
  simp only [prodV, mulV]
  omega
theorem all_take_succ {α : Type} [Inhabited α] {p : α → Bool} {l : List α} {i : Int} (h0 : 0 ≤ i) (h : i < l.length) : (l.take (i + 1).toNat).all p = ((l.take i.toNat).all p && p (l.getD i.toNat default)) := by
  rw [show (i + 1).toNat = i.toNat + 1 by omega, List.take_add_one, List.all_append, List.getElem?_eq_getElem (by omega : i.toNat < l.length)]
  simp [List.getD_eq_getElem?_getD, show i.toNat < l.length by omega]
theorem byV_bd {z : Int} {v : V2} (hz : 1 ≤ z ∧ z ≤ 1000) (h : Bd 1 v) : Bd 1000 (byV z v) := by
  have m1 := mulBd (A := 1000) (a := z) (by omega) h.1
  have m2 := mulBd (A := 1000) (a := z) (by omega) h.2
  exact ⟨⟨by simp only [byV]; omega, by simp only [byV]; omega⟩, by simp only [byV]; omega, by simp only [byV]; omega⟩
theorem sq3_bd {z x : Int} {f : V2} (hz : 1 ≤ z ∧ z ≤ 1000) (hf : Bd 1000 f) (hx : -240000000 ≤ x ∧ x ≤ 240000000) : (0 ≤ 9 * x * x ∧ 9 * x * x ≤ 900000000000000000) ∧ (0 ≤ 4 * z * z ∧ 4 * z * z ≤ 4000000) ∧ (0 ≤ sqV f ∧ sqV f ≤ 3000000) ∧ 0 ≤ 4 * z * z * sqV f ∧ 4 * z * z * sqV f ≤ 12000000000000 := by
  have m1 := mulBd (A := 240000000) (B := 240000000) hx hx
  have m2 := mulBd (A := 1000) (B := 1000) (a := z) (b := z) (by omega) (by omega)
  have n1 := sq_nonneg x
  have n2 := sq_nonneg z
  have e1 : 9 * x * x = 9 * (x * x) := Int.mul_assoc _ _ _
  have e2 : 4 * z * z = 4 * (z * z) := Int.mul_assoc _ _ _
  have q0 := sqV_nonneg f
  have q1 : sqV f ≤ 3000000 := by
    have a1 := mulBd hf.1 hf.1
    have a2 := mulBd hf.1 hf.2
    have a3 := mulBd hf.2 hf.2
    unfold sqV; omega
  have m3 := mulBd (A := 4000000) (B := 3000000) (a := 4 * z * z) (b := sqV f) (by omega) (by omega)
  have n3 : 0 ≤ 4 * z * z * sqV f := Int.mul_nonneg (by omega) q0
  omega
theorem pulse_sq {z : Int} {cs : List V2} {f : V2} {nr : Bool} (hs : 1 ≤ z ∧ z ≤ 1000) (hc : ∀ v ∈ cs, Bd 1000 v) (hn : nr = cs.all (nrB z)) (i : Nat) (hi : i < cs.length) (h60 : i ≤ 60) (h : nr = true) : 9 * (prodV ((moL z cs).getD i default) f).2 * (prodV ((moL z cs).getD i default) f).2 ≤ 4 * z * z * sqV f := by
  rw [h, eq_comm, List.all_eq_true] at hn
  exact near_force (by omega) (pulse_near hs hc (fun v hv => nrB_nr (hn v hv)) i hi h60)
theorem forceBy_ok (z : Int) (t f : V2) (hz : 1 ≤ z ∧ z ≤ 1000) (ht : Bd 1 t) (hf : Bd 1000 f) : FnOk Tryd.prog 25 [.agg [.v (.int .i64 (IntKind.i64.wrap (z * t.1))), .v (.int .i64 (IntKind.i64.wrap (z * t.2)))], tA f] (fun q => q = .tuple [nA (prodV (byV z t) f).2, nA 0]) := by
  have hb := byV_bd hz ht
  have h := forceOf_ok (byV z t) f (hb.mono (by decide)) (hf.mono (by decide))
  obtain ⟨⟨a, b⟩, c, d⟩ := hb
  have e1 : IntKind.i64.wrap (z * t.1) = z * t.1 := wrap_in (by simp only [byV] at a b; unfold In64; omega)
  have e2 : IntKind.i64.wrap (z * t.2) = z * t.2 := wrap_in (by simp only [byV] at c d; unfold In64; omega)
  rw [e1, e2]; exact h
set_option maxRecDepth 100000 in
set_option maxHeartbeats 4000000 in
theorem pulsesDrive_ok (z : Int) (cs : List V2) (f : V2) : FnOkG Tryd.prog gT 5 [nA z, .row 2 (cs.map tE), tA f] (fun q => q = oA true) := by
  refine fnOkG_of (fn := Tryd.f5) gT 203 (by kernel_rfl) rfl (by kernel_rfl) (Nat.le_of_ble_eq_true rfl) ?_
  intro e_0 m_0 hA hm_0
  have s0_0 : evA e_0 (.tmp 0) = _ := hA 0 _ rfl
  have s1_0 : evA e_0 (.tmp 1) = _ := hA 1 _ rfl
  have s2_0 : evA e_0 (.tmp 2) = _ := hA 2 _ rfl
  have ml_0 : m_0.length = 1 := by rw [hm_0]; rfl
  have mo0_0 : m_0[0]? = some (.glob gT) := by rw [hm_0]; rfl
  clear hA hm_0
  refine aw_seq ?_
  refine aw_text (by kernel_rfl) ?_
  refine al_stm (st_box s2_0 rfl ml_0) trivial rfl (fun m_1 hm_1 => ?_)
  have mo1_1 := m_push hm_1 ml_0
  (try simp only [packA_t, packA_f, iE, bE, setAt, cellsA, Value.cells, map_vc, map_vn, Nat.reduceAdd, qS, tE] at mo1_1)
  have mo0_1 := m_push_o hm_1 mo0_0
  have ml_1 := m_push_l hm_1 ml_0
  have ml_1 : _ = 2 := ml_1
  clear hm_1 mo0_0
  refine al_ro' (ro_assign ev_c) trivial rfl ?_
  refine al_end (fun e_2 he_2 => ?_)
  have s0_2 := ef 0 he_2 (u2 rfl s0_0)
  have s1_2 := ef 1 he_2 (u2 rfl s1_0)
  have s5_2 := ef 5 he_2 (up_m rfl up_h)
  clear he_2 s0_0 s1_0 s2_0
  refine then_n ?_
  refine aw_seq ?_
  refine aw_seq ?_
  refine aw_text (by kernel_rfl) ?_
  refine al_ro' (ro_callG evL_nil rfl mo0_1 (tAwake_ok) h13_hcf20) trivial rfl ?_
  refine al_ro' (ro_not up_h) trivial rfl ?_
  refine al_end (fun e_3 he_3 => ?_)
  have s0_3 := ef 0 he_3 (u2 rfl s0_2)
  have s1_3 := ef 1 he_3 (u2 rfl s1_2)
  have s5_3 := ef 5 he_3 (u2 rfl s5_2)
  have s23_3 := ef 23 he_3 up_h
  clear he_3 s0_2 s1_2 s5_2
  refine then_n ?_
  refine aw_case s23_3 (fun hq_4 => ?_) (fun hq_4 => ?_)
  · (first | replace hq_4 := bnt hq_4 | replace hq_4 := bnf hq_4 | replace hq_4 := bt hq_4 | replace hq_4 := bf hq_4 | replace hq_4 := bt' hq_4 | replace hq_4 := bf' hq_4 | skip)
    first
    | (cases hq_4; done) | (exfalso; omega)
    | (
       refine aw_seq ?_
       refine aw_text (by kernel_rfl) ?_
       refine al_ro' (ro_assign ev_c) trivial rfl ?_
       refine al_end (fun e_5 he_5 => ?_)
       have s6_5 := ef 6 he_5 up_h
       clear he_5 s0_3 s1_3 s23_3 s5_3
       refine then_n ?_
       refine aw_ret ?_
       refine then_r ?_
       refine ret1 (.inr rfl) (by kernel_rfl) (resV_tmp s6_5) (.ro _ rfl) ?_
       clear s6_5 mo1_1 mo0_1 ml_1
       rfl)
  · (first | replace hq_4 := bnt hq_4 | replace hq_4 := bnf hq_4 | replace hq_4 := bt hq_4 | replace hq_4 := bf hq_4 | replace hq_4 := bt' hq_4 | replace hq_4 := bf' hq_4 | skip)
    first
    | (cases hq_4; done) | (exfalso; omega)
    | (
       refine aw_skip ?_
       refine then_n ?_
       refine aw_seq ?_
       refine aw_seq ?_
       refine aw_cut (fun e mem => (evA e (.tmp 36) = .v (.bool (!(withinB z 1 1000 && decide (cs.length ≤ 20) && smB f)))) ∧ (evA e (.tmp 0) = evA e_3 (.tmp 0)) ∧ (evA e (.tmp 1) = evA e_3 (.tmp 1)) ∧ (evA e (.tmp 5) = evA e_3 (.tmp 5)) ∧ m_1 = mem) ?_ ?_
       ·
         refine aw_text (by kernel_rfl) ?_
         refine al_ro' (ro_move s0_3) trivial rfl ?_
         refine al_ro' (ro_call (evL_cons up_h (evL_cons ev_c (evL_cons ev_c evL_nil))) rfl (bWithin_ok _ _ _) h13_hcf18) trivial rfl ?_
         refine al_ro' (ro_not up_h) trivial rfl ?_
         refine al_ro' (ro_move up_h) trivial rfl ?_
         refine al_case up_h (fun hb_7 hq_7 => ?_) (fun hb_7 hq_7 => ?_)
         · (first | replace hq_7 := bnt hq_7 | replace hq_7 := bnf hq_7 | replace hq_7 := bt hq_7 | replace hq_7 := bf hq_7 | replace hq_7 := bt' hq_7 | replace hq_7 := bf' hq_7 | skip)
           first
           | (cases hq_7; done) | (exfalso; omega)
           | (
              refine al_skip' ⟨_, rfl, .inl hb_7⟩ rfl ?_
              refine al_skip' ⟨_, rfl, .inl (up_m rfl hb_7)⟩ rfl ?_
              refine al_skip' ⟨_, rfl, .inl (u2 rfl hb_7)⟩ rfl ?_
              refine al_ro' (ro_pickT (up_m rfl (u2 rfl hb_7)) ev_c) trivial rfl ?_
              refine al_ro' (ro_move up_h) trivial rfl ?_
              refine al_skip' ⟨_, rfl, .inl up_h⟩ rfl ?_
              refine al_skip' ⟨_, rfl, .inl (up_m rfl up_h)⟩ rfl ?_
              refine al_skip' ⟨_, rfl, .inl (u2 rfl up_h)⟩ rfl ?_
              refine al_ro' (ro_pickT (up_m rfl (u2 rfl up_h)) ev_c) trivial rfl ?_
              refine al_end (fun e_8 he_8 => ?_)
              have s0_8 := ef 0 he_8 (up_m rfl (u4 rfl (u8 rfl s0_3)))
              have s1_8 := ef 1 he_8 (up_m rfl (u4 rfl (u8 rfl s1_3)))
              have s5_8 := ef 5 he_8 (up_m rfl (u4 rfl (u8 rfl s5_3)))
              have s36_8 := ef 36 he_8 up_h
              clear he_8
              refine then_n ⟨(s36_8).trans (by (refine avb ?_; simp_all; try omega)), (s0_8).trans (s0_3).symm, (s1_8).trans (s1_3).symm, (s5_8).trans (s5_3).symm, rfl⟩)
         · (first | replace hq_7 := bnt hq_7 | replace hq_7 := bnf hq_7 | replace hq_7 := bt hq_7 | replace hq_7 := bf hq_7 | replace hq_7 := bt' hq_7 | replace hq_7 := bf' hq_7 | skip)
           first
           | (cases hq_7; done) | (exfalso; omega)
           | (
              refine al_ro' (ro_move (u4 rfl s1_3)) ⟨_, rfl, hb_7⟩ rfl ?_
              refine al_ro' (ro_eq (ro_len_row up_h rfl h13_sl43.1) (by first | (simp only [lnS] <;> rfl) | rfl)) ⟨_, rfl, (up_m rfl hb_7)⟩ rfl ?_
              refine al_ro' (ro_gtr up_h ev_c) ⟨_, rfl, (u2 rfl hb_7)⟩ rfl ?_
              refine al_ro' (ro_pickF (up_m rfl (u2 rfl hb_7)) up_h) trivial rfl ?_
              refine al_ro' (ro_move up_h) trivial rfl ?_
              refine al_case up_h (fun hb_9 hq_9 => ?_) (fun hb_9 hq_9 => ?_)
              · (first | replace hq_9 := bnt hq_9 | replace hq_9 := bnf hq_9 | replace hq_9 := bt hq_9 | replace hq_9 := bf hq_9 | replace hq_9 := bt' hq_9 | replace hq_9 := bf' hq_9 | skip)
                first
                | (cases hq_9; done) | (exfalso; omega)
                | (
                   refine al_skip' ⟨_, rfl, .inl hb_9⟩ rfl ?_
                   refine al_skip' ⟨_, rfl, .inl (up_m rfl hb_9)⟩ rfl ?_
                   refine al_skip' ⟨_, rfl, .inl (u2 rfl hb_9)⟩ rfl ?_
                   refine al_ro' (ro_pickT (up_m rfl (u2 rfl hb_9)) ev_c) trivial rfl ?_
                   refine al_end (fun e_10 he_10 => ?_)
                   have s0_10 := ef 0 he_10 (up_m rfl (u4 rfl (u8 rfl s0_3)))
                   have s1_10 := ef 1 he_10 (up_m rfl (u4 rfl (u8 rfl s1_3)))
                   have s5_10 := ef 5 he_10 (up_m rfl (u4 rfl (u8 rfl s5_3)))
                   have s36_10 := ef 36 he_10 up_h
                   clear he_10
                   refine then_n ⟨(s36_10).trans (by (refine avb ?_; simp_all; try omega)), (s0_10).trans (s0_3).symm, (s1_10).trans (s1_3).symm, (s5_10).trans (s5_3).symm, rfl⟩)
              · (first | replace hq_9 := bnt hq_9 | replace hq_9 := bnf hq_9 | replace hq_9 := bt hq_9 | replace hq_9 := bf hq_9 | replace hq_9 := bt' hq_9 | replace hq_9 := bf' hq_9 | skip)
                first
                | (cases hq_9; done) | (exfalso; omega)
                | (
                   refine al_ro' (ro_eq (ro_ld_ptr h13_ty24 rfl mo1_1 (up_m rfl (u8 rfl s5_3)) (by first | exact Nat.le_of_ble_eq_true rfl | omega | (simp only [lnS] <;> omega) | (simp <;> omega))) (by first | (simp only [packA_t, packA_f, iE, bE, setAt, cellsA, Value.cells, map_vc, map_vn, Nat.reduceAdd, qS, tE] <;> rfl) | rfl)) ⟨_, rfl, hb_9⟩ rfl ?_
                   refine al_ro' (ro_call (evL_cons up_h evL_nil) rfl (statorSmall_ok _) h13_hcf21) ⟨_, rfl, (up_m rfl hb_9)⟩ rfl ?_
                   refine al_ro' (ro_not up_h) ⟨_, rfl, (u2 rfl hb_9)⟩ rfl ?_
                   refine al_ro' (ro_pickF (up_m rfl (u2 rfl hb_9)) up_h) trivial rfl ?_
                   refine al_end (fun e_11 he_11 => ?_)
                   have s0_11 := ef 0 he_11 (up_m rfl (u4 rfl (u8 rfl s0_3)))
                   have s1_11 := ef 1 he_11 (up_m rfl (u4 rfl (u8 rfl s1_3)))
                   have s5_11 := ef 5 he_11 (up_m rfl (u4 rfl (u8 rfl s5_3)))
                   have s36_11 := ef 36 he_11 up_h
                   clear he_11
                   refine then_n ⟨(s36_11).trans (by (refine avb ?_; simp_all; try omega)), (s0_11).trans (s0_3).symm, (s1_11).trans (s1_3).symm, (s5_11).trans (s5_3).symm, rfl⟩))
       · rintro e_6 _ ⟨s36_6, k0_6, k1_6, k5_6, rfl⟩
         have s0_6 := k0_6.trans s0_3
         have s1_6 := k1_6.trans s1_3
         have s5_6 := k5_6.trans s5_3
         refine aw_case s36_6 (fun hq_12 => ?_) (fun hq_12 => ?_)
         · (first | replace hq_12 := bnt hq_12 | replace hq_12 := bnf hq_12 | replace hq_12 := bt hq_12 | replace hq_12 := bf hq_12 | replace hq_12 := bt' hq_12 | replace hq_12 := bf' hq_12 | skip)
           first
           | (cases hq_12; done) | (exfalso; omega)
           | (
              refine aw_seq ?_
              refine aw_text (by kernel_rfl) ?_
              refine al_ro' (ro_assign ev_c) trivial rfl ?_
              refine al_end (fun e_13 he_13 => ?_)
              have s6_13 := ef 6 he_13 up_h
              clear he_13 s0_6 s1_6 s36_6 s5_6
              refine then_n ?_
              refine aw_ret ?_
              refine then_r ?_
              refine ret1 (.inr rfl) (by kernel_rfl) (resV_tmp s6_13) (.ro _ rfl) ?_
              clear s6_13 mo1_1 mo0_1 ml_1
              rfl)
         · (first | replace hq_12 := bnt hq_12 | replace hq_12 := bnf hq_12 | replace hq_12 := bt hq_12 | replace hq_12 := bf hq_12 | replace hq_12 := bt' hq_12 | replace hq_12 := bf' hq_12 | skip)
           first
           | (cases hq_12; done) | (exfalso; omega)
           | (
              (have hg : withinB z 1 1000 = true ∧ cs.length ≤ 20 ∧ smB f = true := (by simp_all); have hs : 1 ≤ z ∧ z ≤ 1000 := (by have := hg.1; simp only [withinB, Bool.and_eq_true, decide_eq_true_eq] at this; exact this); have hlen := hg.2.1; have hfb := smB_bd hg.2.2; clear hg)
              refine aw_skip ?_
              refine then_n ?_
              refine aw_seq ?_
              refine aw_text (by kernel_rfl) ?_
              refine al_ro' (ro_assign ev_c) trivial rfl ?_
              refine al_end (fun e_14 he_14 => ?_)
              have s0_14 := ef 0 he_14 (up_m rfl s0_6)
              have s1_14 := ef 1 he_14 (up_m rfl s1_6)
              have s5_14 := ef 5 he_14 (up_m rfl s5_6)
              have s7_14 := ef 7 he_14 up_h
              clear he_14 s0_6 s1_6 s36_6 s5_6
              refine then_n ?_
              refine aw_seq ?_
              refine aw_seq ?_
              refine aw_text (by kernel_rfl) ?_
              refine al_ro' (ro_assign ev_c) trivial rfl ?_
              refine al_end (fun e_15 he_15 => ?_)
              have s0_15 := ef 0 he_15 (up_m rfl s0_14)
              have s1_15 := ef 1 he_15 (up_m rfl s1_14)
              have s5_15 := ef 5 he_15 (up_m rfl s5_14)
              have s7_15 := ef 7 he_15 (up_m rfl s7_14)
              have s8_15 := ef 8 he_15 up_h
              clear he_15 s0_14 s1_14 s5_14 s7_14
              refine then_n ?_
              refine aw_block ?_
              refine aw_loop (S := (Int × Bool)) (fun s e mem => match s with | ⟨i, nr⟩ => (evA e (.tmp 8) = .v (.int .i64 i)) ∧ (evA e (.tmp 7) = .v (.bool nr)) ∧ (evA e (.tmp 0) = evA e_15 (.tmp 0)) ∧ (evA e (.tmp 1) = evA e_15 (.tmp 1)) ∧ (evA e (.tmp 5) = evA e_15 (.tmp 5)) ∧ (mem[1]? = m_1[1]?) ∧ (mem[0]? = m_1[0]?) ∧ (mem.length = 2) ∧ ((0 ≤ i ∧ i ≤ cs.length ∧ nr = (cs.take i.toNat).all (nrB z) ∧ ∀ j : Nat, j < i.toNat → smB (cs.getD j default) = true))) (fun s => match s with | ⟨i, nr⟩ => (cs.length - i).toNat) ⟨_, _⟩ ⟨s8_15, s7_15, rfl, rfl, rfl, rfl, rfl, ml_1, ?_⟩ ?_
              · (exact ⟨by omega, by omega, rfl, fun j hj => absurd hj (by omega)⟩)
              · rintro ⟨i, nr⟩ e_16 m_16 ⟨s8_16, s7_16, k0_16, k1_16, k5_16, mk1_16, mk0_16, ml_16, hinv⟩
                have s0_16 := k0_16.trans s0_15
                have s1_16 := k1_16.trans s1_15
                have s5_16 := k5_16.trans s5_15
                have mo1_16 := mk1_16.trans mo1_1
                have mo0_16 := mk0_16.trans mo0_1
                (obtain ⟨p1, p2, p3, p4⟩ := hinv)
                refine aw_seq ?_
                refine aw_seq ?_
                refine aw_text (by kernel_rfl) ?_
                refine al_ro' (ro_move s8_16) trivial rfl ?_
                refine al_ro' (ro_move (up_m rfl s1_16)) trivial rfl ?_
                refine al_ro' (ro_eq (ro_len_row up_h rfl h13_sl43.1) (by first | (simp only [lnS] <;> rfl) | rfl)) trivial rfl ?_
                refine al_ro' (ro_lss (u2 rfl up_h) up_h) trivial rfl ?_
                refine al_end (fun e_17 he_17 => ?_)
                have s0_17 := ef 0 he_17 (u4 rfl s0_16)
                have s1_17 := ef 1 he_17 (u4 rfl s1_16)
                have s5_17 := ef 5 he_17 (u4 rfl s5_16)
                have s7_17 := ef 7 he_17 (u4 rfl s7_16)
                have s8_17 := ef 8 he_17 (u4 rfl s8_16)
                have s40_17 := ef 40 he_17 up_h
                clear he_17 s0_16 s1_16 s5_16 s7_16 s8_16
                refine then_n ?_
                refine aw_case s40_17 (fun hq_18 => ?_) (fun hq_18 => ?_)
                · (first | replace hq_18 := bnt hq_18 | replace hq_18 := bnf hq_18 | replace hq_18 := bt hq_18 | replace hq_18 := bf hq_18 | replace hq_18 := bt' hq_18 | replace hq_18 := bf' hq_18 | skip)
                  first
                  | (cases hq_18; done) | (exfalso; omega)
                  | (
                     refine aw_skip ?_
                     refine then_n ?_
                     refine aw_seq ?_
                     refine aw_block ?_
                     refine aw_seq ?_
                     refine aw_seq ?_
                     refine aw_text (by kernel_rfl) ?_
                     refine al_ro' (ro_move s1_17) trivial rfl ?_
                     refine al_ro' (ro_move (up_m rfl s8_17)) trivial rfl ?_
                     refine al_ro' (ro_eq (ro_ix h13_sl43 (up_m rfl up_h) up_h (by first | decide | omega | (simp <;> omega)) (by first | (refine idx_map ?_; first | omega | (simp only [lnS]; omega)) | (refine idx_mapI ?_; first | omega | (simp only [lnS]; omega)) | (refine idx_mapN ?_; first | omega | (simp only [lnS]; omega)) | rfl)) (by first | (simp only [packA_t, packA_f, iE, bE, setAt, cellsA, Value.cells, map_vc, map_vn, Nat.reduceAdd, qS, tE] <;> rfl) | rfl)) trivial rfl ?_
                     refine al_ro' (ro_eq (ro_ld_ref h13_ty24 rfl up_h (by first | exact Nat.le_of_ble_eq_true rfl | omega | (simp only [lnS] <;> omega) | (simp <;> omega))) (by first | (simp only [packA_t, packA_f, iE, bE, setAt, cellsA, Value.cells, map_vc, map_vn, Nat.reduceAdd, qS, tE] <;> rfl) | rfl)) trivial rfl ?_
                     refine al_ro' (ro_call (evL_cons up_h evL_nil) rfl (statorSmall_ok _) h13_hcf21) trivial rfl ?_
                     refine al_ro' (ro_not up_h) trivial rfl ?_
                     refine al_end (fun e_19 he_19 => ?_)
                     have s0_19 := ef 0 he_19 (u2 rfl (u4 rfl s0_17))
                     have s1_19 := ef 1 he_19 (u2 rfl (u4 rfl s1_17))
                     have s5_19 := ef 5 he_19 (u2 rfl (u4 rfl s5_17))
                     have s7_19 := ef 7 he_19 (u2 rfl (u4 rfl s7_17))
                     have s8_19 := ef 8 he_19 (u2 rfl (u4 rfl s8_17))
                     have s48_19 := ef 48 he_19 up_h
                     clear he_19 s0_17 s1_17 s40_17 s5_17 s7_17 s8_17
                     refine then_n ?_
                     refine aw_case s48_19 (fun hq_20 => ?_) (fun hq_20 => ?_)
                     · (first | replace hq_20 := bnt hq_20 | replace hq_20 := bnf hq_20 | replace hq_20 := bt hq_20 | replace hq_20 := bf hq_20 | replace hq_20 := bt' hq_20 | replace hq_20 := bf' hq_20 | skip)
                       first
                       | (cases hq_20; done) | (exfalso; omega)
                       | (
                          refine aw_seq ?_
                          refine aw_text (by kernel_rfl) ?_
                          refine al_ro' (ro_assign ev_c) trivial rfl ?_
                          refine al_end (fun e_21 he_21 => ?_)
                          have s6_21 := ef 6 he_21 up_h
                          clear he_21 s0_19 s1_19 s48_19 s5_19 s7_19 s8_19
                          refine then_n ?_
                          refine aw_ret ?_
                          refine then_r ?_
                          refine block_r ?_
                          refine then_r ?_
                          refine then_r ?_
                          refine block_r ?_
                          refine then_r ?_
                          refine ret1 (.inr rfl) (by kernel_rfl) (resV_tmp s6_21) (.ro _ rfl) ?_
                          clear s6_21 mo1_16 mo0_16 ml_16
                          rfl)
                     · (first | replace hq_20 := bnt hq_20 | replace hq_20 := bnf hq_20 | replace hq_20 := bt hq_20 | replace hq_20 := bf hq_20 | replace hq_20 := bt' hq_20 | replace hq_20 := bf' hq_20 | skip)
                       first
                       | (cases hq_20; done) | (exfalso; omega)
                       | (
                          refine aw_skip ?_
                          refine then_n ?_
                          refine aw_text (by kernel_rfl) ?_
                          refine al_ro' (ro_move s7_19) trivial rfl ?_
                          refine al_ro' (ro_move up_h) trivial rfl ?_
                          refine al_case up_h (fun hb_22 hq_22 => ?_) (fun hb_22 hq_22 => ?_)
                          · (first | replace hq_22 := bnt hq_22 | replace hq_22 := bnf hq_22 | replace hq_22 := bt hq_22 | replace hq_22 := bf hq_22 | replace hq_22 := bt' hq_22 | replace hq_22 := bf' hq_22 | skip)
                            first
                            | (cases hq_22; done) | (exfalso; omega)
                            | (
                               refine al_ro' (ro_move (u2 rfl s0_19)) ⟨_, rfl, hb_22⟩ rfl ?_
                               refine al_ro' (ro_move (up_m rfl (u2 rfl s1_19))) ⟨_, rfl, (up_m rfl hb_22)⟩ rfl ?_
                               refine al_ro' (ro_move (u4 rfl s8_19)) ⟨_, rfl, (u2 rfl hb_22)⟩ rfl ?_
                               refine al_ro' (ro_eq (ro_ix h13_sl43 (up_m rfl up_h) up_h (by first | decide | omega | (simp <;> omega)) (by first | (refine idx_map ?_; first | omega | (simp only [lnS]; omega)) | (refine idx_mapI ?_; first | omega | (simp only [lnS]; omega)) | (refine idx_mapN ?_; first | omega | (simp only [lnS]; omega)) | rfl)) (by first | (simp only [packA_t, packA_f, iE, bE, setAt, cellsA, Value.cells, map_vc, map_vn, Nat.reduceAdd, qS, tE] <;> rfl) | rfl)) ⟨_, rfl, (up_m rfl (u2 rfl hb_22))⟩ rfl ?_
                               refine al_ro' (ro_eq (ro_ld_ref h13_ty24 rfl up_h (by first | exact Nat.le_of_ble_eq_true rfl | omega | (simp only [lnS] <;> omega) | (simp <;> omega))) (by first | (simp only [packA_t, packA_f, iE, bE, setAt, cellsA, Value.cells, map_vc, map_vn, Nat.reduceAdd, qS, tE] <;> rfl) | rfl)) ⟨_, rfl, (u4 rfl hb_22)⟩ rfl ?_
                               refine al_ro' (ro_call (evL_cons (u4 rfl up_h) (evL_cons up_h evL_nil)) rfl (rIsNear_ok _ _ ((smB_bd (by assumption)).mono (by decide)) (by omega)) h13_hcf22) ⟨_, rfl, (up_m rfl (u4 rfl hb_22))⟩ rfl ?_
                               refine al_ro' (ro_pickT (u2 rfl (u4 rfl hb_22)) up_h) trivial rfl ?_
                               refine al_ro' (ro_assign up_h) trivial rfl ?_
                               refine al_end (fun e_23 he_23 => ?_)
                               have s0_23 := ef 0 he_23 (u2 rfl (u8 rfl s0_19))
                               have s1_23 := ef 1 he_23 (u2 rfl (u8 rfl s1_19))
                               have s5_23 := ef 5 he_23 (u2 rfl (u8 rfl s5_19))
                               have s7_23 := ef 7 he_23 up_h
                               have s8_23 := ef 8 he_23 (u2 rfl (u8 rfl s8_19))
                               clear he_23 hb_22 s0_19 s1_19 s48_19 s5_19 s7_19 s8_19
                               refine block_n ?_
                               refine then_n ?_
                               refine aw_text (by kernel_rfl) ?_
                               refine al_ro' (ro_move s8_23) trivial rfl ?_
                               first | (refine al_ro' (ro_add' up_h ev_c ?_) trivial rfl ?_; · (unfold In64; omega)) | refine al_ro' (ro_add up_h ev_c) trivial rfl ?_
                               refine al_ro' (ro_assign up_h) trivial rfl ?_
                               refine al_end (fun e_24 he_24 => ?_)
                               have s0_24 := ef 0 he_24 (up_m rfl (u2 rfl s0_23))
                               have s1_24 := ef 1 he_24 (up_m rfl (u2 rfl s1_23))
                               have s5_24 := ef 5 he_24 (up_m rfl (u2 rfl s5_23))
                               have s7_24 := ef 7 he_24 (up_m rfl (u2 rfl s7_23))
                               have s8_24 := ef 8 he_24 up_h
                               clear he_24 s0_23 s1_23 s5_23 s7_23 s8_23
                               refine then_n ?_
                               refine ⟨⟨_, _⟩, ⟨s8_24, s7_24, (s0_24.trans s0_15.symm), (s1_24.trans s1_15.symm), (s5_24.trans s5_15.symm), (mo1_16.trans mo1_1.symm), (mo0_16.trans mo0_1.symm), ml_16, ?_⟩, ?_⟩
                               · (refine ⟨by omega, by omega, (by rw [all_take_succ p1 (by omega), ← p3]; simp_all), fun j hj => ?_⟩; by_cases hji : j < i.toNat; (exact p4 j hji); (rw [show j = i.toNat by omega]; assumption))
                               · ((try dsimp only); omega))
                          · (first | replace hq_22 := bnt hq_22 | replace hq_22 := bnf hq_22 | replace hq_22 := bt hq_22 | replace hq_22 := bf hq_22 | replace hq_22 := bt' hq_22 | replace hq_22 := bf' hq_22 | skip)
                            first
                            | (cases hq_22; done) | (exfalso; omega)
                            | (
                               refine al_skip' ⟨_, rfl, .inl hb_22⟩ rfl ?_
                               refine al_skip' ⟨_, rfl, .inl (up_m rfl hb_22)⟩ rfl ?_
                               refine al_skip' ⟨_, rfl, .inl (u2 rfl hb_22)⟩ rfl ?_
                               refine al_skip' ⟨_, rfl, .inl (up_m rfl (u2 rfl hb_22))⟩ rfl ?_
                               refine al_skip' ⟨_, rfl, .inl (u4 rfl hb_22)⟩ rfl ?_
                               refine al_skip' ⟨_, rfl, .inl (up_m rfl (u4 rfl hb_22))⟩ rfl ?_
                               refine al_ro' (ro_pickF (u2 rfl (u4 rfl hb_22)) ev_c) trivial rfl ?_
                               refine al_ro' (ro_assign up_h) trivial rfl ?_
                               refine al_end (fun e_25 he_25 => ?_)
                               have s0_25 := ef 0 he_25 (u2 rfl (u8 rfl s0_19))
                               have s1_25 := ef 1 he_25 (u2 rfl (u8 rfl s1_19))
                               have s5_25 := ef 5 he_25 (u2 rfl (u8 rfl s5_19))
                               have s7_25 := ef 7 he_25 up_h
                               have s8_25 := ef 8 he_25 (u2 rfl (u8 rfl s8_19))
                               clear he_25 hb_22 s0_19 s1_19 s48_19 s5_19 s7_19 s8_19
                               refine block_n ?_
                               refine then_n ?_
                               refine aw_text (by kernel_rfl) ?_
                               refine al_ro' (ro_move s8_25) trivial rfl ?_
                               first | (refine al_ro' (ro_add' up_h ev_c ?_) trivial rfl ?_; · (unfold In64; omega)) | refine al_ro' (ro_add up_h ev_c) trivial rfl ?_
                               refine al_ro' (ro_assign up_h) trivial rfl ?_
                               refine al_end (fun e_26 he_26 => ?_)
                               have s0_26 := ef 0 he_26 (up_m rfl (u2 rfl s0_25))
                               have s1_26 := ef 1 he_26 (up_m rfl (u2 rfl s1_25))
                               have s5_26 := ef 5 he_26 (up_m rfl (u2 rfl s5_25))
                               have s7_26 := ef 7 he_26 (up_m rfl (u2 rfl s7_25))
                               have s8_26 := ef 8 he_26 up_h
                               clear he_26 s0_25 s1_25 s5_25 s7_25 s8_25
                               refine then_n ?_
                               refine ⟨⟨_, _⟩, ⟨s8_26, s7_26, (s0_26.trans s0_15.symm), (s1_26.trans s1_15.symm), (s5_26.trans s5_15.symm), (mo1_16.trans mo1_1.symm), (mo0_16.trans mo0_1.symm), ml_16, ?_⟩, ?_⟩
                               · (refine ⟨by omega, by omega, (by rw [all_take_succ p1 (by omega), ← p3]; simp_all), fun j hj => ?_⟩; by_cases hji : j < i.toNat; (exact p4 j hji); (rw [show j = i.toNat by omega]; assumption))
                               · ((try dsimp only); omega))))
                · (first | replace hq_18 := bnt hq_18 | replace hq_18 := bnf hq_18 | replace hq_18 := bt hq_18 | replace hq_18 := bf hq_18 | replace hq_18 := bt' hq_18 | replace hq_18 := bf' hq_18 | skip)
                  first
                  | (cases hq_18; done) | (exfalso; omega)
                  | (
                     (have hcb : ∀ v ∈ cs, Bd 1000 v := (fun v hv => by obtain ⟨j, hj, rfl⟩ := List.getElem_of_mem hv; have := p4 j (by omega); rw [List.getD_eq_getElem?_getD, List.getElem?_eq_getElem hj] at this; exact smB_bd this); have hmS := moS_len z cs; have hmL := moL_len z cs; have hnr : nr = cs.all (nrB z) := (by rw [p3, show i.toNat = cs.length by omega, List.take_length]); clear p1 p2 p3 p4)
                     refine aw_exit ?_
                     refine then_x ?_
                     refine then_x ?_
                     refine block_hit ?_
                     refine then_n ?_
                     refine aw_seq ?_
                     refine aw_text (by kernel_rfl) ?_
                     refine al_ro' (ro_move s0_17) trivial rfl ?_
                     refine al_ro' (ro_move (up_m rfl s1_17)) trivial rfl ?_
                     refine al_ro' (ro_call (evL_cons up_h evL_nil) rfl (copyVectors_ok cs (by omega)) h13_hcf24) trivial rfl ?_
                     refine al_ro' (ro_callG (evL_cons (u2 rfl up_h) (evL_cons up_h evL_nil)) rfl mo0_16 (modulated_ok z cs (by omega) (modE_zero (by omega) (by omega) hcb)) h13_hcf23) trivial rfl ?_
                     refine al_ro' (ro_move up_h) trivial rfl ?_
                     refine al_ro' (ro_extract up_h rfl) trivial rfl ?_
                     refine al_ro' (ro_extract (up_m rfl up_h) rfl) trivial rfl ?_
                     refine al_stm (st_alloc h13_az48 rfl ml_16) trivial rfl (fun m_27 hm_27 => ?_)
                     have mo2_27 := m_push hm_27 ml_16
                     (try simp only [packA_t, packA_f, iE, bE, setAt, cellsA, Value.cells, map_vc, map_vn, Nat.reduceAdd, qS, tE] at mo2_27)
                     have mo1_27 := m_push_o hm_27 mo1_16
                     have mo0_27 := m_push_o hm_27 mo0_16
                     have ml_27 := m_push_l hm_27 ml_16
                     have ml_27 : _ = 3 := ml_27
                     clear hm_27 mo1_16 mo0_16
                     refine al_stm (st_store up_h (u2 rfl up_h) rfl rfl mo2_27 h13_sz48 rfl (by first | exact Nat.le_of_ble_eq_true rfl | omega | (simp only [lnS] <;> omega) | (simp <;> omega))) trivial rfl (fun m_28 hm_28 => ?_)
                     have mo2_28 := m_set hm_28 mo2_27
                     (try simp only [packA_t, packA_f, iE, bE, setAt, cellsA, Value.cells, map_vc, map_vn, Nat.reduceAdd, qS, tE] at mo2_28)
                     have mo1_28 := m_set_o hm_28 mo1_27 (by decide)
                     have mo0_28 := m_set_o hm_28 mo0_27 (by decide)
                     have ml_28 := m_set_l hm_28 ml_27
                     clear hm_28 mo2_27 mo1_27 mo0_27
                     refine al_ro' (ro_assign (up_n (up_m rfl up_h))) trivial rfl ?_
                     refine al_end (fun e_29 he_29 => ?_)
                     have s0_29 := ef 0 he_29 (up_m rfl (up_n (u8 rfl s0_17)))
                     have s1_29 := ef 1 he_29 (up_m rfl (up_n (u8 rfl s1_17)))
                     have s5_29 := ef 5 he_29 (up_m rfl (up_n (u8 rfl s5_17)))
                     have s7_29 := ef 7 he_29 (up_m rfl (up_n (u8 rfl s7_17)))
                     have s9_29 := ef 9 he_29 (up_m rfl (up_n up_h))
                     have s10_29 := ef 10 he_29 up_h
                     clear he_29 s0_17 s1_17 s40_17 s5_17 s7_17 s8_17
                     refine then_n ?_
                     refine aw_seq ?_
                     refine aw_seq ?_
                     refine aw_cut (fun e mem => (evA e (.tmp 82) = .v (.bool false)) ∧ (evA e (.tmp 0) = evA e_29 (.tmp 0)) ∧ (evA e (.tmp 1) = evA e_29 (.tmp 1)) ∧ (evA e (.tmp 5) = evA e_29 (.tmp 5)) ∧ (evA e (.tmp 7) = evA e_29 (.tmp 7)) ∧ (evA e (.tmp 9) = evA e_29 (.tmp 9)) ∧ m_28 = mem) ?_ ?_
                     ·
                       refine aw_text (by kernel_rfl) ?_
                       refine al_ro' (ro_move s10_29) trivial rfl ?_
                       refine al_ro' (ro_neq up_h ev_c) trivial rfl ?_
                       refine al_ro' (ro_move up_h) trivial rfl ?_
                       refine al_case up_h (fun hb_31 hq_31 => ?_) (fun hb_31 hq_31 => ?_)
                       · (first | replace hq_31 := bnt hq_31 | replace hq_31 := bnf hq_31 | replace hq_31 := bt hq_31 | replace hq_31 := bf hq_31 | replace hq_31 := bt' hq_31 | replace hq_31 := bf' hq_31 | skip)
                         first
                         | (cases hq_31; done) | (exfalso; omega)
                         | (
                            refine al_skip' ⟨_, rfl, .inl hb_31⟩ rfl ?_
                            refine al_skip' ⟨_, rfl, .inl (up_m rfl hb_31)⟩ rfl ?_
                            refine al_skip' ⟨_, rfl, .inl (u2 rfl hb_31)⟩ rfl ?_
                            refine al_skip' ⟨_, rfl, .inl (up_m rfl (u2 rfl hb_31))⟩ rfl ?_
                            refine al_skip' ⟨_, rfl, .inl (u4 rfl hb_31)⟩ rfl ?_
                            refine al_skip' ⟨_, rfl, .inl (up_m rfl (u4 rfl hb_31))⟩ rfl ?_
                            refine al_ro' (ro_pickT (u2 rfl (u4 rfl hb_31)) ev_c) trivial rfl ?_
                            refine al_ro' (ro_move up_h) trivial rfl ?_
                            refine al_skip' ⟨_, rfl, .inl up_h⟩ rfl ?_
                            refine al_skip' ⟨_, rfl, .inl (up_m rfl up_h)⟩ rfl ?_
                            refine al_skip' ⟨_, rfl, .inl (u2 rfl up_h)⟩ rfl ?_
                            refine al_skip' ⟨_, rfl, .inl (up_m rfl (u2 rfl up_h))⟩ rfl ?_
                            refine al_skip' ⟨_, rfl, .inl (u4 rfl up_h)⟩ rfl ?_
                            refine al_skip' ⟨_, rfl, .inl (up_m rfl (u4 rfl up_h))⟩ rfl ?_
                            refine al_ro' (ro_pickT (u2 rfl (u4 rfl up_h)) ev_c) trivial rfl ?_
                            refine al_end (fun e_32 he_32 => ?_)
                            have s0_32 := ef 0 he_32 (u2 rfl (u16 rfl s0_29))
                            have s1_32 := ef 1 he_32 (u2 rfl (u16 rfl s1_29))
                            have s5_32 := ef 5 he_32 (u2 rfl (u16 rfl s5_29))
                            have s7_32 := ef 7 he_32 (u2 rfl (u16 rfl s7_29))
                            have s9_32 := ef 9 he_32 (u2 rfl (u16 rfl s9_29))
                            have s82_32 := ef 82 he_32 up_h
                            clear he_32
                            refine then_n ⟨(s82_32).trans (by (first | rfl | (refine avb ?_; simp; omega))), (s0_32).trans (s0_29).symm, (s1_32).trans (s1_29).symm, (s5_32).trans (s5_29).symm, (s7_32).trans (s7_29).symm, (s9_32).trans (s9_29).symm, rfl⟩)
                       · (first | replace hq_31 := bnt hq_31 | replace hq_31 := bnf hq_31 | replace hq_31 := bt hq_31 | replace hq_31 := bf hq_31 | replace hq_31 := bt' hq_31 | replace hq_31 := bf' hq_31 | skip)
                         first
                         | (cases hq_31; done) | (exfalso; omega)
                         | (
                            refine al_ro' (ro_fld_ptr h13_fl48_0 rfl (up_m rfl (u2 rfl s9_29))) ⟨_, rfl, hb_31⟩ rfl ?_
                            refine al_ro' (ro_eq (ro_ld_ptr h13_ty46 rfl mo2_28 up_h (by first | exact Nat.le_of_ble_eq_true rfl | omega | (simp only [lnS] <;> omega) | (simp <;> omega))) (by first | (simp only [packA_t, packA_f, iE, bE, setAt, cellsA, Value.cells, map_vc, map_vn, Nat.reduceAdd, qS, tE] <;> rfl) | rfl)) ⟨_, rfl, (up_m rfl hb_31)⟩ rfl ?_
                            refine al_ro' (ro_eq (ro_len_row up_h rfl h13_sl46.1) (by first | (simp only [lnS] <;> rfl) | rfl)) ⟨_, rfl, (u2 rfl hb_31)⟩ rfl ?_
                            refine al_ro' (ro_move (u2 rfl (u4 rfl s1_29))) ⟨_, rfl, (up_m rfl (u2 rfl hb_31))⟩ rfl ?_
                            refine al_ro' (ro_eq (ro_len_row up_h rfl h13_sl43.1) (by first | (simp only [lnS] <;> rfl) | rfl)) ⟨_, rfl, (u4 rfl hb_31)⟩ rfl ?_
                            refine al_ro' (ro_neq (u2 rfl up_h) up_h) ⟨_, rfl, (up_m rfl (u4 rfl hb_31))⟩ rfl ?_
                            refine al_ro' (ro_pickF (u2 rfl (u4 rfl hb_31)) up_h) trivial rfl ?_
                            refine al_ro' (ro_move up_h) trivial rfl ?_
                            refine al_case up_h (fun hb_33 hq_33 => ?_) (fun hb_33 hq_33 => ?_)
                            · (first | replace hq_33 := bnt hq_33 | replace hq_33 := bnf hq_33 | replace hq_33 := bt hq_33 | replace hq_33 := bf hq_33 | replace hq_33 := bt' hq_33 | replace hq_33 := bf' hq_33 | skip)
                              first
                              | (cases hq_33; done) | (exfalso; omega)
                              | (
                                 refine al_skip' ⟨_, rfl, .inl hb_33⟩ rfl ?_
                                 refine al_skip' ⟨_, rfl, .inl (up_m rfl hb_33)⟩ rfl ?_
                                 refine al_skip' ⟨_, rfl, .inl (u2 rfl hb_33)⟩ rfl ?_
                                 refine al_skip' ⟨_, rfl, .inl (up_m rfl (u2 rfl hb_33))⟩ rfl ?_
                                 refine al_skip' ⟨_, rfl, .inl (u4 rfl hb_33)⟩ rfl ?_
                                 refine al_skip' ⟨_, rfl, .inl (up_m rfl (u4 rfl hb_33))⟩ rfl ?_
                                 refine al_ro' (ro_pickT (u2 rfl (u4 rfl hb_33)) ev_c) trivial rfl ?_
                                 refine al_end (fun e_34 he_34 => ?_)
                                 have s0_34 := ef 0 he_34 (u2 rfl (u16 rfl s0_29))
                                 have s1_34 := ef 1 he_34 (u2 rfl (u16 rfl s1_29))
                                 have s5_34 := ef 5 he_34 (u2 rfl (u16 rfl s5_29))
                                 have s7_34 := ef 7 he_34 (u2 rfl (u16 rfl s7_29))
                                 have s9_34 := ef 9 he_34 (u2 rfl (u16 rfl s9_29))
                                 have s82_34 := ef 82 he_34 up_h
                                 clear he_34
                                 refine then_n ⟨(s82_34).trans (by (first | rfl | (refine avb ?_; simp; omega))), (s0_34).trans (s0_29).symm, (s1_34).trans (s1_29).symm, (s5_34).trans (s5_29).symm, (s7_34).trans (s7_29).symm, (s9_34).trans (s9_29).symm, rfl⟩)
                            · (first | replace hq_33 := bnt hq_33 | replace hq_33 := bnf hq_33 | replace hq_33 := bt hq_33 | replace hq_33 := bf hq_33 | replace hq_33 := bt' hq_33 | replace hq_33 := bf' hq_33 | skip)
                              first
                              | (cases hq_33; done) | (exfalso; omega)
                              | (
                                 refine al_ro' (ro_fld_ptr h13_fl48_1 rfl (up_m rfl (u2 rfl (u8 rfl s9_29)))) ⟨_, rfl, hb_33⟩ rfl ?_
                                 refine al_ro' (ro_eq (ro_ld_ptr h13_ty43 rfl mo2_28 up_h (by first | exact Nat.le_of_ble_eq_true rfl | omega | (simp only [lnS] <;> omega) | (simp <;> omega))) (by first | (simp only [packA_t, packA_f, iE, bE, setAt, cellsA, Value.cells, map_vc, map_vn, Nat.reduceAdd, qS, tE] <;> rfl) | rfl)) ⟨_, rfl, (up_m rfl hb_33)⟩ rfl ?_
                                 refine al_ro' (ro_eq (ro_len_row up_h rfl h13_sl43.1) (by first | (simp only [lnS] <;> rfl) | rfl)) ⟨_, rfl, (u2 rfl hb_33)⟩ rfl ?_
                                 refine al_ro' (ro_move (u2 rfl (u4 rfl (u8 rfl s1_29)))) ⟨_, rfl, (up_m rfl (u2 rfl hb_33))⟩ rfl ?_
                                 refine al_ro' (ro_eq (ro_len_row up_h rfl h13_sl43.1) (by first | (simp only [lnS] <;> rfl) | rfl)) ⟨_, rfl, (u4 rfl hb_33)⟩ rfl ?_
                                 refine al_ro' (ro_neq (u2 rfl up_h) up_h) ⟨_, rfl, (up_m rfl (u4 rfl hb_33))⟩ rfl ?_
                                 refine al_ro' (ro_pickF (u2 rfl (u4 rfl hb_33)) up_h) trivial rfl ?_
                                 refine al_end (fun e_35 he_35 => ?_)
                                 have s0_35 := ef 0 he_35 (u2 rfl (u16 rfl s0_29))
                                 have s1_35 := ef 1 he_35 (u2 rfl (u16 rfl s1_29))
                                 have s5_35 := ef 5 he_35 (u2 rfl (u16 rfl s5_29))
                                 have s7_35 := ef 7 he_35 (u2 rfl (u16 rfl s7_29))
                                 have s9_35 := ef 9 he_35 (u2 rfl (u16 rfl s9_29))
                                 have s82_35 := ef 82 he_35 up_h
                                 clear he_35
                                 refine then_n ⟨(s82_35).trans (by (first | rfl | (refine avb ?_; simp; omega))), (s0_35).trans (s0_29).symm, (s1_35).trans (s1_29).symm, (s5_35).trans (s5_29).symm, (s7_35).trans (s7_29).symm, (s9_35).trans (s9_29).symm, rfl⟩))
                     · rintro e_30 _ ⟨s82_30, k0_30, k1_30, k5_30, k7_30, k9_30, rfl⟩
                       have s0_30 := k0_30.trans s0_29
                       have s1_30 := k1_30.trans s1_29
                       have s5_30 := k5_30.trans s5_29
                       have s7_30 := k7_30.trans s7_29
                       have s9_30 := k9_30.trans s9_29
                       refine aw_case s82_30 (fun hq_36 => ?_) (fun hq_36 => ?_)
                       · (first | replace hq_36 := bnt hq_36 | replace hq_36 := bnf hq_36 | replace hq_36 := bt hq_36 | replace hq_36 := bf hq_36 | replace hq_36 := bt' hq_36 | replace hq_36 := bf' hq_36 | skip)
                         first
                         | (cases hq_36; done) | (exfalso; omega)
                         | (
                            refine aw_seq ?_
                            refine aw_text (by kernel_rfl) ?_
                            refine al_ro' (ro_assign ev_c) trivial rfl ?_
                            refine al_end (fun e_37 he_37 => ?_)
                            have s6_37 := ef 6 he_37 up_h
                            clear he_37 s0_30 s1_30 s5_30 s7_30 s82_30 s9_30
                            refine then_n ?_
                            refine aw_ret ?_
                            refine then_r ?_
                            refine ret1 (.inr rfl) (by kernel_rfl) (resV_tmp s6_37) (.ro _ rfl) ?_
                            clear s6_37 mo2_28 mo1_28 mo0_28 ml_28
                            rfl)
                       · (first | replace hq_36 := bnt hq_36 | replace hq_36 := bnf hq_36 | replace hq_36 := bt hq_36 | replace hq_36 := bf hq_36 | replace hq_36 := bt' hq_36 | replace hq_36 := bf' hq_36 | skip)
                         first
                         | (cases hq_36; done) | (exfalso; omega)
                         | (
                            refine aw_skip ?_
                            refine then_n ?_
                            refine aw_seq ?_
                            refine aw_text (by kernel_rfl) ?_
                            refine al_ro' (ro_assign ev_c) trivial rfl ?_
                            refine al_ro' (ro_assign ev_c) trivial rfl ?_
                            refine al_end (fun e_38 he_38 => ?_)
                            have s0_38 := ef 0 he_38 (u2 rfl s0_30)
                            have s1_38 := ef 1 he_38 (u2 rfl s1_30)
                            have s5_38 := ef 5 he_38 (u2 rfl s5_30)
                            have s7_38 := ef 7 he_38 (u2 rfl s7_30)
                            have s9_38 := ef 9 he_38 (u2 rfl s9_30)
                            have s11_38 := ef 11 he_38 (up_m rfl up_h)
                            have s12_38 := ef 12 he_38 up_h
                            clear he_38 s0_30 s1_30 s5_30 s7_30 s82_30 s9_30
                            refine then_n ?_
                            refine aw_seq ?_
                            refine aw_seq ?_
                            refine aw_text (by kernel_rfl) ?_
                            refine al_ro' (ro_assign ev_c) trivial rfl ?_
                            refine al_end (fun e_39 he_39 => ?_)
                            have s0_39 := ef 0 he_39 (up_m rfl s0_38)
                            have s1_39 := ef 1 he_39 (up_m rfl s1_38)
                            have s5_39 := ef 5 he_39 (up_m rfl s5_38)
                            have s7_39 := ef 7 he_39 (up_m rfl s7_38)
                            have s9_39 := ef 9 he_39 (up_m rfl s9_38)
                            have s11_39 := ef 11 he_39 (up_m rfl s11_38)
                            have s12_39 := ef 12 he_39 (up_m rfl s12_38)
                            have s13_39 := ef 13 he_39 up_h
                            clear he_39 s0_38 s11_38 s12_38 s1_38 s5_38 s7_38 s9_38
                            refine then_n ?_
                            refine aw_block ?_
                            refine aw_loop (S := (Int × Int × Int)) (fun s e mem => match s with | ⟨i, sm, dr⟩ => (evA e (.tmp 13) = .v (.int .i64 i)) ∧ (evA e (.tmp 11) = .v (.int .i64 sm)) ∧ (evA e (.tmp 12) = .v (.int .i64 dr)) ∧ (evA e (.tmp 0) = evA e_39 (.tmp 0)) ∧ (evA e (.tmp 1) = evA e_39 (.tmp 1)) ∧ (evA e (.tmp 5) = evA e_39 (.tmp 5)) ∧ (evA e (.tmp 7) = evA e_39 (.tmp 7)) ∧ (evA e (.tmp 9) = evA e_39 (.tmp 9)) ∧ (mem[2]? = m_28[2]?) ∧ (mem[1]? = m_28[1]?) ∧ (mem[0]? = m_28[0]?) ∧ (∃ n, mem.length = n ∧ 3 ≤ n) ∧ ((0 ≤ i ∧ i ≤ cs.length ∧ sm = dr + (prodV (lfP z cs i.toNat) f).2 ∧ -(6000000 * i) ≤ dr ∧ dr ≤ 6000000 * i))) (fun s => match s with | ⟨i, sm, dr⟩ => (cs.length - i).toNat) ⟨_, _, _⟩ ⟨s13_39, s11_39, s12_39, rfl, rfl, rfl, rfl, rfl, rfl, rfl, rfl, ⟨_, ml_28, Nat.le_refl _⟩, ?_⟩ ?_
                            · (refine ⟨by omega, by omega, ?_, by omega, by omega⟩; show (0 : Int) = 0 + (prodV (0, 0) f).2; rw [force_zero]; rfl)
                            · rintro ⟨i, sm, dr⟩ e_40 m_40 ⟨s13_40, s11_40, s12_40, k0_40, k1_40, k5_40, k7_40, k9_40, mk2_40, mk1_40, mk0_40, ⟨n_40, ml_40, hn_40⟩, hinv⟩
                              have s0_40 := k0_40.trans s0_39
                              have s1_40 := k1_40.trans s1_39
                              have s5_40 := k5_40.trans s5_39
                              have s7_40 := k7_40.trans s7_39
                              have s9_40 := k9_40.trans s9_39
                              have mo2_40 := mk2_40.trans mo2_28
                              have mo1_40 := mk1_40.trans mo1_28
                              have mo0_40 := mk0_40.trans mo0_28
                              (obtain ⟨p1, p2, p3, p4, p5⟩ := hinv; have g0 := fun hlt : i.toNat < cs.length => pulse hs hcb i.toNat hlt (by omega); have hci := Bd.getD hcb (by decide) i.toNat)
                              refine aw_seq ?_
                              refine aw_seq ?_
                              refine aw_text (by kernel_rfl) ?_
                              refine al_ro' (ro_move s13_40) trivial rfl ?_
                              refine al_ro' (ro_move (up_m rfl s1_40)) trivial rfl ?_
                              refine al_ro' (ro_eq (ro_len_row up_h rfl h13_sl43.1) (by first | (simp only [lnS] <;> rfl) | rfl)) trivial rfl ?_
                              refine al_ro' (ro_lss (u2 rfl up_h) up_h) trivial rfl ?_
                              refine al_end (fun e_41 he_41 => ?_)
                              have s0_41 := ef 0 he_41 (u4 rfl s0_40)
                              have s1_41 := ef 1 he_41 (u4 rfl s1_40)
                              have s5_41 := ef 5 he_41 (u4 rfl s5_40)
                              have s7_41 := ef 7 he_41 (u4 rfl s7_40)
                              have s9_41 := ef 9 he_41 (u4 rfl s9_40)
                              have s11_41 := ef 11 he_41 (u4 rfl s11_40)
                              have s12_41 := ef 12 he_41 (u4 rfl s12_40)
                              have s13_41 := ef 13 he_41 (u4 rfl s13_40)
                              have s86_41 := ef 86 he_41 up_h
                              clear he_41 s0_40 s11_40 s12_40 s13_40 s1_40 s5_40 s7_40 s9_40
                              refine then_n ?_
                              refine aw_case s86_41 (fun hq_42 => ?_) (fun hq_42 => ?_)
                              · (first | replace hq_42 := bnt hq_42 | replace hq_42 := bnf hq_42 | replace hq_42 := bt hq_42 | replace hq_42 := bf hq_42 | replace hq_42 := bt' hq_42 | replace hq_42 := bf' hq_42 | skip)
                                first
                                | (cases hq_42; done) | (exfalso; omega)
                                | (
                                   (have hlt : i.toNat < cs.length := (by omega); obtain ⟨g1, g2, g3, g4, g5⟩ := g0 hlt; clear g0 g5; have hst : Bd 1 (stA.getD ((moS z cs).getD i.toNat default).toNat default) := Bd.getD (fun u hu => stA_bd hu) (by decide) _; have hby := byV_bd hs hst; have f1 := force_bd (by decide) hci hfb; have f2 := force_bd (by decide) hby hfb; have f3 := force_bd (M := 40000) (by decide) (g4.mono (by omega)) hfb; have fe : (prodV (lfP z cs i.toNat) f).2 + (prodV (cs.getD i.toNat default) f).2 = (prodV (byV z (stA.getD ((moS z cs).getD i.toNat default).toNat default)) f).2 + (prodV ((moL z cs).getD i.toNat default) f).2 := (by rw [g3, force_sub, force_add]; omega); have hq := sq3_bd hs hfb (f := f) (x := (prodV ((moL z cs).getD i.toNat default) f).2) (by omega); have hnear := pulse_sq hs hcb hnr i.toNat hlt (by omega) (f := f); obtain ⟨⟨t1, t2⟩, t3, t4⟩ := id hst; obtain ⟨⟨t5, t6⟩, t7, t8⟩ := id hby; obtain ⟨⟨l1, l2⟩, l3, l4⟩ := id g4)
                                   refine aw_skip ?_
                                   refine then_n ?_
                                   refine aw_seq ?_
                                   refine aw_block ?_
                                   refine aw_seq ?_
                                   refine aw_draw 11 (by kernel_rfl) (by kernel_rfl) (by kernel_rfl) (by kernel_rfl) ?_
                                   refine ds_ro' (ro_move s1_41) trivial rfl ?_
                                   refine ds_ro' (ro_move (up_m rfl s13_41)) trivial rfl ?_
                                   refine ds_ro' (ro_eq (ro_ix h13_sl43 (up_m rfl up_h) up_h (by first | decide | omega | (simp <;> omega)) (by first | (refine idx_map ?_; first | omega | (simp only [lnS]; omega)) | (refine idx_mapI ?_; first | omega | (simp only [lnS]; omega)) | (refine idx_mapN ?_; first | omega | (simp only [lnS]; omega)) | rfl)) (by first | (simp only [packA_t, packA_f, iE, bE, setAt, cellsA, Value.cells, map_vc, map_vn, Nat.reduceAdd, qS, tE] <;> rfl) | rfl)) trivial rfl ?_
                                   refine ds_ro' (ro_eq (ro_ld_ref h13_ty24 rfl up_h (by first | exact Nat.le_of_ble_eq_true rfl | omega | (simp only [lnS] <;> omega) | (simp <;> omega))) (by first | (simp only [packA_t, packA_f, iE, bE, setAt, cellsA, Value.cells, map_vc, map_vn, Nat.reduceAdd, qS, tE] <;> rfl) | rfl)) trivial rfl ?_
                                   refine ds_ro' (ro_eq (ro_ld_ptr h13_ty24 rfl mo1_40 (u4 rfl s5_41) (by first | exact Nat.le_of_ble_eq_true rfl | omega | (simp only [lnS] <;> omega) | (simp <;> omega))) (by first | (simp only [packA_t, packA_f, iE, bE, setAt, cellsA, Value.cells, map_vc, map_vn, Nat.reduceAdd, qS, tE] <;> rfl) | rfl)) trivial rfl ?_
                                   refine ds_ro' (ro_call (evL_cons (up_m rfl up_h) (evL_cons up_h evL_nil)) rfl (forceOf_ok (cs.getD i.toNat default) f (hci.mono (by decide)) (hfb.mono (by decide))) h13_hcf25) trivial rfl ?_
                                   refine ds_ro' (ro_move up_h) trivial rfl ?_
                                   refine ds_ro' (ro_extract up_h rfl) trivial rfl ?_
                                   refine ds_ro' (ro_extract (up_m rfl up_h) rfl) trivial rfl ?_
                                   refine ds_ro' (ro_assign (up_m rfl up_h)) trivial rfl ?_
                                   refine ds_ro' (ro_assign (up_m rfl up_h)) trivial rfl ?_
                                   refine ds_nil ?_
                                   refine al_end (fun e_43 he_43 => ?_)
                                   have s0_43 := ef 0 he_43 (up_m rfl (u2 rfl (u8 rfl s0_41)))
                                   have s1_43 := ef 1 he_43 (up_m rfl (u2 rfl (u8 rfl s1_41)))
                                   have s5_43 := ef 5 he_43 (up_m rfl (u2 rfl (u8 rfl s5_41)))
                                   have s7_43 := ef 7 he_43 (up_m rfl (u2 rfl (u8 rfl s7_41)))
                                   have s9_43 := ef 9 he_43 (up_m rfl (u2 rfl (u8 rfl s9_41)))
                                   have s11_43 := ef 11 he_43 (up_m rfl (u2 rfl (u8 rfl s11_41)))
                                   have s12_43 := ef 12 he_43 (up_m rfl (u2 rfl (u8 rfl s12_41)))
                                   have s13_43 := ef 13 he_43 (up_m rfl (u2 rfl (u8 rfl s13_41)))
                                   have s14_43 := ef 14 he_43 (up_m rfl up_h)
                                   have s15_43 := ef 15 he_43 up_h
                                   clear he_43 s0_41 s11_41 s12_41 s13_41 s1_41 s5_41 s7_41 s86_41 s9_41
                                   refine then_n ?_
                                   refine aw_seq ?_
                                   refine aw_text (by kernel_rfl) ?_
                                   refine al_ro' (ro_fld_ptr h13_fl48_0 rfl s9_43) trivial rfl ?_
                                   refine al_ro' (ro_eq (ro_ld_ptr h13_ty46 rfl mo2_40 up_h (by first | exact Nat.le_of_ble_eq_true rfl | omega | (simp only [lnS] <;> omega) | (simp <;> omega))) (by first | (simp only [packA_t, packA_f, iE, bE, setAt, cellsA, Value.cells, map_vc, map_vn, Nat.reduceAdd, qS, tE] <;> rfl) | rfl)) trivial rfl ?_
                                   refine al_ro' (ro_move (u2 rfl s13_43)) trivial rfl ?_
                                   refine al_ro' (ro_eq (ro_ix h13_sl46 (up_m rfl up_h) up_h (by first | decide | omega | (simp <;> omega)) (by first | (refine idx_map ?_; first | omega | (simp only [lnS]; omega)) | (refine idx_mapI ?_; first | omega | (simp only [lnS]; omega)) | (refine idx_mapN ?_; first | omega | (simp only [lnS]; omega)) | rfl)) (by first | (simp only [packA_t, packA_f, iE, bE, setAt, cellsA, Value.cells, map_vc, map_vn, Nat.reduceAdd, qS, tE] <;> rfl) | rfl)) trivial rfl ?_
                                   refine al_ro' (ro_eq (ro_ld_ref h13_ty3 rfl up_h (by first | exact Nat.le_of_ble_eq_true rfl | omega | (simp only [lnS] <;> omega) | (simp <;> omega))) (by first | (simp only [packA_t, packA_f, iE, bE, setAt, cellsA, Value.cells, map_vc, map_vn, Nat.reduceAdd, qS, tE] <;> rfl) | rfl)) trivial rfl ?_
                                   refine al_ro' (ro_callG (evL_cons up_h evL_nil) rfl mo0_40 (stateVector_ok _ g2) h13_hcf26) trivial rfl ?_
                                   refine al_ro' (ro_move up_h) trivial rfl ?_
                                   refine al_ro' (ro_extract up_h rfl) trivial rfl ?_
                                   refine al_ro' (ro_extract (up_m rfl up_h) rfl) trivial rfl ?_
                                   refine al_stm (st_alloc h13_az24 rfl ml_40) trivial rfl (fun m_44 hm_44 => ?_)
                                   have mon_40_44 := m_push hm_44 ml_40
                                   (try simp only [packA_t, packA_f, iE, bE, setAt, cellsA, Value.cells, map_vc, map_vn, Nat.reduceAdd, qS, tE] at mon_40_44)
                                   have mo2_44 := m_push_o hm_44 mo2_40
                                   have mo1_44 := m_push_o hm_44 mo1_40
                                   have mo0_44 := m_push_o hm_44 mo0_40
                                   have ml_44 := m_push_l hm_44 ml_40
                                   clear hm_44 mo2_40 mo1_40 mo0_40
                                   refine al_stm (st_store up_h (u2 rfl up_h) rfl rfl mon_40_44 h13_sz24 rfl (by first | exact Nat.le_of_ble_eq_true rfl | omega | (simp only [lnS] <;> omega) | (simp <;> omega))) trivial rfl (fun m_45 hm_45 => ?_)
                                   have mon_40_45 := m_set hm_45 mon_40_44
                                   (try simp only [packA_t, packA_f, iE, bE, setAt, cellsA, Value.cells, map_vc, map_vn, Nat.reduceAdd, qS, tE] at mon_40_45)
                                   have mo2_45 := m_set_o hm_45 mo2_44 (by omega)
                                   have mo1_45 := m_set_o hm_45 mo1_44 (by omega)
                                   have mo0_45 := m_set_o hm_45 mo0_44 (by omega)
                                   have ml_45 := m_set_l hm_45 ml_44
                                   clear hm_45 mon_40_44 mo2_44 mo1_44 mo0_44
                                   refine al_ro' (ro_assign (up_n (up_m rfl up_h))) trivial rfl ?_
                                   refine al_end (fun e_46 he_46 => ?_)
                                   have s0_46 := ef 0 he_46 (up_m rfl (up_n (u2 rfl (u8 rfl s0_43))))
                                   have s1_46 := ef 1 he_46 (up_m rfl (up_n (u2 rfl (u8 rfl s1_43))))
                                   have s5_46 := ef 5 he_46 (up_m rfl (up_n (u2 rfl (u8 rfl s5_43))))
                                   have s7_46 := ef 7 he_46 (up_m rfl (up_n (u2 rfl (u8 rfl s7_43))))
                                   have s9_46 := ef 9 he_46 (up_m rfl (up_n (u2 rfl (u8 rfl s9_43))))
                                   have s11_46 := ef 11 he_46 (up_m rfl (up_n (u2 rfl (u8 rfl s11_43))))
                                   have s12_46 := ef 12 he_46 (up_m rfl (up_n (u2 rfl (u8 rfl s12_43))))
                                   have s13_46 := ef 13 he_46 (up_m rfl (up_n (u2 rfl (u8 rfl s13_43))))
                                   have s14_46 := ef 14 he_46 (up_m rfl (up_n (u2 rfl (u8 rfl s14_43))))
                                   have s15_46 := ef 15 he_46 (up_m rfl (up_n (u2 rfl (u8 rfl s15_43))))
                                   have s16_46 := ef 16 he_46 (up_m rfl (up_n up_h))
                                   have s17_46 := ef 17 he_46 up_h
                                   clear he_46 s0_43 s11_43 s12_43 s13_43 s14_43 s15_43 s1_43 s5_43 s7_43 s9_43
                                   refine then_n ?_
                                   refine aw_seq ?_
                                   refine aw_seq ?_
                                   refine aw_cut (fun e mem => (evA e (.tmp 144) = .v (.bool false)) ∧ (evA e (.tmp 0) = evA e_46 (.tmp 0)) ∧ (evA e (.tmp 1) = evA e_46 (.tmp 1)) ∧ (evA e (.tmp 5) = evA e_46 (.tmp 5)) ∧ (evA e (.tmp 7) = evA e_46 (.tmp 7)) ∧ (evA e (.tmp 9) = evA e_46 (.tmp 9)) ∧ (evA e (.tmp 11) = evA e_46 (.tmp 11)) ∧ (evA e (.tmp 12) = evA e_46 (.tmp 12)) ∧ (evA e (.tmp 13) = evA e_46 (.tmp 13)) ∧ (evA e (.tmp 14) = evA e_46 (.tmp 14)) ∧ (evA e (.tmp 16) = evA e_46 (.tmp 16)) ∧ m_45 = mem) ?_ ?_
                                   ·
                                     refine aw_text (by kernel_rfl) ?_
                                     refine al_ro' (ro_move s15_46) trivial rfl ?_
                                     refine al_ro' (ro_neq up_h ev_c) trivial rfl ?_
                                     refine al_ro' (ro_move up_h) trivial rfl ?_
                                     refine al_case up_h (fun hb_48 hq_48 => ?_) (fun hb_48 hq_48 => ?_)
                                     · (first | replace hq_48 := bnt hq_48 | replace hq_48 := bnf hq_48 | replace hq_48 := bt hq_48 | replace hq_48 := bf hq_48 | replace hq_48 := bt' hq_48 | replace hq_48 := bf' hq_48 | skip)
                                       first
                                       | (cases hq_48; done) | (exfalso; omega)
                                       | (
                                          refine al_skip' ⟨_, rfl, .inl hb_48⟩ rfl ?_
                                          refine al_skip' ⟨_, rfl, .inl (up_m rfl hb_48)⟩ rfl ?_
                                          refine al_ro' (ro_pickT (u2 rfl hb_48) ev_c) trivial rfl ?_
                                          refine al_ro' (ro_move up_h) trivial rfl ?_
                                          refine al_skip' ⟨_, rfl, .inl up_h⟩ rfl ?_
                                          refine al_skip' ⟨_, rfl, .inl (up_m rfl up_h)⟩ rfl ?_
                                          refine al_skip' ⟨_, rfl, .inl (u2 rfl up_h)⟩ rfl ?_
                                          refine al_skip' ⟨_, rfl, .inl (up_m rfl (u2 rfl up_h))⟩ rfl ?_
                                          refine al_ro' (ro_pickT (u4 rfl up_h) ev_c) trivial rfl ?_
                                          refine al_ro' (ro_move up_h) trivial rfl ?_
                                          refine al_skip' ⟨_, rfl, .inl up_h⟩ rfl ?_
                                          refine al_skip' ⟨_, rfl, .inl (up_m rfl up_h)⟩ rfl ?_
                                          refine al_skip' ⟨_, rfl, .inl (u2 rfl up_h)⟩ rfl ?_
                                          refine al_skip' ⟨_, rfl, .inl (up_m rfl (u2 rfl up_h))⟩ rfl ?_
                                          refine al_ro' (ro_pickT (u4 rfl up_h) ev_c) trivial rfl ?_
                                          refine al_ro' (ro_move up_h) trivial rfl ?_
                                          refine al_skip' ⟨_, rfl, .inl up_h⟩ rfl ?_
                                          refine al_skip' ⟨_, rfl, .inl (up_m rfl up_h)⟩ rfl ?_
                                          refine al_skip' ⟨_, rfl, .inl (u2 rfl up_h)⟩ rfl ?_
                                          refine al_skip' ⟨_, rfl, .inl (up_m rfl (u2 rfl up_h))⟩ rfl ?_
                                          refine al_skip' ⟨_, rfl, .inl (u4 rfl up_h)⟩ rfl ?_
                                          refine al_skip' ⟨_, rfl, .inl (up_m rfl (u4 rfl up_h))⟩ rfl ?_
                                          refine al_skip' ⟨_, rfl, .inl (u2 rfl (u4 rfl up_h))⟩ rfl ?_
                                          refine al_skip' ⟨_, rfl, .inl (up_m rfl (u2 rfl (u4 rfl up_h)))⟩ rfl ?_
                                          refine al_ro' (ro_pickT (u8 rfl up_h) ev_c) trivial rfl ?_
                                          refine al_ro' (ro_move up_h) trivial rfl ?_
                                          refine al_skip' ⟨_, rfl, .inl up_h⟩ rfl ?_
                                          refine al_skip' ⟨_, rfl, .inl (up_m rfl up_h)⟩ rfl ?_
                                          refine al_skip' ⟨_, rfl, .inl (u2 rfl up_h)⟩ rfl ?_
                                          refine al_skip' ⟨_, rfl, .inl (up_m rfl (u2 rfl up_h))⟩ rfl ?_
                                          refine al_skip' ⟨_, rfl, .inl (u4 rfl up_h)⟩ rfl ?_
                                          refine al_skip' ⟨_, rfl, .inl (up_m rfl (u4 rfl up_h))⟩ rfl ?_
                                          refine al_skip' ⟨_, rfl, .inl (u2 rfl (u4 rfl up_h))⟩ rfl ?_
                                          refine al_skip' ⟨_, rfl, .inl (up_m rfl (u2 rfl (u4 rfl up_h)))⟩ rfl ?_
                                          refine al_ro' (ro_pickT (u8 rfl up_h) ev_c) trivial rfl ?_
                                          refine al_end (fun e_49 he_49 => ?_)
                                          have s0_49 := ef 0 he_49 (u2 rfl (u4 rfl (u16 rfl (u16 rfl s0_46))))
                                          have s1_49 := ef 1 he_49 (u2 rfl (u4 rfl (u16 rfl (u16 rfl s1_46))))
                                          have s5_49 := ef 5 he_49 (u2 rfl (u4 rfl (u16 rfl (u16 rfl s5_46))))
                                          have s7_49 := ef 7 he_49 (u2 rfl (u4 rfl (u16 rfl (u16 rfl s7_46))))
                                          have s9_49 := ef 9 he_49 (u2 rfl (u4 rfl (u16 rfl (u16 rfl s9_46))))
                                          have s11_49 := ef 11 he_49 (u2 rfl (u4 rfl (u16 rfl (u16 rfl s11_46))))
                                          have s12_49 := ef 12 he_49 (u2 rfl (u4 rfl (u16 rfl (u16 rfl s12_46))))
                                          have s13_49 := ef 13 he_49 (u2 rfl (u4 rfl (u16 rfl (u16 rfl s13_46))))
                                          have s14_49 := ef 14 he_49 (u2 rfl (u4 rfl (u16 rfl (u16 rfl s14_46))))
                                          have s16_49 := ef 16 he_49 (u2 rfl (u4 rfl (u16 rfl (u16 rfl s16_46))))
                                          have s144_49 := ef 144 he_49 up_h
                                          clear he_49
                                          refine then_n ⟨(s144_49).trans (by (first | rfl | (refine avb ?_; simp [withinB, -List.getD_eq_getElem?_getD, -Int.default_eq_zero] at *; omega))), (s0_49).trans (s0_46).symm, (s1_49).trans (s1_46).symm, (s5_49).trans (s5_46).symm, (s7_49).trans (s7_46).symm, (s9_49).trans (s9_46).symm, (s11_49).trans (s11_46).symm, (s12_49).trans (s12_46).symm, (s13_49).trans (s13_46).symm, (s14_49).trans (s14_46).symm, (s16_49).trans (s16_46).symm, rfl⟩)
                                     · (first | replace hq_48 := bnt hq_48 | replace hq_48 := bnf hq_48 | replace hq_48 := bt hq_48 | replace hq_48 := bf hq_48 | replace hq_48 := bt' hq_48 | replace hq_48 := bf' hq_48 | skip)
                                       first
                                       | (cases hq_48; done) | (exfalso; omega)
                                       | (
                                          refine al_ro' (ro_move (up_m rfl (u2 rfl s17_46))) ⟨_, rfl, hb_48⟩ rfl ?_
                                          refine al_ro' (ro_neq up_h ev_c) ⟨_, rfl, (up_m rfl hb_48)⟩ rfl ?_
                                          refine al_ro' (ro_pickF (u2 rfl hb_48) up_h) trivial rfl ?_
                                          refine al_ro' (ro_move up_h) trivial rfl ?_
                                          refine al_case up_h (fun hb_50 hq_50 => ?_) (fun hb_50 hq_50 => ?_)
                                          · (first | replace hq_50 := bnt hq_50 | replace hq_50 := bnf hq_50 | replace hq_50 := bt hq_50 | replace hq_50 := bf hq_50 | replace hq_50 := bt' hq_50 | replace hq_50 := bf' hq_50 | skip)
                                            first
                                            | (cases hq_50; done) | (exfalso; omega)
                                            | (
                                               refine al_skip' ⟨_, rfl, .inl hb_50⟩ rfl ?_
                                               refine al_skip' ⟨_, rfl, .inl (up_m rfl hb_50)⟩ rfl ?_
                                               refine al_skip' ⟨_, rfl, .inl (u2 rfl hb_50)⟩ rfl ?_
                                               refine al_skip' ⟨_, rfl, .inl (up_m rfl (u2 rfl hb_50))⟩ rfl ?_
                                               refine al_ro' (ro_pickT (u4 rfl hb_50) ev_c) trivial rfl ?_
                                               refine al_ro' (ro_move up_h) trivial rfl ?_
                                               refine al_skip' ⟨_, rfl, .inl up_h⟩ rfl ?_
                                               refine al_skip' ⟨_, rfl, .inl (up_m rfl up_h)⟩ rfl ?_
                                               refine al_skip' ⟨_, rfl, .inl (u2 rfl up_h)⟩ rfl ?_
                                               refine al_skip' ⟨_, rfl, .inl (up_m rfl (u2 rfl up_h))⟩ rfl ?_
                                               refine al_ro' (ro_pickT (u4 rfl up_h) ev_c) trivial rfl ?_
                                               refine al_ro' (ro_move up_h) trivial rfl ?_
                                               refine al_skip' ⟨_, rfl, .inl up_h⟩ rfl ?_
                                               refine al_skip' ⟨_, rfl, .inl (up_m rfl up_h)⟩ rfl ?_
                                               refine al_skip' ⟨_, rfl, .inl (u2 rfl up_h)⟩ rfl ?_
                                               refine al_skip' ⟨_, rfl, .inl (up_m rfl (u2 rfl up_h))⟩ rfl ?_
                                               refine al_skip' ⟨_, rfl, .inl (u4 rfl up_h)⟩ rfl ?_
                                               refine al_skip' ⟨_, rfl, .inl (up_m rfl (u4 rfl up_h))⟩ rfl ?_
                                               refine al_skip' ⟨_, rfl, .inl (u2 rfl (u4 rfl up_h))⟩ rfl ?_
                                               refine al_skip' ⟨_, rfl, .inl (up_m rfl (u2 rfl (u4 rfl up_h)))⟩ rfl ?_
                                               refine al_ro' (ro_pickT (u8 rfl up_h) ev_c) trivial rfl ?_
                                               refine al_ro' (ro_move up_h) trivial rfl ?_
                                               refine al_skip' ⟨_, rfl, .inl up_h⟩ rfl ?_
                                               refine al_skip' ⟨_, rfl, .inl (up_m rfl up_h)⟩ rfl ?_
                                               refine al_skip' ⟨_, rfl, .inl (u2 rfl up_h)⟩ rfl ?_
                                               refine al_skip' ⟨_, rfl, .inl (up_m rfl (u2 rfl up_h))⟩ rfl ?_
                                               refine al_skip' ⟨_, rfl, .inl (u4 rfl up_h)⟩ rfl ?_
                                               refine al_skip' ⟨_, rfl, .inl (up_m rfl (u4 rfl up_h))⟩ rfl ?_
                                               refine al_skip' ⟨_, rfl, .inl (u2 rfl (u4 rfl up_h))⟩ rfl ?_
                                               refine al_skip' ⟨_, rfl, .inl (up_m rfl (u2 rfl (u4 rfl up_h)))⟩ rfl ?_
                                               refine al_ro' (ro_pickT (u8 rfl up_h) ev_c) trivial rfl ?_
                                               refine al_end (fun e_51 he_51 => ?_)
                                               have s0_51 := ef 0 he_51 (u2 rfl (u4 rfl (u16 rfl (u16 rfl s0_46))))
                                               have s1_51 := ef 1 he_51 (u2 rfl (u4 rfl (u16 rfl (u16 rfl s1_46))))
                                               have s5_51 := ef 5 he_51 (u2 rfl (u4 rfl (u16 rfl (u16 rfl s5_46))))
                                               have s7_51 := ef 7 he_51 (u2 rfl (u4 rfl (u16 rfl (u16 rfl s7_46))))
                                               have s9_51 := ef 9 he_51 (u2 rfl (u4 rfl (u16 rfl (u16 rfl s9_46))))
                                               have s11_51 := ef 11 he_51 (u2 rfl (u4 rfl (u16 rfl (u16 rfl s11_46))))
                                               have s12_51 := ef 12 he_51 (u2 rfl (u4 rfl (u16 rfl (u16 rfl s12_46))))
                                               have s13_51 := ef 13 he_51 (u2 rfl (u4 rfl (u16 rfl (u16 rfl s13_46))))
                                               have s14_51 := ef 14 he_51 (u2 rfl (u4 rfl (u16 rfl (u16 rfl s14_46))))
                                               have s16_51 := ef 16 he_51 (u2 rfl (u4 rfl (u16 rfl (u16 rfl s16_46))))
                                               have s144_51 := ef 144 he_51 up_h
                                               clear he_51
                                               refine then_n ⟨(s144_51).trans (by (first | rfl | (refine avb ?_; simp [withinB, -List.getD_eq_getElem?_getD, -Int.default_eq_zero] at *; omega))), (s0_51).trans (s0_46).symm, (s1_51).trans (s1_46).symm, (s5_51).trans (s5_46).symm, (s7_51).trans (s7_46).symm, (s9_51).trans (s9_46).symm, (s11_51).trans (s11_46).symm, (s12_51).trans (s12_46).symm, (s13_51).trans (s13_46).symm, (s14_51).trans (s14_46).symm, (s16_51).trans (s16_46).symm, rfl⟩)
                                          · (first | replace hq_50 := bnt hq_50 | replace hq_50 := bnf hq_50 | replace hq_50 := bt hq_50 | replace hq_50 := bf hq_50 | replace hq_50 := bt' hq_50 | replace hq_50 := bf' hq_50 | skip)
                                            first
                                            | (cases hq_50; done) | (exfalso; omega)
                                            | (
                                               refine al_ro' (ro_fld_ptr h13_fl24_0 rfl (up_m rfl (u2 rfl (u4 rfl s16_46)))) ⟨_, rfl, hb_50⟩ rfl ?_
                                               refine al_ro' (ro_eq (ro_ld_ptr h13_ty3 rfl mon_40_45 up_h (by first | exact Nat.le_of_ble_eq_true rfl | omega | (simp only [lnS] <;> omega) | (simp <;> omega))) (by first | (simp only [packA_t, packA_f, iE, bE, setAt, cellsA, Value.cells, map_vc, map_vn, Nat.reduceAdd, qS, tE] <;> rfl) | rfl)) ⟨_, rfl, (up_m rfl hb_50)⟩ rfl ?_
                                               refine al_ro' (ro_call (evL_cons up_h (evL_cons ev_c (evL_cons ev_c evL_nil))) rfl (bWithin_ok _ _ _) h13_hcf18) ⟨_, rfl, (u2 rfl hb_50)⟩ rfl ?_
                                               refine al_ro' (ro_not up_h) ⟨_, rfl, (up_m rfl (u2 rfl hb_50))⟩ rfl ?_
                                               refine al_ro' (ro_pickF (u4 rfl hb_50) up_h) trivial rfl ?_
                                               refine al_ro' (ro_move up_h) trivial rfl ?_
                                               refine al_case up_h (fun hb_52 hq_52 => ?_) (fun hb_52 hq_52 => ?_)
                                               · (first | replace hq_52 := bnt hq_52 | replace hq_52 := bnf hq_52 | replace hq_52 := bt hq_52 | replace hq_52 := bf hq_52 | replace hq_52 := bt' hq_52 | replace hq_52 := bf' hq_52 | skip)
                                                 first
                                                 | (cases hq_52; done) | (exfalso; omega)
                                                 | (
                                                    refine al_skip' ⟨_, rfl, .inl hb_52⟩ rfl ?_
                                                    refine al_skip' ⟨_, rfl, .inl (up_m rfl hb_52)⟩ rfl ?_
                                                    refine al_skip' ⟨_, rfl, .inl (u2 rfl hb_52)⟩ rfl ?_
                                                    refine al_skip' ⟨_, rfl, .inl (up_m rfl (u2 rfl hb_52))⟩ rfl ?_
                                                    refine al_ro' (ro_pickT (u4 rfl hb_52) ev_c) trivial rfl ?_
                                                    refine al_ro' (ro_move up_h) trivial rfl ?_
                                                    refine al_skip' ⟨_, rfl, .inl up_h⟩ rfl ?_
                                                    refine al_skip' ⟨_, rfl, .inl (up_m rfl up_h)⟩ rfl ?_
                                                    refine al_skip' ⟨_, rfl, .inl (u2 rfl up_h)⟩ rfl ?_
                                                    refine al_skip' ⟨_, rfl, .inl (up_m rfl (u2 rfl up_h))⟩ rfl ?_
                                                    refine al_skip' ⟨_, rfl, .inl (u4 rfl up_h)⟩ rfl ?_
                                                    refine al_skip' ⟨_, rfl, .inl (up_m rfl (u4 rfl up_h))⟩ rfl ?_
                                                    refine al_skip' ⟨_, rfl, .inl (u2 rfl (u4 rfl up_h))⟩ rfl ?_
                                                    refine al_skip' ⟨_, rfl, .inl (up_m rfl (u2 rfl (u4 rfl up_h)))⟩ rfl ?_
                                                    refine al_ro' (ro_pickT (u8 rfl up_h) ev_c) trivial rfl ?_
                                                    refine al_ro' (ro_move up_h) trivial rfl ?_
                                                    refine al_skip' ⟨_, rfl, .inl up_h⟩ rfl ?_
                                                    refine al_skip' ⟨_, rfl, .inl (up_m rfl up_h)⟩ rfl ?_
                                                    refine al_skip' ⟨_, rfl, .inl (u2 rfl up_h)⟩ rfl ?_
                                                    refine al_skip' ⟨_, rfl, .inl (up_m rfl (u2 rfl up_h))⟩ rfl ?_
                                                    refine al_skip' ⟨_, rfl, .inl (u4 rfl up_h)⟩ rfl ?_
                                                    refine al_skip' ⟨_, rfl, .inl (up_m rfl (u4 rfl up_h))⟩ rfl ?_
                                                    refine al_skip' ⟨_, rfl, .inl (u2 rfl (u4 rfl up_h))⟩ rfl ?_
                                                    refine al_skip' ⟨_, rfl, .inl (up_m rfl (u2 rfl (u4 rfl up_h)))⟩ rfl ?_
                                                    refine al_ro' (ro_pickT (u8 rfl up_h) ev_c) trivial rfl ?_
                                                    refine al_end (fun e_53 he_53 => ?_)
                                                    have s0_53 := ef 0 he_53 (u2 rfl (u4 rfl (u16 rfl (u16 rfl s0_46))))
                                                    have s1_53 := ef 1 he_53 (u2 rfl (u4 rfl (u16 rfl (u16 rfl s1_46))))
                                                    have s5_53 := ef 5 he_53 (u2 rfl (u4 rfl (u16 rfl (u16 rfl s5_46))))
                                                    have s7_53 := ef 7 he_53 (u2 rfl (u4 rfl (u16 rfl (u16 rfl s7_46))))
                                                    have s9_53 := ef 9 he_53 (u2 rfl (u4 rfl (u16 rfl (u16 rfl s9_46))))
                                                    have s11_53 := ef 11 he_53 (u2 rfl (u4 rfl (u16 rfl (u16 rfl s11_46))))
                                                    have s12_53 := ef 12 he_53 (u2 rfl (u4 rfl (u16 rfl (u16 rfl s12_46))))
                                                    have s13_53 := ef 13 he_53 (u2 rfl (u4 rfl (u16 rfl (u16 rfl s13_46))))
                                                    have s14_53 := ef 14 he_53 (u2 rfl (u4 rfl (u16 rfl (u16 rfl s14_46))))
                                                    have s16_53 := ef 16 he_53 (u2 rfl (u4 rfl (u16 rfl (u16 rfl s16_46))))
                                                    have s144_53 := ef 144 he_53 up_h
                                                    clear he_53
                                                    refine then_n ⟨(s144_53).trans (by (first | rfl | (refine avb ?_; simp [withinB, -List.getD_eq_getElem?_getD, -Int.default_eq_zero] at *; omega))), (s0_53).trans (s0_46).symm, (s1_53).trans (s1_46).symm, (s5_53).trans (s5_46).symm, (s7_53).trans (s7_46).symm, (s9_53).trans (s9_46).symm, (s11_53).trans (s11_46).symm, (s12_53).trans (s12_46).symm, (s13_53).trans (s13_46).symm, (s14_53).trans (s14_46).symm, (s16_53).trans (s16_46).symm, rfl⟩)
                                               · (first | replace hq_52 := bnt hq_52 | replace hq_52 := bnf hq_52 | replace hq_52 := bt hq_52 | replace hq_52 := bf hq_52 | replace hq_52 := bt' hq_52 | replace hq_52 := bf' hq_52 | skip)
                                                 first
                                                 | (cases hq_52; done) | (exfalso; omega)
                                                 | (
                                                    refine al_ro' (ro_fld_ptr h13_fl24_1 rfl (up_m rfl (u4 rfl (u8 rfl s16_46)))) ⟨_, rfl, hb_52⟩ rfl ?_
                                                    refine al_ro' (ro_eq (ro_ld_ptr h13_ty3 rfl mon_40_45 up_h (by first | exact Nat.le_of_ble_eq_true rfl | omega | (simp only [lnS] <;> omega) | (simp <;> omega))) (by first | (simp only [packA_t, packA_f, iE, bE, setAt, cellsA, Value.cells, map_vc, map_vn, Nat.reduceAdd, qS, tE] <;> rfl) | rfl)) ⟨_, rfl, (up_m rfl hb_52)⟩ rfl ?_
                                                    refine al_ro' (ro_call (evL_cons up_h (evL_cons ev_c (evL_cons ev_c evL_nil))) rfl (bWithin_ok _ _ _) h13_hcf18) ⟨_, rfl, (u2 rfl hb_52)⟩ rfl ?_
                                                    refine al_ro' (ro_not up_h) ⟨_, rfl, (up_m rfl (u2 rfl hb_52))⟩ rfl ?_
                                                    refine al_ro' (ro_pickF (u4 rfl hb_52) up_h) trivial rfl ?_
                                                    refine al_ro' (ro_move up_h) trivial rfl ?_
                                                    refine al_case up_h (fun hb_54 hq_54 => ?_) (fun hb_54 hq_54 => ?_)
                                                    · (first | replace hq_54 := bnt hq_54 | replace hq_54 := bnf hq_54 | replace hq_54 := bt hq_54 | replace hq_54 := bf hq_54 | replace hq_54 := bt' hq_54 | replace hq_54 := bf' hq_54 | skip)
                                                      first
                                                      | (cases hq_54; done) | (exfalso; omega)
                                                      | (
                                                         refine al_skip' ⟨_, rfl, .inl hb_54⟩ rfl ?_
                                                         refine al_skip' ⟨_, rfl, .inl (up_m rfl hb_54)⟩ rfl ?_
                                                         refine al_skip' ⟨_, rfl, .inl (u2 rfl hb_54)⟩ rfl ?_
                                                         refine al_skip' ⟨_, rfl, .inl (up_m rfl (u2 rfl hb_54))⟩ rfl ?_
                                                         refine al_skip' ⟨_, rfl, .inl (u4 rfl hb_54)⟩ rfl ?_
                                                         refine al_skip' ⟨_, rfl, .inl (up_m rfl (u4 rfl hb_54))⟩ rfl ?_
                                                         refine al_skip' ⟨_, rfl, .inl (u2 rfl (u4 rfl hb_54))⟩ rfl ?_
                                                         refine al_skip' ⟨_, rfl, .inl (up_m rfl (u2 rfl (u4 rfl hb_54)))⟩ rfl ?_
                                                         refine al_ro' (ro_pickT (u8 rfl hb_54) ev_c) trivial rfl ?_
                                                         refine al_ro' (ro_move up_h) trivial rfl ?_
                                                         refine al_skip' ⟨_, rfl, .inl up_h⟩ rfl ?_
                                                         refine al_skip' ⟨_, rfl, .inl (up_m rfl up_h)⟩ rfl ?_
                                                         refine al_skip' ⟨_, rfl, .inl (u2 rfl up_h)⟩ rfl ?_
                                                         refine al_skip' ⟨_, rfl, .inl (up_m rfl (u2 rfl up_h))⟩ rfl ?_
                                                         refine al_skip' ⟨_, rfl, .inl (u4 rfl up_h)⟩ rfl ?_
                                                         refine al_skip' ⟨_, rfl, .inl (up_m rfl (u4 rfl up_h))⟩ rfl ?_
                                                         refine al_skip' ⟨_, rfl, .inl (u2 rfl (u4 rfl up_h))⟩ rfl ?_
                                                         refine al_skip' ⟨_, rfl, .inl (up_m rfl (u2 rfl (u4 rfl up_h)))⟩ rfl ?_
                                                         refine al_ro' (ro_pickT (u8 rfl up_h) ev_c) trivial rfl ?_
                                                         refine al_end (fun e_55 he_55 => ?_)
                                                         have s0_55 := ef 0 he_55 (u2 rfl (u4 rfl (u16 rfl (u16 rfl s0_46))))
                                                         have s1_55 := ef 1 he_55 (u2 rfl (u4 rfl (u16 rfl (u16 rfl s1_46))))
                                                         have s5_55 := ef 5 he_55 (u2 rfl (u4 rfl (u16 rfl (u16 rfl s5_46))))
                                                         have s7_55 := ef 7 he_55 (u2 rfl (u4 rfl (u16 rfl (u16 rfl s7_46))))
                                                         have s9_55 := ef 9 he_55 (u2 rfl (u4 rfl (u16 rfl (u16 rfl s9_46))))
                                                         have s11_55 := ef 11 he_55 (u2 rfl (u4 rfl (u16 rfl (u16 rfl s11_46))))
                                                         have s12_55 := ef 12 he_55 (u2 rfl (u4 rfl (u16 rfl (u16 rfl s12_46))))
                                                         have s13_55 := ef 13 he_55 (u2 rfl (u4 rfl (u16 rfl (u16 rfl s13_46))))
                                                         have s14_55 := ef 14 he_55 (u2 rfl (u4 rfl (u16 rfl (u16 rfl s14_46))))
                                                         have s16_55 := ef 16 he_55 (u2 rfl (u4 rfl (u16 rfl (u16 rfl s16_46))))
                                                         have s144_55 := ef 144 he_55 up_h
                                                         clear he_55
                                                         refine then_n ⟨(s144_55).trans (by (first | rfl | (refine avb ?_; simp [withinB, -List.getD_eq_getElem?_getD, -Int.default_eq_zero] at *; omega))), (s0_55).trans (s0_46).symm, (s1_55).trans (s1_46).symm, (s5_55).trans (s5_46).symm, (s7_55).trans (s7_46).symm, (s9_55).trans (s9_46).symm, (s11_55).trans (s11_46).symm, (s12_55).trans (s12_46).symm, (s13_55).trans (s13_46).symm, (s14_55).trans (s14_46).symm, (s16_55).trans (s16_46).symm, rfl⟩)
                                                    · (first | replace hq_54 := bnt hq_54 | replace hq_54 := bnf hq_54 | replace hq_54 := bt hq_54 | replace hq_54 := bf hq_54 | replace hq_54 := bt' hq_54 | replace hq_54 := bf' hq_54 | skip)
                                                      first
                                                      | (cases hq_54; done) | (exfalso; omega)
                                                      | (
                                                         refine al_ro' (ro_fld_ptr h13_fl48_1 rfl (up_m rfl (u2 rfl (u16 rfl s9_46)))) ⟨_, rfl, hb_54⟩ rfl ?_
                                                         refine al_ro' (ro_eq (ro_ld_ptr h13_ty43 rfl mo2_45 up_h (by first | exact Nat.le_of_ble_eq_true rfl | omega | (simp only [lnS] <;> omega) | (simp <;> omega))) (by first | (simp only [packA_t, packA_f, iE, bE, setAt, cellsA, Value.cells, map_vc, map_vn, Nat.reduceAdd, qS, tE] <;> rfl) | rfl)) ⟨_, rfl, (up_m rfl hb_54)⟩ rfl ?_
                                                         refine al_ro' (ro_move (up_m rfl (u4 rfl (u16 rfl s13_46)))) ⟨_, rfl, (u2 rfl hb_54)⟩ rfl ?_
                                                         refine al_ro' (ro_eq (ro_ix h13_sl43 (up_m rfl up_h) up_h (by first | decide | omega | (simp <;> omega)) (by first | (refine idx_map ?_; first | omega | (simp only [lnS]; omega)) | (refine idx_mapI ?_; first | omega | (simp only [lnS]; omega)) | (refine idx_mapN ?_; first | omega | (simp only [lnS]; omega)) | rfl)) (by first | (simp only [packA_t, packA_f, iE, bE, setAt, cellsA, Value.cells, map_vc, map_vn, Nat.reduceAdd, qS, tE] <;> rfl) | rfl)) ⟨_, rfl, (up_m rfl (u2 rfl hb_54))⟩ rfl ?_
                                                         refine al_ro' (ro_eq (ro_fld_ref h13_fl24_0 rfl up_h) (by first | (simp only [packA_t, packA_f, iE, bE, setAt, cellsA, Value.cells, map_vc, map_vn, Nat.reduceAdd, qS, tE] <;> rfl) | rfl)) ⟨_, rfl, (u4 rfl hb_54)⟩ rfl ?_
                                                         refine al_ro' (ro_eq (ro_ld_ref h13_ty3 rfl up_h (by first | exact Nat.le_of_ble_eq_true rfl | omega | (simp only [lnS] <;> omega) | (simp <;> omega))) (by first | (simp only [packA_t, packA_f, iE, bE, setAt, cellsA, Value.cells, map_vc, map_vn, Nat.reduceAdd, qS, tE] <;> rfl) | rfl)) ⟨_, rfl, (up_m rfl (u4 rfl hb_54))⟩ rfl ?_
                                                         refine al_ro' (ro_call (evL_cons up_h (evL_cons ev_c (evL_cons ev_c evL_nil))) rfl (bWithin_ok _ _ _) h13_hcf18) ⟨_, rfl, (u2 rfl (u4 rfl hb_54))⟩ rfl ?_
                                                         refine al_ro' (ro_not up_h) ⟨_, rfl, (up_m rfl (u2 rfl (u4 rfl hb_54)))⟩ rfl ?_
                                                         refine al_ro' (ro_pickF (u8 rfl hb_54) up_h) trivial rfl ?_
                                                         refine al_ro' (ro_move up_h) trivial rfl ?_
                                                         refine al_case up_h (fun hb_56 hq_56 => ?_) (fun hb_56 hq_56 => ?_)
                                                         · (first | replace hq_56 := bnt hq_56 | replace hq_56 := bnf hq_56 | replace hq_56 := bt hq_56 | replace hq_56 := bf hq_56 | replace hq_56 := bt' hq_56 | replace hq_56 := bf' hq_56 | skip)
                                                           first
                                                           | (cases hq_56; done) | (exfalso; omega)
                                                           | (
                                                              refine al_skip' ⟨_, rfl, .inl hb_56⟩ rfl ?_
                                                              refine al_skip' ⟨_, rfl, .inl (up_m rfl hb_56)⟩ rfl ?_
                                                              refine al_skip' ⟨_, rfl, .inl (u2 rfl hb_56)⟩ rfl ?_
                                                              refine al_skip' ⟨_, rfl, .inl (up_m rfl (u2 rfl hb_56))⟩ rfl ?_
                                                              refine al_skip' ⟨_, rfl, .inl (u4 rfl hb_56)⟩ rfl ?_
                                                              refine al_skip' ⟨_, rfl, .inl (up_m rfl (u4 rfl hb_56))⟩ rfl ?_
                                                              refine al_skip' ⟨_, rfl, .inl (u2 rfl (u4 rfl hb_56))⟩ rfl ?_
                                                              refine al_skip' ⟨_, rfl, .inl (up_m rfl (u2 rfl (u4 rfl hb_56)))⟩ rfl ?_
                                                              refine al_ro' (ro_pickT (u8 rfl hb_56) ev_c) trivial rfl ?_
                                                              refine al_end (fun e_57 he_57 => ?_)
                                                              have s0_57 := ef 0 he_57 (u2 rfl (u4 rfl (u16 rfl (u16 rfl s0_46))))
                                                              have s1_57 := ef 1 he_57 (u2 rfl (u4 rfl (u16 rfl (u16 rfl s1_46))))
                                                              have s5_57 := ef 5 he_57 (u2 rfl (u4 rfl (u16 rfl (u16 rfl s5_46))))
                                                              have s7_57 := ef 7 he_57 (u2 rfl (u4 rfl (u16 rfl (u16 rfl s7_46))))
                                                              have s9_57 := ef 9 he_57 (u2 rfl (u4 rfl (u16 rfl (u16 rfl s9_46))))
                                                              have s11_57 := ef 11 he_57 (u2 rfl (u4 rfl (u16 rfl (u16 rfl s11_46))))
                                                              have s12_57 := ef 12 he_57 (u2 rfl (u4 rfl (u16 rfl (u16 rfl s12_46))))
                                                              have s13_57 := ef 13 he_57 (u2 rfl (u4 rfl (u16 rfl (u16 rfl s13_46))))
                                                              have s14_57 := ef 14 he_57 (u2 rfl (u4 rfl (u16 rfl (u16 rfl s14_46))))
                                                              have s16_57 := ef 16 he_57 (u2 rfl (u4 rfl (u16 rfl (u16 rfl s16_46))))
                                                              have s144_57 := ef 144 he_57 up_h
                                                              clear he_57
                                                              refine then_n ⟨(s144_57).trans (by (first | rfl | (refine avb ?_; simp [withinB, -List.getD_eq_getElem?_getD, -Int.default_eq_zero] at *; omega))), (s0_57).trans (s0_46).symm, (s1_57).trans (s1_46).symm, (s5_57).trans (s5_46).symm, (s7_57).trans (s7_46).symm, (s9_57).trans (s9_46).symm, (s11_57).trans (s11_46).symm, (s12_57).trans (s12_46).symm, (s13_57).trans (s13_46).symm, (s14_57).trans (s14_46).symm, (s16_57).trans (s16_46).symm, rfl⟩)
                                                         · (first | replace hq_56 := bnt hq_56 | replace hq_56 := bnf hq_56 | replace hq_56 := bt hq_56 | replace hq_56 := bf hq_56 | replace hq_56 := bt' hq_56 | replace hq_56 := bf' hq_56 | skip)
                                                           first
                                                           | (cases hq_56; done) | (exfalso; omega)
                                                           | (
                                                              refine al_ro' (ro_fld_ptr h13_fl48_1 rfl (up_m rfl (u4 rfl (u8 rfl (u16 rfl s9_46))))) ⟨_, rfl, hb_56⟩ rfl ?_
                                                              refine al_ro' (ro_eq (ro_ld_ptr h13_ty43 rfl mo2_45 up_h (by first | exact Nat.le_of_ble_eq_true rfl | omega | (simp only [lnS] <;> omega) | (simp <;> omega))) (by first | (simp only [packA_t, packA_f, iE, bE, setAt, cellsA, Value.cells, map_vc, map_vn, Nat.reduceAdd, qS, tE] <;> rfl) | rfl)) ⟨_, rfl, (up_m rfl hb_56)⟩ rfl ?_
                                                              refine al_ro' (ro_move (up_m rfl (u2 rfl (u4 rfl (u8 rfl (u16 rfl s13_46)))))) ⟨_, rfl, (u2 rfl hb_56)⟩ rfl ?_
                                                              refine al_ro' (ro_eq (ro_ix h13_sl43 (up_m rfl up_h) up_h (by first | decide | omega | (simp <;> omega)) (by first | (refine idx_map ?_; first | omega | (simp only [lnS]; omega)) | (refine idx_mapI ?_; first | omega | (simp only [lnS]; omega)) | (refine idx_mapN ?_; first | omega | (simp only [lnS]; omega)) | rfl)) (by first | (simp only [packA_t, packA_f, iE, bE, setAt, cellsA, Value.cells, map_vc, map_vn, Nat.reduceAdd, qS, tE] <;> rfl) | rfl)) ⟨_, rfl, (up_m rfl (u2 rfl hb_56))⟩ rfl ?_
                                                              refine al_ro' (ro_eq (ro_fld_ref h13_fl24_1 rfl up_h) (by first | (simp only [packA_t, packA_f, iE, bE, setAt, cellsA, Value.cells, map_vc, map_vn, Nat.reduceAdd, qS, tE] <;> rfl) | rfl)) ⟨_, rfl, (u4 rfl hb_56)⟩ rfl ?_
                                                              refine al_ro' (ro_eq (ro_ld_ref h13_ty3 rfl up_h (by first | exact Nat.le_of_ble_eq_true rfl | omega | (simp only [lnS] <;> omega) | (simp <;> omega))) (by first | (simp only [packA_t, packA_f, iE, bE, setAt, cellsA, Value.cells, map_vc, map_vn, Nat.reduceAdd, qS, tE] <;> rfl) | rfl)) ⟨_, rfl, (up_m rfl (u4 rfl hb_56))⟩ rfl ?_
                                                              refine al_ro' (ro_call (evL_cons up_h (evL_cons ev_c (evL_cons ev_c evL_nil))) rfl (bWithin_ok _ _ _) h13_hcf18) ⟨_, rfl, (u2 rfl (u4 rfl hb_56))⟩ rfl ?_
                                                              refine al_ro' (ro_not up_h) ⟨_, rfl, (up_m rfl (u2 rfl (u4 rfl hb_56)))⟩ rfl ?_
                                                              refine al_ro' (ro_pickF (u8 rfl hb_56) up_h) trivial rfl ?_
                                                              refine al_end (fun e_58 he_58 => ?_)
                                                              have s0_58 := ef 0 he_58 (u2 rfl (u4 rfl (u16 rfl (u16 rfl s0_46))))
                                                              have s1_58 := ef 1 he_58 (u2 rfl (u4 rfl (u16 rfl (u16 rfl s1_46))))
                                                              have s5_58 := ef 5 he_58 (u2 rfl (u4 rfl (u16 rfl (u16 rfl s5_46))))
                                                              have s7_58 := ef 7 he_58 (u2 rfl (u4 rfl (u16 rfl (u16 rfl s7_46))))
                                                              have s9_58 := ef 9 he_58 (u2 rfl (u4 rfl (u16 rfl (u16 rfl s9_46))))
                                                              have s11_58 := ef 11 he_58 (u2 rfl (u4 rfl (u16 rfl (u16 rfl s11_46))))
                                                              have s12_58 := ef 12 he_58 (u2 rfl (u4 rfl (u16 rfl (u16 rfl s12_46))))
                                                              have s13_58 := ef 13 he_58 (u2 rfl (u4 rfl (u16 rfl (u16 rfl s13_46))))
                                                              have s14_58 := ef 14 he_58 (u2 rfl (u4 rfl (u16 rfl (u16 rfl s14_46))))
                                                              have s16_58 := ef 16 he_58 (u2 rfl (u4 rfl (u16 rfl (u16 rfl s16_46))))
                                                              have s144_58 := ef 144 he_58 up_h
                                                              clear he_58
                                                              refine then_n ⟨(s144_58).trans (by (first | rfl | (refine avb ?_; simp [withinB, -List.getD_eq_getElem?_getD, -Int.default_eq_zero] at *; omega))), (s0_58).trans (s0_46).symm, (s1_58).trans (s1_46).symm, (s5_58).trans (s5_46).symm, (s7_58).trans (s7_46).symm, (s9_58).trans (s9_46).symm, (s11_58).trans (s11_46).symm, (s12_58).trans (s12_46).symm, (s13_58).trans (s13_46).symm, (s14_58).trans (s14_46).symm, (s16_58).trans (s16_46).symm, rfl⟩)))))
                                   · rintro e_47 _ ⟨s144_47, k0_47, k1_47, k5_47, k7_47, k9_47, k11_47, k12_47, k13_47, k14_47, k16_47, rfl⟩
                                     have s0_47 := k0_47.trans s0_46
                                     have s1_47 := k1_47.trans s1_46
                                     have s5_47 := k5_47.trans s5_46
                                     have s7_47 := k7_47.trans s7_46
                                     have s9_47 := k9_47.trans s9_46
                                     have s11_47 := k11_47.trans s11_46
                                     have s12_47 := k12_47.trans s12_46
                                     have s13_47 := k13_47.trans s13_46
                                     have s14_47 := k14_47.trans s14_46
                                     have s16_47 := k16_47.trans s16_46
                                     refine aw_case s144_47 (fun hq_59 => ?_) (fun hq_59 => ?_)
                                     · (first | replace hq_59 := bnt hq_59 | replace hq_59 := bnf hq_59 | replace hq_59 := bt hq_59 | replace hq_59 := bf hq_59 | replace hq_59 := bt' hq_59 | replace hq_59 := bf' hq_59 | skip)
                                       first
                                       | (cases hq_59; done) | (exfalso; omega)
                                       | (
                                          refine aw_seq ?_
                                          refine aw_text (by kernel_rfl) ?_
                                          refine al_ro' (ro_assign ev_c) trivial rfl ?_
                                          refine al_end (fun e_60 he_60 => ?_)
                                          have s6_60 := ef 6 he_60 up_h
                                          clear he_60 s0_47 s11_47 s12_47 s13_47 s144_47 s14_47 s16_47 s1_47 s5_47 s7_47 s9_47
                                          refine then_n ?_
                                          refine aw_ret ?_
                                          refine then_r ?_
                                          refine block_r ?_
                                          refine then_r ?_
                                          refine then_r ?_
                                          refine block_r ?_
                                          refine then_r ?_
                                          refine ret1 (.inr rfl) (by kernel_rfl) (resV_tmp s6_60) (.ro _ rfl) ?_
                                          clear s6_60 mon_40_45 mo2_45 mo1_45 mo0_45 ml_45
                                          rfl)
                                     · (first | replace hq_59 := bnt hq_59 | replace hq_59 := bnf hq_59 | replace hq_59 := bt hq_59 | replace hq_59 := bf hq_59 | replace hq_59 := bt' hq_59 | replace hq_59 := bf' hq_59 | skip)
                                       first
                                       | (cases hq_59; done) | (exfalso; omega)
                                       | (
                                          refine aw_skip ?_
                                          refine then_n ?_
                                          refine aw_seq ?_
                                          refine aw_text (by kernel_rfl) ?_
                                          refine al_ro' (ro_move s0_47) trivial rfl ?_
                                          refine al_ro' (ro_fld_ptr h13_fl24_0 rfl (up_m rfl s16_47)) trivial rfl ?_
                                          refine al_ro' (ro_eq (ro_ld_ptr h13_ty3 rfl mon_40_45 up_h (by first | exact Nat.le_of_ble_eq_true rfl | omega | (simp only [lnS] <;> omega) | (simp <;> omega))) (by first | (simp only [packA_t, packA_f, iE, bE, setAt, cellsA, Value.cells, map_vc, map_vn, Nat.reduceAdd, qS, tE] <;> rfl) | rfl)) trivial rfl ?_
                                          first | (refine al_ro' (ro_mul' (u2 rfl up_h) up_h ?_) trivial rfl ?_; · (unfold In64; omega)) | refine al_ro' (ro_mul (u2 rfl up_h) up_h) trivial rfl ?_
                                          refine al_ro' (ro_move (u4 rfl s0_47)) trivial rfl ?_
                                          refine al_ro' (ro_fld_ptr h13_fl24_1 rfl (up_m rfl (u4 rfl s16_47))) trivial rfl ?_
                                          refine al_ro' (ro_eq (ro_ld_ptr h13_ty3 rfl mon_40_45 up_h (by first | exact Nat.le_of_ble_eq_true rfl | omega | (simp only [lnS] <;> omega) | (simp <;> omega))) (by first | (simp only [packA_t, packA_f, iE, bE, setAt, cellsA, Value.cells, map_vc, map_vn, Nat.reduceAdd, qS, tE] <;> rfl) | rfl)) trivial rfl ?_
                                          first | (refine al_ro' (ro_mul' (u2 rfl up_h) up_h ?_) trivial rfl ?_; · (unfold In64; omega)) | refine al_ro' (ro_mul (u2 rfl up_h) up_h) trivial rfl ?_
                                          refine al_ro' (ro_build (evP_cons (u4 rfl up_h) (evP_cons up_h evP_nil)) h13_bz24 h13_bu24 h13_bp24 rfl) trivial rfl ?_
                                          refine al_ro' (ro_eq (ro_ld_ptr h13_ty24 rfl mo1_45 (up_m rfl (u8 rfl s5_47)) (by first | exact Nat.le_of_ble_eq_true rfl | omega | (simp only [lnS] <;> omega) | (simp <;> omega))) (by first | (simp only [packA_t, packA_f, iE, bE, setAt, cellsA, Value.cells, map_vc, map_vn, Nat.reduceAdd, qS, tE] <;> rfl) | rfl)) trivial rfl ?_
                                          refine al_ro' (ro_call (evL_cons (up_m rfl up_h) (evL_cons up_h evL_nil)) rfl (forceBy_ok z (stA.getD ((moS z cs).getD i.toNat default).toNat default) f hs hst hfb) h13_hcf25) trivial rfl ?_
                                          refine al_ro' (ro_move up_h) trivial rfl ?_
                                          refine al_ro' (ro_extract up_h rfl) trivial rfl ?_
                                          refine al_ro' (ro_extract (up_m rfl up_h) rfl) trivial rfl ?_
                                          refine al_ro' (ro_assign (up_m rfl up_h)) trivial rfl ?_
                                          refine al_ro' (ro_assign (up_m rfl up_h)) trivial rfl ?_
                                          refine al_end (fun e_61 he_61 => ?_)
                                          have s0_61 := ef 0 he_61 (u16 rfl s0_47)
                                          have s1_61 := ef 1 he_61 (u16 rfl s1_47)
                                          have s5_61 := ef 5 he_61 (u16 rfl s5_47)
                                          have s7_61 := ef 7 he_61 (u16 rfl s7_47)
                                          have s9_61 := ef 9 he_61 (u16 rfl s9_47)
                                          have s11_61 := ef 11 he_61 (u16 rfl s11_47)
                                          have s12_61 := ef 12 he_61 (u16 rfl s12_47)
                                          have s13_61 := ef 13 he_61 (u16 rfl s13_47)
                                          have s14_61 := ef 14 he_61 (u16 rfl s14_47)
                                          have s18_61 := ef 18 he_61 (up_m rfl up_h)
                                          have s19_61 := ef 19 he_61 up_h
                                          clear he_61 s0_47 s11_47 s12_47 s13_47 s144_47 s14_47 s16_47 s1_47 s5_47 s7_47 s9_47
                                          refine then_n ?_
                                          refine aw_seq ?_
                                          refine aw_draw 12 (by kernel_rfl) (by kernel_rfl) (by kernel_rfl) (by kernel_rfl) ?_
                                          refine ds_ro' (ro_fld_ptr h13_fl48_1 rfl s9_61) trivial rfl ?_
                                          refine ds_ro' (ro_eq (ro_ld_ptr h13_ty43 rfl mo2_45 up_h (by first | exact Nat.le_of_ble_eq_true rfl | omega | (simp only [lnS] <;> omega) | (simp <;> omega))) (by first | (simp only [packA_t, packA_f, iE, bE, setAt, cellsA, Value.cells, map_vc, map_vn, Nat.reduceAdd, qS, tE] <;> rfl) | rfl)) trivial rfl ?_
                                          refine ds_ro' (ro_move (u2 rfl s13_61)) trivial rfl ?_
                                          refine ds_ro' (ro_eq (ro_ix h13_sl43 (up_m rfl up_h) up_h (by first | decide | omega | (simp <;> omega)) (by first | (refine idx_map ?_; first | omega | (simp only [lnS]; omega)) | (refine idx_mapI ?_; first | omega | (simp only [lnS]; omega)) | (refine idx_mapN ?_; first | omega | (simp only [lnS]; omega)) | rfl)) (by first | (simp only [packA_t, packA_f, iE, bE, setAt, cellsA, Value.cells, map_vc, map_vn, Nat.reduceAdd, qS, tE] <;> rfl) | rfl)) trivial rfl ?_
                                          refine ds_ro' (ro_eq (ro_ld_ref h13_ty24 rfl up_h (by first | exact Nat.le_of_ble_eq_true rfl | omega | (simp only [lnS] <;> omega) | (simp <;> omega))) (by first | (simp only [packA_t, packA_f, iE, bE, setAt, cellsA, Value.cells, map_vc, map_vn, Nat.reduceAdd, qS, tE] <;> rfl) | rfl)) trivial rfl ?_
                                          refine ds_ro' (ro_eq (ro_ld_ptr h13_ty24 rfl mo1_45 (up_m rfl (u4 rfl s5_61)) (by first | exact Nat.le_of_ble_eq_true rfl | omega | (simp only [lnS] <;> omega) | (simp <;> omega))) (by first | (simp only [packA_t, packA_f, iE, bE, setAt, cellsA, Value.cells, map_vc, map_vn, Nat.reduceAdd, qS, tE] <;> rfl) | rfl)) trivial rfl ?_
                                          refine ds_ro' (ro_call (evL_cons (up_m rfl up_h) (evL_cons up_h evL_nil)) rfl (forceOf_ok ((moL z cs).getD i.toNat default) f (g4.mono (by omega)) (hfb.mono (by decide))) h13_hcf25) trivial rfl ?_
                                          refine ds_ro' (ro_move up_h) trivial rfl ?_
                                          refine ds_ro' (ro_extract up_h rfl) trivial rfl ?_
                                          refine ds_ro' (ro_extract (up_m rfl up_h) rfl) trivial rfl ?_
                                          refine ds_ro' (ro_assign (up_m rfl up_h)) trivial rfl ?_
                                          refine ds_ro' (ro_assign (up_m rfl up_h)) trivial rfl ?_
                                          refine ds_nil ?_
                                          refine al_end (fun e_62 he_62 => ?_)
                                          have s0_62 := ef 0 he_62 (u4 rfl (u8 rfl s0_61))
                                          have s1_62 := ef 1 he_62 (u4 rfl (u8 rfl s1_61))
                                          have s5_62 := ef 5 he_62 (u4 rfl (u8 rfl s5_61))
                                          have s7_62 := ef 7 he_62 (u4 rfl (u8 rfl s7_61))
                                          have s9_62 := ef 9 he_62 (u4 rfl (u8 rfl s9_61))
                                          have s11_62 := ef 11 he_62 (u4 rfl (u8 rfl s11_61))
                                          have s12_62 := ef 12 he_62 (u4 rfl (u8 rfl s12_61))
                                          have s13_62 := ef 13 he_62 (u4 rfl (u8 rfl s13_61))
                                          have s14_62 := ef 14 he_62 (u4 rfl (u8 rfl s14_61))
                                          have s18_62 := ef 18 he_62 (u4 rfl (u8 rfl s18_61))
                                          have s19_62 := ef 19 he_62 (u4 rfl (u8 rfl s19_61))
                                          have s20_62 := ef 20 he_62 (up_m rfl up_h)
                                          have s21_62 := ef 21 he_62 up_h
                                          clear he_62 s0_61 s11_61 s12_61 s13_61 s14_61 s18_61 s19_61 s1_61 s5_61 s7_61 s9_61
                                          refine then_n ?_
                                          refine aw_seq ?_
                                          refine aw_text (by kernel_rfl) ?_
                                          refine al_ro' (ro_move s11_62) trivial rfl ?_
                                          refine al_ro' (ro_move (up_m rfl s14_62)) trivial rfl ?_
                                          first | (refine al_ro' (ro_add' (up_m rfl up_h) up_h ?_) trivial rfl ?_; · (unfold In64; omega)) | refine al_ro' (ro_add (up_m rfl up_h) up_h) trivial rfl ?_
                                          refine al_ro' (ro_move (up_m rfl (u2 rfl s12_62))) trivial rfl ?_
                                          refine al_ro' (ro_move (u4 rfl s18_62)) trivial rfl ?_
                                          first | (refine al_ro' (ro_add' (up_m rfl up_h) up_h ?_) trivial rfl ?_; · (unfold In64; omega)) | refine al_ro' (ro_add (up_m rfl up_h) up_h) trivial rfl ?_
                                          refine al_ro' (ro_assign (up_m rfl (u2 rfl up_h))) trivial rfl ?_
                                          refine al_ro' (ro_assign (up_m rfl up_h)) trivial rfl ?_
                                          refine al_end (fun e_63 he_63 => ?_)
                                          have s0_63 := ef 0 he_63 (u8 rfl s0_62)
                                          have s1_63 := ef 1 he_63 (u8 rfl s1_62)
                                          have s5_63 := ef 5 he_63 (u8 rfl s5_62)
                                          have s7_63 := ef 7 he_63 (u8 rfl s7_62)
                                          have s9_63 := ef 9 he_63 (u8 rfl s9_62)
                                          have s11_63 := ef 11 he_63 (up_m rfl up_h)
                                          have s12_63 := ef 12 he_63 up_h
                                          have s13_63 := ef 13 he_63 (u8 rfl s13_62)
                                          have s19_63 := ef 19 he_63 (u8 rfl s19_62)
                                          have s20_63 := ef 20 he_63 (u8 rfl s20_62)
                                          have s21_63 := ef 21 he_63 (u8 rfl s21_62)
                                          clear he_63 s0_62 s11_62 s12_62 s13_62 s14_62 s18_62 s19_62 s1_62 s20_62 s21_62 s5_62 s7_62 s9_62
                                          refine then_n ?_
                                          refine aw_seq ?_
                                          refine aw_seq ?_
                                          refine aw_cut (fun e mem => (evA e (.tmp 187) = .v (.bool false)) ∧ (evA e (.tmp 0) = evA e_63 (.tmp 0)) ∧ (evA e (.tmp 1) = evA e_63 (.tmp 1)) ∧ (evA e (.tmp 5) = evA e_63 (.tmp 5)) ∧ (evA e (.tmp 7) = evA e_63 (.tmp 7)) ∧ (evA e (.tmp 9) = evA e_63 (.tmp 9)) ∧ (evA e (.tmp 11) = evA e_63 (.tmp 11)) ∧ (evA e (.tmp 12) = evA e_63 (.tmp 12)) ∧ (evA e (.tmp 13) = evA e_63 (.tmp 13)) ∧ (evA e (.tmp 20) = evA e_63 (.tmp 20)) ∧ m_45 = mem) ?_ ?_
                                          ·
                                            refine aw_text (by kernel_rfl) ?_
                                            refine al_ro' (ro_move s19_63) trivial rfl ?_
                                            refine al_ro' (ro_neq up_h ev_c) trivial rfl ?_
                                            refine al_ro' (ro_move up_h) trivial rfl ?_
                                            refine al_case up_h (fun hb_65 hq_65 => ?_) (fun hb_65 hq_65 => ?_)
                                            · (first | replace hq_65 := bnt hq_65 | replace hq_65 := bnf hq_65 | replace hq_65 := bt hq_65 | replace hq_65 := bf hq_65 | replace hq_65 := bt' hq_65 | replace hq_65 := bf' hq_65 | skip)
                                              first
                                              | (cases hq_65; done) | (exfalso; omega)
                                              | (
                                                 refine al_skip' ⟨_, rfl, .inl hb_65⟩ rfl ?_
                                                 refine al_skip' ⟨_, rfl, .inl (up_m rfl hb_65)⟩ rfl ?_
                                                 refine al_ro' (ro_pickT (u2 rfl hb_65) ev_c) trivial rfl ?_
                                                 refine al_ro' (ro_move up_h) trivial rfl ?_
                                                 refine al_skip' ⟨_, rfl, .inl up_h⟩ rfl ?_
                                                 refine al_skip' ⟨_, rfl, .inl (up_m rfl up_h)⟩ rfl ?_
                                                 refine al_skip' ⟨_, rfl, .inl (u2 rfl up_h)⟩ rfl ?_
                                                 refine al_skip' ⟨_, rfl, .inl (up_m rfl (u2 rfl up_h))⟩ rfl ?_
                                                 refine al_skip' ⟨_, rfl, .inl (u4 rfl up_h)⟩ rfl ?_
                                                 refine al_ro' (ro_pickT (up_m rfl (u4 rfl up_h)) ev_c) trivial rfl ?_
                                                 refine al_end (fun e_66 he_66 => ?_)
                                                 have s0_66 := ef 0 he_66 (up_m rfl (u4 rfl (u8 rfl s0_63)))
                                                 have s1_66 := ef 1 he_66 (up_m rfl (u4 rfl (u8 rfl s1_63)))
                                                 have s5_66 := ef 5 he_66 (up_m rfl (u4 rfl (u8 rfl s5_63)))
                                                 have s7_66 := ef 7 he_66 (up_m rfl (u4 rfl (u8 rfl s7_63)))
                                                 have s9_66 := ef 9 he_66 (up_m rfl (u4 rfl (u8 rfl s9_63)))
                                                 have s11_66 := ef 11 he_66 (up_m rfl (u4 rfl (u8 rfl s11_63)))
                                                 have s12_66 := ef 12 he_66 (up_m rfl (u4 rfl (u8 rfl s12_63)))
                                                 have s13_66 := ef 13 he_66 (up_m rfl (u4 rfl (u8 rfl s13_63)))
                                                 have s20_66 := ef 20 he_66 (up_m rfl (u4 rfl (u8 rfl s20_63)))
                                                 have s187_66 := ef 187 he_66 up_h
                                                 clear he_66
                                                 refine then_n ⟨(s187_66).trans (by (first | rfl | (refine avb ?_; simp [-List.getD_eq_getElem?_getD, -Int.default_eq_zero]; omega))), (s0_66).trans (s0_63).symm, (s1_66).trans (s1_63).symm, (s5_66).trans (s5_63).symm, (s7_66).trans (s7_63).symm, (s9_66).trans (s9_63).symm, (s11_66).trans (s11_63).symm, (s12_66).trans (s12_63).symm, (s13_66).trans (s13_63).symm, (s20_66).trans (s20_63).symm, rfl⟩)
                                            · (first | replace hq_65 := bnt hq_65 | replace hq_65 := bnf hq_65 | replace hq_65 := bt hq_65 | replace hq_65 := bf hq_65 | replace hq_65 := bt' hq_65 | replace hq_65 := bf' hq_65 | skip)
                                              first
                                              | (cases hq_65; done) | (exfalso; omega)
                                              | (
                                                 refine al_ro' (ro_move (up_m rfl (u2 rfl s21_63))) ⟨_, rfl, hb_65⟩ rfl ?_
                                                 refine al_ro' (ro_neq up_h ev_c) ⟨_, rfl, (up_m rfl hb_65)⟩ rfl ?_
                                                 refine al_ro' (ro_pickF (u2 rfl hb_65) up_h) trivial rfl ?_
                                                 refine al_ro' (ro_move up_h) trivial rfl ?_
                                                 refine al_case up_h (fun hb_67 hq_67 => ?_) (fun hb_67 hq_67 => ?_)
                                                 · (first | replace hq_67 := bnt hq_67 | replace hq_67 := bnf hq_67 | replace hq_67 := bt hq_67 | replace hq_67 := bf hq_67 | replace hq_67 := bt' hq_67 | replace hq_67 := bf' hq_67 | skip)
                                                   first
                                                   | (cases hq_67; done) | (exfalso; omega)
                                                   | (
                                                      refine al_skip' ⟨_, rfl, .inl hb_67⟩ rfl ?_
                                                      refine al_skip' ⟨_, rfl, .inl (up_m rfl hb_67)⟩ rfl ?_
                                                      refine al_skip' ⟨_, rfl, .inl (u2 rfl hb_67)⟩ rfl ?_
                                                      refine al_skip' ⟨_, rfl, .inl (up_m rfl (u2 rfl hb_67))⟩ rfl ?_
                                                      refine al_skip' ⟨_, rfl, .inl (u4 rfl hb_67)⟩ rfl ?_
                                                      refine al_ro' (ro_pickT (up_m rfl (u4 rfl hb_67)) ev_c) trivial rfl ?_
                                                      refine al_end (fun e_68 he_68 => ?_)
                                                      have s0_68 := ef 0 he_68 (up_m rfl (u4 rfl (u8 rfl s0_63)))
                                                      have s1_68 := ef 1 he_68 (up_m rfl (u4 rfl (u8 rfl s1_63)))
                                                      have s5_68 := ef 5 he_68 (up_m rfl (u4 rfl (u8 rfl s5_63)))
                                                      have s7_68 := ef 7 he_68 (up_m rfl (u4 rfl (u8 rfl s7_63)))
                                                      have s9_68 := ef 9 he_68 (up_m rfl (u4 rfl (u8 rfl s9_63)))
                                                      have s11_68 := ef 11 he_68 (up_m rfl (u4 rfl (u8 rfl s11_63)))
                                                      have s12_68 := ef 12 he_68 (up_m rfl (u4 rfl (u8 rfl s12_63)))
                                                      have s13_68 := ef 13 he_68 (up_m rfl (u4 rfl (u8 rfl s13_63)))
                                                      have s20_68 := ef 20 he_68 (up_m rfl (u4 rfl (u8 rfl s20_63)))
                                                      have s187_68 := ef 187 he_68 up_h
                                                      clear he_68
                                                      refine then_n ⟨(s187_68).trans (by (first | rfl | (refine avb ?_; simp [-List.getD_eq_getElem?_getD, -Int.default_eq_zero]; omega))), (s0_68).trans (s0_63).symm, (s1_68).trans (s1_63).symm, (s5_68).trans (s5_63).symm, (s7_68).trans (s7_63).symm, (s9_68).trans (s9_63).symm, (s11_68).trans (s11_63).symm, (s12_68).trans (s12_63).symm, (s13_68).trans (s13_63).symm, (s20_68).trans (s20_63).symm, rfl⟩)
                                                 · (first | replace hq_67 := bnt hq_67 | replace hq_67 := bnf hq_67 | replace hq_67 := bt hq_67 | replace hq_67 := bf hq_67 | replace hq_67 := bt' hq_67 | replace hq_67 := bf' hq_67 | skip)
                                                   first
                                                   | (cases hq_67; done) | (exfalso; omega)
                                                   | (
                                                      refine al_ro' (ro_move (up_m rfl (u2 rfl (u4 rfl s11_63)))) ⟨_, rfl, hb_67⟩ rfl ?_
                                                      refine al_ro' (ro_move (u8 rfl s12_63)) ⟨_, rfl, (up_m rfl hb_67)⟩ rfl ?_
                                                      refine al_ro' (ro_move (up_m rfl (u8 rfl s20_63))) ⟨_, rfl, (u2 rfl hb_67)⟩ rfl ?_
                                                      first | (refine al_ro' (ro_add' (up_m rfl up_h) up_h ?_) ⟨_, rfl, (up_m rfl (u2 rfl hb_67))⟩ rfl ?_; · (unfold In64; omega)) | refine al_ro' (ro_add (up_m rfl up_h) up_h) ⟨_, rfl, (up_m rfl (u2 rfl hb_67))⟩ rfl ?_
                                                      refine al_ro' (ro_neq (up_m rfl (u2 rfl up_h)) up_h) ⟨_, rfl, (u4 rfl hb_67)⟩ rfl ?_
                                                      refine al_ro' (ro_pickF (up_m rfl (u4 rfl hb_67)) up_h) trivial rfl ?_
                                                      refine al_end (fun e_69 he_69 => ?_)
                                                      have s0_69 := ef 0 he_69 (up_m rfl (u4 rfl (u8 rfl s0_63)))
                                                      have s1_69 := ef 1 he_69 (up_m rfl (u4 rfl (u8 rfl s1_63)))
                                                      have s5_69 := ef 5 he_69 (up_m rfl (u4 rfl (u8 rfl s5_63)))
                                                      have s7_69 := ef 7 he_69 (up_m rfl (u4 rfl (u8 rfl s7_63)))
                                                      have s9_69 := ef 9 he_69 (up_m rfl (u4 rfl (u8 rfl s9_63)))
                                                      have s11_69 := ef 11 he_69 (up_m rfl (u4 rfl (u8 rfl s11_63)))
                                                      have s12_69 := ef 12 he_69 (up_m rfl (u4 rfl (u8 rfl s12_63)))
                                                      have s13_69 := ef 13 he_69 (up_m rfl (u4 rfl (u8 rfl s13_63)))
                                                      have s20_69 := ef 20 he_69 (up_m rfl (u4 rfl (u8 rfl s20_63)))
                                                      have s187_69 := ef 187 he_69 up_h
                                                      clear he_69
                                                      refine then_n ⟨(s187_69).trans (by (first | rfl | (refine avb ?_; simp [-List.getD_eq_getElem?_getD, -Int.default_eq_zero]; omega))), (s0_69).trans (s0_63).symm, (s1_69).trans (s1_63).symm, (s5_69).trans (s5_63).symm, (s7_69).trans (s7_63).symm, (s9_69).trans (s9_63).symm, (s11_69).trans (s11_63).symm, (s12_69).trans (s12_63).symm, (s13_69).trans (s13_63).symm, (s20_69).trans (s20_63).symm, rfl⟩))
                                          · rintro e_64 _ ⟨s187_64, k0_64, k1_64, k5_64, k7_64, k9_64, k11_64, k12_64, k13_64, k20_64, rfl⟩
                                            have s0_64 := k0_64.trans s0_63
                                            have s1_64 := k1_64.trans s1_63
                                            have s5_64 := k5_64.trans s5_63
                                            have s7_64 := k7_64.trans s7_63
                                            have s9_64 := k9_64.trans s9_63
                                            have s11_64 := k11_64.trans s11_63
                                            have s12_64 := k12_64.trans s12_63
                                            have s13_64 := k13_64.trans s13_63
                                            have s20_64 := k20_64.trans s20_63
                                            refine aw_case s187_64 (fun hq_70 => ?_) (fun hq_70 => ?_)
                                            · (first | replace hq_70 := bnt hq_70 | replace hq_70 := bnf hq_70 | replace hq_70 := bt hq_70 | replace hq_70 := bf hq_70 | replace hq_70 := bt' hq_70 | replace hq_70 := bf' hq_70 | skip)
                                              first
                                              | (cases hq_70; done) | (exfalso; omega)
                                              | (
                                                 refine aw_seq ?_
                                                 refine aw_text (by kernel_rfl) ?_
                                                 refine al_ro' (ro_assign ev_c) trivial rfl ?_
                                                 refine al_end (fun e_71 he_71 => ?_)
                                                 have s6_71 := ef 6 he_71 up_h
                                                 clear he_71 s0_64 s11_64 s12_64 s13_64 s187_64 s1_64 s20_64 s5_64 s7_64 s9_64
                                                 refine then_n ?_
                                                 refine aw_ret ?_
                                                 refine then_r ?_
                                                 refine block_r ?_
                                                 refine then_r ?_
                                                 refine then_r ?_
                                                 refine block_r ?_
                                                 refine then_r ?_
                                                 refine ret1 (.inr rfl) (by kernel_rfl) (resV_tmp s6_71) (.ro _ rfl) ?_
                                                 clear s6_71 mon_40_45 mo2_45 mo1_45 mo0_45 ml_45
                                                 rfl)
                                            · (first | replace hq_70 := bnt hq_70 | replace hq_70 := bnf hq_70 | replace hq_70 := bt hq_70 | replace hq_70 := bf hq_70 | replace hq_70 := bt' hq_70 | replace hq_70 := bf' hq_70 | skip)
                                              first
                                              | (cases hq_70; done) | (exfalso; omega)
                                              | (
                                                 refine aw_skip ?_
                                                 refine then_n ?_
                                                 refine aw_seq ?_
                                                 refine aw_cut (fun e mem => (evA e (.tmp 202) = .v (.bool false)) ∧ (evA e (.tmp 0) = evA e_64 (.tmp 0)) ∧ (evA e (.tmp 1) = evA e_64 (.tmp 1)) ∧ (evA e (.tmp 5) = evA e_64 (.tmp 5)) ∧ (evA e (.tmp 7) = evA e_64 (.tmp 7)) ∧ (evA e (.tmp 9) = evA e_64 (.tmp 9)) ∧ (evA e (.tmp 11) = evA e_64 (.tmp 11)) ∧ (evA e (.tmp 12) = evA e_64 (.tmp 12)) ∧ (evA e (.tmp 13) = evA e_64 (.tmp 13)) ∧ m_45 = mem) ?_ ?_
                                                 ·
                                                   refine aw_text (by kernel_rfl) ?_
                                                   refine al_ro' (ro_move s7_64) trivial rfl ?_
                                                   refine al_ro' (ro_move up_h) trivial rfl ?_
                                                   refine al_case up_h (fun hb_73 hq_73 => ?_) (fun hb_73 hq_73 => ?_)
                                                   · (first | replace hq_73 := bnt hq_73 | replace hq_73 := bnf hq_73 | replace hq_73 := bt hq_73 | replace hq_73 := bf hq_73 | replace hq_73 := bt' hq_73 | replace hq_73 := bf' hq_73 | skip)
                                                     first
                                                     | (cases hq_73; done) | (exfalso; omega)
                                                     | (
                                                        refine al_ro' (ro_move (u2 rfl s20_64)) ⟨_, rfl, hb_73⟩ rfl ?_
                                                        first | (refine al_ro' (ro_mul' ev_c up_h ?_) ⟨_, rfl, (up_m rfl hb_73)⟩ rfl ?_; · (unfold In64; omega)) | refine al_ro' (ro_mul ev_c up_h) ⟨_, rfl, (up_m rfl hb_73)⟩ rfl ?_
                                                        refine al_ro' (ro_move (u4 rfl s20_64)) ⟨_, rfl, (u2 rfl hb_73)⟩ rfl ?_
                                                        first | (refine al_ro' (ro_mul' (up_m rfl up_h) up_h ?_) ⟨_, rfl, (up_m rfl (u2 rfl hb_73))⟩ rfl ?_; · (unfold In64; omega)) | refine al_ro' (ro_mul (up_m rfl up_h) up_h) ⟨_, rfl, (up_m rfl (u2 rfl hb_73))⟩ rfl ?_
                                                        refine al_ro' (ro_move (u2 rfl (u4 rfl s0_64))) ⟨_, rfl, (u4 rfl hb_73)⟩ rfl ?_
                                                        first | (refine al_ro' (ro_mul' ev_c up_h ?_) ⟨_, rfl, (up_m rfl (u4 rfl hb_73))⟩ rfl ?_; · (unfold In64; omega)) | refine al_ro' (ro_mul ev_c up_h) ⟨_, rfl, (up_m rfl (u4 rfl hb_73))⟩ rfl ?_
                                                        refine al_ro' (ro_move (u8 rfl s0_64)) ⟨_, rfl, (u2 rfl (u4 rfl hb_73))⟩ rfl ?_
                                                        first | (refine al_ro' (ro_mul' (up_m rfl up_h) up_h ?_) ⟨_, rfl, (up_m rfl (u2 rfl (u4 rfl hb_73)))⟩ rfl ?_; · (unfold In64; omega)) | refine al_ro' (ro_mul (up_m rfl up_h) up_h) ⟨_, rfl, (up_m rfl (u2 rfl (u4 rfl hb_73)))⟩ rfl ?_
                                                        refine al_ro' (ro_eq (ro_ld_ptr h13_ty24 rfl mo1_45 (u2 rfl (u8 rfl s5_64)) (by first | exact Nat.le_of_ble_eq_true rfl | omega | (simp only [lnS] <;> omega) | (simp <;> omega))) (by first | (simp only [packA_t, packA_f, iE, bE, setAt, cellsA, Value.cells, map_vc, map_vn, Nat.reduceAdd, qS, tE] <;> rfl) | rfl)) ⟨_, rfl, (u8 rfl hb_73)⟩ rfl ?_
                                                        refine al_ro' (ro_call (evL_cons up_h evL_nil) rfl (tNorm_ok f (hfb.mono (by decide))) h13_hcf19) ⟨_, rfl, (up_m rfl (u8 rfl hb_73))⟩ rfl ?_
                                                        first | (refine al_ro' (ro_mul' (u2 rfl up_h) up_h ?_) ⟨_, rfl, (u2 rfl (u8 rfl hb_73))⟩ rfl ?_; · (unfold In64; omega)) | refine al_ro' (ro_mul (u2 rfl up_h) up_h) ⟨_, rfl, (u2 rfl (u8 rfl hb_73))⟩ rfl ?_
                                                        refine al_ro' (ro_gtr (up_m rfl (u2 rfl (u4 rfl up_h))) up_h) ⟨_, rfl, (up_m rfl (u2 rfl (u8 rfl hb_73)))⟩ rfl ?_
                                                        refine al_ro' (ro_pickT (u4 rfl (u8 rfl hb_73)) up_h) trivial rfl ?_
                                                        refine al_end (fun e_74 he_74 => ?_)
                                                        have s0_74 := ef 0 he_74 (up_m rfl (u2 rfl (u4 rfl (u8 rfl s0_64))))
                                                        have s1_74 := ef 1 he_74 (up_m rfl (u2 rfl (u4 rfl (u8 rfl s1_64))))
                                                        have s5_74 := ef 5 he_74 (up_m rfl (u2 rfl (u4 rfl (u8 rfl s5_64))))
                                                        have s7_74 := ef 7 he_74 (up_m rfl (u2 rfl (u4 rfl (u8 rfl s7_64))))
                                                        have s9_74 := ef 9 he_74 (up_m rfl (u2 rfl (u4 rfl (u8 rfl s9_64))))
                                                        have s11_74 := ef 11 he_74 (up_m rfl (u2 rfl (u4 rfl (u8 rfl s11_64))))
                                                        have s12_74 := ef 12 he_74 (up_m rfl (u2 rfl (u4 rfl (u8 rfl s12_64))))
                                                        have s13_74 := ef 13 he_74 (up_m rfl (u2 rfl (u4 rfl (u8 rfl s13_64))))
                                                        have s202_74 := ef 202 he_74 up_h
                                                        clear he_74
                                                        refine then_n ⟨(s202_74).trans (by (first | rfl | (refine avb ?_; simp_all [-List.getD_eq_getElem?_getD, -Int.default_eq_zero] <;> omega))), (s0_74).trans (s0_64).symm, (s1_74).trans (s1_64).symm, (s5_74).trans (s5_64).symm, (s7_74).trans (s7_64).symm, (s9_74).trans (s9_64).symm, (s11_74).trans (s11_64).symm, (s12_74).trans (s12_64).symm, (s13_74).trans (s13_64).symm, rfl⟩)
                                                   · (first | replace hq_73 := bnt hq_73 | replace hq_73 := bnf hq_73 | replace hq_73 := bt hq_73 | replace hq_73 := bf hq_73 | replace hq_73 := bt' hq_73 | replace hq_73 := bf' hq_73 | skip)
                                                     first
                                                     | (cases hq_73; done) | (exfalso; omega)
                                                     | (
                                                        refine al_skip' ⟨_, rfl, .inl hb_73⟩ rfl ?_
                                                        refine al_skip' ⟨_, rfl, .inl (up_m rfl hb_73)⟩ rfl ?_
                                                        refine al_skip' ⟨_, rfl, .inl (u2 rfl hb_73)⟩ rfl ?_
                                                        refine al_skip' ⟨_, rfl, .inl (up_m rfl (u2 rfl hb_73))⟩ rfl ?_
                                                        refine al_skip' ⟨_, rfl, .inl (u4 rfl hb_73)⟩ rfl ?_
                                                        refine al_skip' ⟨_, rfl, .inl (up_m rfl (u4 rfl hb_73))⟩ rfl ?_
                                                        refine al_skip' ⟨_, rfl, .inl (u2 rfl (u4 rfl hb_73))⟩ rfl ?_
                                                        refine al_skip' ⟨_, rfl, .inl (up_m rfl (u2 rfl (u4 rfl hb_73)))⟩ rfl ?_
                                                        refine al_skip' ⟨_, rfl, .inl (u8 rfl hb_73)⟩ rfl ?_
                                                        refine al_skip' ⟨_, rfl, .inl (up_m rfl (u8 rfl hb_73))⟩ rfl ?_
                                                        refine al_skip' ⟨_, rfl, .inl (u2 rfl (u8 rfl hb_73))⟩ rfl ?_
                                                        refine al_skip' ⟨_, rfl, .inl (up_m rfl (u2 rfl (u8 rfl hb_73)))⟩ rfl ?_
                                                        refine al_ro' (ro_pickF (u4 rfl (u8 rfl hb_73)) ev_c) trivial rfl ?_
                                                        refine al_end (fun e_75 he_75 => ?_)
                                                        have s0_75 := ef 0 he_75 (up_m rfl (u2 rfl (u4 rfl (u8 rfl s0_64))))
                                                        have s1_75 := ef 1 he_75 (up_m rfl (u2 rfl (u4 rfl (u8 rfl s1_64))))
                                                        have s5_75 := ef 5 he_75 (up_m rfl (u2 rfl (u4 rfl (u8 rfl s5_64))))
                                                        have s7_75 := ef 7 he_75 (up_m rfl (u2 rfl (u4 rfl (u8 rfl s7_64))))
                                                        have s9_75 := ef 9 he_75 (up_m rfl (u2 rfl (u4 rfl (u8 rfl s9_64))))
                                                        have s11_75 := ef 11 he_75 (up_m rfl (u2 rfl (u4 rfl (u8 rfl s11_64))))
                                                        have s12_75 := ef 12 he_75 (up_m rfl (u2 rfl (u4 rfl (u8 rfl s12_64))))
                                                        have s13_75 := ef 13 he_75 (up_m rfl (u2 rfl (u4 rfl (u8 rfl s13_64))))
                                                        have s202_75 := ef 202 he_75 up_h
                                                        clear he_75
                                                        refine then_n ⟨(s202_75).trans (by (first | rfl | (refine avb ?_; simp_all [-List.getD_eq_getElem?_getD, -Int.default_eq_zero] <;> omega))), (s0_75).trans (s0_64).symm, (s1_75).trans (s1_64).symm, (s5_75).trans (s5_64).symm, (s7_75).trans (s7_64).symm, (s9_75).trans (s9_64).symm, (s11_75).trans (s11_64).symm, (s12_75).trans (s12_64).symm, (s13_75).trans (s13_64).symm, rfl⟩)
                                                 · rintro e_72 _ ⟨s202_72, k0_72, k1_72, k5_72, k7_72, k9_72, k11_72, k12_72, k13_72, rfl⟩
                                                   have s0_72 := k0_72.trans s0_64
                                                   have s1_72 := k1_72.trans s1_64
                                                   have s5_72 := k5_72.trans s5_64
                                                   have s7_72 := k7_72.trans s7_64
                                                   have s9_72 := k9_72.trans s9_64
                                                   have s11_72 := k11_72.trans s11_64
                                                   have s12_72 := k12_72.trans s12_64
                                                   have s13_72 := k13_72.trans s13_64
                                                   refine aw_case s202_72 (fun hq_76 => ?_) (fun hq_76 => ?_)
                                                   · (first | replace hq_76 := bnt hq_76 | replace hq_76 := bnf hq_76 | replace hq_76 := bt hq_76 | replace hq_76 := bf hq_76 | replace hq_76 := bt' hq_76 | replace hq_76 := bf' hq_76 | skip)
                                                     first
                                                     | (cases hq_76; done) | (exfalso; omega)
                                                     | (
                                                        refine aw_seq ?_
                                                        refine aw_text (by kernel_rfl) ?_
                                                        refine al_ro' (ro_assign ev_c) trivial rfl ?_
                                                        refine al_end (fun e_77 he_77 => ?_)
                                                        have s6_77 := ef 6 he_77 up_h
                                                        clear he_77 s0_72 s11_72 s12_72 s13_72 s1_72 s202_72 s5_72 s7_72 s9_72
                                                        refine then_n ?_
                                                        refine aw_ret ?_
                                                        refine block_r ?_
                                                        refine then_r ?_
                                                        refine then_r ?_
                                                        refine block_r ?_
                                                        refine then_r ?_
                                                        refine ret1 (.inr rfl) (by kernel_rfl) (resV_tmp s6_77) (.ro _ rfl) ?_
                                                        clear s6_77 mon_40_45 mo2_45 mo1_45 mo0_45 ml_45
                                                        rfl)
                                                   · (first | replace hq_76 := bnt hq_76 | replace hq_76 := bnf hq_76 | replace hq_76 := bt hq_76 | replace hq_76 := bf hq_76 | replace hq_76 := bt' hq_76 | replace hq_76 := bf' hq_76 | skip)
                                                     first
                                                     | (cases hq_76; done) | (exfalso; omega)
                                                     | (
                                                        refine aw_skip ?_
                                                        refine block_n ?_
                                                        refine then_n ?_
                                                        refine aw_text (by kernel_rfl) ?_
                                                        refine al_ro' (ro_move s13_72) trivial rfl ?_
                                                        first | (refine al_ro' (ro_add' up_h ev_c ?_) trivial rfl ?_; · (unfold In64; omega)) | refine al_ro' (ro_add up_h ev_c) trivial rfl ?_
                                                        refine al_ro' (ro_assign up_h) trivial rfl ?_
                                                        refine al_end (fun e_78 he_78 => ?_)
                                                        have s0_78 := ef 0 he_78 (up_m rfl (u2 rfl s0_72))
                                                        have s1_78 := ef 1 he_78 (up_m rfl (u2 rfl s1_72))
                                                        have s5_78 := ef 5 he_78 (up_m rfl (u2 rfl s5_72))
                                                        have s7_78 := ef 7 he_78 (up_m rfl (u2 rfl s7_72))
                                                        have s9_78 := ef 9 he_78 (up_m rfl (u2 rfl s9_72))
                                                        have s11_78 := ef 11 he_78 (up_m rfl (u2 rfl s11_72))
                                                        have s12_78 := ef 12 he_78 (up_m rfl (u2 rfl s12_72))
                                                        have s13_78 := ef 13 he_78 up_h
                                                        clear he_78 s0_72 s11_72 s12_72 s13_72 s1_72 s202_72 s5_72 s7_72 s9_72
                                                        refine then_n ?_
                                                        refine ⟨⟨_, _, _⟩, ⟨s13_78, s11_78, s12_78, (s0_78.trans s0_39.symm), (s1_78.trans s1_39.symm), (s5_78.trans s5_39.symm), (s7_78.trans s7_39.symm), (s9_78.trans s9_39.symm), (mo2_45.trans mo2_28.symm), (mo1_45.trans mo1_28.symm), (mo0_45.trans mo0_28.symm), ⟨_, ml_45, by omega⟩, ?_⟩, ?_⟩
                                                        · (refine ⟨by omega, by omega, ?_, by omega, by omega⟩; rw [show lfP z cs (i + 1).toNat = (moL z cs).getD i.toNat default by rw [show (i + 1).toNat = i.toNat + 1 by omega]; unfold lfP; rw [if_neg (by omega)]; rfl]; omega)
                                                        · ((try dsimp only); omega)))))
                              · (first | replace hq_42 := bnt hq_42 | replace hq_42 := bnf hq_42 | replace hq_42 := bt hq_42 | replace hq_42 := bf hq_42 | replace hq_42 := bt' hq_42 | replace hq_42 := bf' hq_42 | skip)
                                first
                                | (cases hq_42; done) | (exfalso; omega)
                                | (
                                   refine aw_exit ?_
                                   refine then_x ?_
                                   refine then_x ?_
                                   refine block_hit ?_
                                   refine then_n ?_
                                   refine aw_seq ?_
                                   refine aw_text (by kernel_rfl) ?_
                                   refine al_ro' (ro_assign ev_c) trivial rfl ?_
                                   refine al_end (fun e_79 he_79 => ?_)
                                   have s6_79 := ef 6 he_79 up_h
                                   clear he_79 s0_41 s11_41 s12_41 s13_41 s1_41 s5_41 s7_41 s86_41 s9_41
                                   refine then_n ?_
                                   refine aw_ret ?_
                                   refine ret1 (.inr rfl) (by kernel_rfl) (resV_tmp s6_79) (.ro _ rfl) ?_
                                   clear s6_79 mo2_40 mo1_40 mo0_40 ml_40
                                   rfl)))))
end Go.Proofs.YtgiiedpambimoaaDoor
