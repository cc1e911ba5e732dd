/- The law of chapter 3: no more force than both permit. The variables of the package hold what the text lays. -/
import Derived.Test.YtnblahgocddpbaaDoorM5
namespace Go.Proofs.YtnblahgocddpbaaDoor
open Go Go.RowKit Go.Proofs
set_option linter.unusedSimpArgs false
set_option linter.unusedVariables false
theorem h17_az49 : (Tryd.prog.info? 49).bind (·.zero) = some (.agg #[.int .i64 0, .int .i64 0]) := by kernel_rfl
theorem h17_fl49_0 : FldIs Tryd.prog 49 0 0 false 1 := by unfold FldIs; kernel_rfl
theorem h17_fl49_1 : FldIs Tryd.prog 49 1 1 false 1 := by unfold FldIs; kernel_rfl
theorem h17_hcf14 : ∀ args w, (callFunc 14 args).run Tryd.prog w = .ok (.enter 14 args) w := fun _ _ => by kernel_rfl
theorem h17_hcf15 : ∀ args w, (callFunc 15 args).run Tryd.prog w = .ok (.enter 15 args) w := fun _ _ => by kernel_rfl
theorem h17_hcf16 : ∀ args w, (callFunc 16 args).run Tryd.prog w = .ok (.enter 16 args) w := fun _ _ => by kernel_rfl
theorem h17_sl39 : SlIs Tryd.prog 39 23 2 16 (.agg #[.int .i64 0, .int .i64 0]) := ⟨by kernel_rfl, by kernel_rfl, by kernel_rfl⟩
theorem h17_sz49 : (Tryd.prog.info? 49).map (·.size) = some 2 := by kernel_rfl
theorem h17_ty23 : TyIs Tryd.prog 23 true 2 := ⟨by kernel_rfl, by kernel_rfl⟩
theorem h17_ty3 : TyIs Tryd.prog 3 false 1 := ⟨by kernel_rfl, by kernel_rfl⟩

def awayV (x : V2) : Int := sizeW (2 * x.1 - x.2)
def marV (x : V2) : Int := if x.2 ≤ 0 ∨ 3 * x.2 < awayV x then 0 else if awayV x ≤ x.2 then 2 else 1
theorem prodV_bd2 {u v : V2} (hu : Bd 100000 u) (hv : Bd 100000 v) : Bd 60000000000 (prodV u v) := by
  have h1 := (conj_bd hv)
  have m0 := mulBd hu.1 h1.1
  have m1 := mulBd hu.1 h1.2
  have m2 := mulBd hu.2 h1.1
  have m3 := mulBd hu.2 h1.2
  simp only [prodV, mulV, Bd]
  omega
set_option maxRecDepth 100000 in
set_option maxHeartbeats 1000000 in
theorem marginOf_ok (u v : V2) (hu : Bd 100000 u) (hv : Bd 100000 v) : FnOk Tryd.prog 7 [tA u, tA v] (fun q => q = .tuple [nA (marV (prodV u v)), nA 0]) := by
  have hr : rightE [u, v] = 0 := bd_right (by simp; exact ⟨hu, hv⟩)
  obtain ⟨⟨b1, b2⟩, b3, b4⟩ := prodV_bd2 hu hv
  refine fnOk_of (fn := Tryd.f7) 42 (by kernel_rfl) rfl (by kernel_rfl) (Nat.le_of_ble_eq_true rfl) ?_
  intro e_0 m_0 hA hm_0
  have s0_0 : evA e_0 (.tmp 0) = _ := hA 0 _ rfl
  have s1_0 : evA e_0 (.tmp 1) = _ := hA 1 _ rfl
  have ml_0 : m_0.length = 0 := by rw [hm_0]; rfl
  clear hA hm_0
  refine aw_seq ?_
  refine aw_text (by kernel_rfl) ?_
  refine al_stm (st_box s0_0 rfl ml_0) trivial rfl (fun m_1 hm_1 => ?_)
  have mo0_1 := m_push hm_1 ml_0
  (try simp only [packA_t, packA_f, iE, bE, setAt, cellsA, Value.cells, map_vc, map_vn, Nat.reduceAdd, qS, tE] at mo0_1)
  have ml_1 := m_push_l hm_1 ml_0
  have ml_1 : _ = 1 := ml_1
  clear hm_1
  refine al_stm (st_box (up_m rfl s1_0) rfl ml_1) trivial rfl (fun m_2 hm_2 => ?_)
  have mo1_2 := m_push hm_2 ml_1
  (try simp only [packA_t, packA_f, iE, bE, setAt, cellsA, Value.cells, map_vc, map_vn, Nat.reduceAdd, qS, tE] at mo1_2)
  have mo0_2 := m_push_o hm_2 mo0_1
  have ml_2 := m_push_l hm_2 ml_1
  have ml_2 : _ = 2 := ml_2
  clear hm_2 mo0_1
  refine al_ro' (ro_assign ev_c) trivial rfl ?_
  refine al_ro' (ro_assign ev_c) trivial rfl ?_
  refine al_end (fun e_3 he_3 => ?_)
  have s2_3 := ef 2 he_3 (up_m rfl (u2 rfl up_h))
  have s3_3 := ef 3 he_3 (u2 rfl up_h)
  clear he_3 s0_0 s1_0
  refine then_n ?_
  refine aw_seq ?_
  refine aw_seq ?_
  refine aw_text (by kernel_rfl) ?_
  refine al_ro' (ro_eq (ro_ld_ptr h17_ty23 rfl mo0_2 s2_3 (by first | exact Nat.le_of_ble_eq_true rfl | omega | (simp only [lnS] <;> omega) | (simp <;> omega))) (by first | (simp only [packA_t, packA_f, iE, bE, setAt, cellsA, Value.cells, map_vc, map_vn, Nat.reduceAdd, qS, tE] <;> rfl) | rfl)) trivial rfl ?_
  refine al_ro' (ro_eq (ro_ld_ptr h17_ty23 rfl mo1_2 (up_m rfl s3_3) (by first | exact Nat.le_of_ble_eq_true rfl | omega | (simp only [lnS] <;> omega) | (simp <;> omega))) (by first | (simp only [packA_t, packA_f, iE, bE, setAt, cellsA, Value.cells, map_vc, map_vn, Nat.reduceAdd, qS, tE] <;> rfl) | rfl)) trivial rfl ?_
  refine al_ro' (ro_lit h17_sl39 (evP_cons (up_m rfl up_h) (evP_cons up_h evP_nil)) rfl rfl rfl rfl) trivial rfl ?_
  refine al_ro' (ro_call (evL_cons up_h evL_nil) rfl ((right_ok [u, v] (by simp)).mono (fun q h => h.trans (by rw [hr]))) h17_hcf14) trivial rfl ?_
  refine al_ro' (ro_assign up_h) trivial rfl ?_
  refine al_end (fun e_4 he_4 => ?_)
  have s2_4 := ef 2 he_4 (up_m rfl (u4 rfl s2_3))
  have s3_4 := ef 3 he_4 (up_m rfl (u4 rfl s3_3))
  have s6_4 := ef 6 he_4 up_h
  clear he_4 s2_3 s3_3
  refine then_n ?_
  refine aw_seq ?_
  refine aw_text (by kernel_rfl) ?_
  refine al_ro' (ro_move s6_4) trivial rfl ?_
  refine al_ro' (ro_neq up_h ev_c) trivial rfl ?_
  refine al_end (fun e_5 he_5 => ?_)
  have s2_5 := ef 2 he_5 (u2 rfl s2_4)
  have s3_5 := ef 3 he_5 (u2 rfl s3_4)
  have s6_5 := ef 6 he_5 (u2 rfl s6_4)
  have s14_5 := ef 14 he_5 up_h
  clear he_5 s2_4 s3_4 s6_4
  refine then_n ?_
  refine aw_case s14_5 (fun hq_6 => ?_) (fun hq_6 => ?_)
  · (first | replace hq_6 := bnt hq_6 | replace hq_6 := bnf hq_6 | replace hq_6 := bt hq_6 | replace hq_6 := bf hq_6 | replace hq_6 := bt' hq_6 | replace hq_6 := bf' hq_6 | skip)
    first
    | (cases hq_6; done) | (exfalso; omega)
    | (
       refine aw_seq ?_
       refine aw_text (by kernel_rfl) ?_
       refine al_ro' (ro_move s6_5) trivial rfl ?_
       refine al_ro' (ro_assign ev_c) trivial rfl ?_
       refine al_ro' (ro_assign (up_m rfl up_h)) trivial rfl ?_
       refine al_end (fun e_7 he_7 => ?_)
       have s4_7 := ef 4 he_7 (up_m rfl up_h)
       have s5_7 := ef 5 he_7 up_h
       clear he_7 s14_5 s2_5 s3_5 s6_5
       refine then_n ?_
       refine aw_ret ?_
       refine then_r ?_
       refine ret2 (.inr rfl) (by kernel_rfl) (resV_tmp s4_7) (resV_tmp s5_7) (.ro _ rfl) (.ro _ rfl) ?_
       clear s4_7 s5_7 mo1_2 mo0_2 ml_2
       (unfold marV awayV; first | (rw [if_pos (by omega)]; done) | (rw [if_neg (by omega), if_pos (by omega)]; done) | (rw [if_neg (by omega), if_neg (by omega)]; done)))
  · (first | replace hq_6 := bnt hq_6 | replace hq_6 := bnf hq_6 | replace hq_6 := bt hq_6 | replace hq_6 := bf hq_6 | replace hq_6 := bt' hq_6 | replace hq_6 := bf' hq_6 | skip)
    first
    | (cases hq_6; done) | (exfalso; omega)
    | (
       refine aw_skip ?_
       refine then_n ?_
       refine aw_seq ?_
       refine aw_text (by kernel_rfl) ?_
       refine al_ro' (ro_eq (ro_ld_ptr h17_ty23 rfl mo0_2 s2_5 (by first | exact Nat.le_of_ble_eq_true rfl | omega | (simp only [lnS] <;> omega) | (simp <;> omega))) (by first | (simp only [packA_t, packA_f, iE, bE, setAt, cellsA, Value.cells, map_vc, map_vn, Nat.reduceAdd, qS, tE] <;> rfl) | rfl)) trivial rfl ?_
       refine al_ro' (ro_eq (ro_ld_ptr h17_ty23 rfl mo1_2 (up_m rfl s3_5) (by first | exact Nat.le_of_ble_eq_true rfl | omega | (simp only [lnS] <;> omega) | (simp <;> omega))) (by first | (simp only [packA_t, packA_f, iE, bE, setAt, cellsA, Value.cells, map_vc, map_vn, Nat.reduceAdd, qS, tE] <;> rfl) | rfl)) trivial rfl ?_
       refine al_ro' (ro_call (evL_cons (up_m rfl up_h) (evL_cons up_h evL_nil)) rfl (product_ok u v (hu.mono (by decide)) (hv.mono (by decide))) h17_hcf15) trivial rfl ?_
       refine al_stm (st_alloc h17_az49 rfl ml_2) trivial rfl (fun m_8 hm_8 => ?_)
       have mo2_8 := m_push hm_8 ml_2
       (try simp only [packA_t, packA_f, iE, bE, setAt, cellsA, Value.cells, map_vc, map_vn, Nat.reduceAdd, qS, tE] at mo2_8)
       have mo1_8 := m_push_o hm_8 mo1_2
       have mo0_8 := m_push_o hm_8 mo0_2
       have ml_8 := m_push_l hm_8 ml_2
       have ml_8 : _ = 3 := ml_8
       clear hm_8 mo1_2 mo0_2
       refine al_stm (st_store up_h (up_m rfl up_h) rfl rfl mo2_8 h17_sz49 rfl (by first | exact Nat.le_of_ble_eq_true rfl | omega | (simp only [lnS] <;> omega) | (simp <;> omega))) trivial rfl (fun m_9 hm_9 => ?_)
       have mo2_9 := m_set hm_9 mo2_8
       (try simp only [packA_t, packA_f, iE, bE, setAt, cellsA, Value.cells, map_vc, map_vn, Nat.reduceAdd, qS, tE] at mo2_9)
       have mo1_9 := m_set_o hm_9 mo1_8 (by decide)
       have mo0_9 := m_set_o hm_9 mo0_8 (by decide)
       have ml_9 := m_set_l hm_9 ml_8
       clear hm_9 mo2_8 mo1_8 mo0_8
       refine al_end (fun e_10 he_10 => ?_)
       have s7_10 := ef 7 he_10 (up_n up_h)
       clear he_10 s14_5 s2_5 s3_5 s6_5
       refine then_n ?_
       refine aw_seq ?_
       refine aw_text (by kernel_rfl) ?_
       refine al_ro' (ro_fld_ptr h17_fl49_0 rfl s7_10) trivial rfl ?_
       refine al_ro' (ro_eq (ro_ld_ptr h17_ty3 rfl mo2_9 up_h (by first | exact Nat.le_of_ble_eq_true rfl | omega | (simp only [lnS] <;> omega) | (simp <;> omega))) (by first | (simp only [packA_t, packA_f, iE, bE, setAt, cellsA, Value.cells, map_vc, map_vn, Nat.reduceAdd, qS, tE] <;> rfl) | rfl)) trivial rfl ?_
       first | (refine al_ro' (ro_mul' ev_c up_h ?_) trivial rfl ?_; · (unfold In64; omega)) | refine al_ro' (ro_mul ev_c up_h) trivial rfl ?_
       refine al_ro' (ro_fld_ptr h17_fl49_1 rfl (up_m rfl (u2 rfl s7_10))) trivial rfl ?_
       refine al_ro' (ro_eq (ro_ld_ptr h17_ty3 rfl mo2_9 up_h (by first | exact Nat.le_of_ble_eq_true rfl | omega | (simp only [lnS] <;> omega) | (simp <;> omega))) (by first | (simp only [packA_t, packA_f, iE, bE, setAt, cellsA, Value.cells, map_vc, map_vn, Nat.reduceAdd, qS, tE] <;> rfl) | rfl)) trivial rfl ?_
       first | (refine al_ro' (ro_sub' (u2 rfl up_h) up_h ?_) trivial rfl ?_; · (unfold In64; omega)) | refine al_ro' (ro_sub (u2 rfl up_h) up_h) trivial rfl ?_
       refine al_ro' (ro_call (evL_cons up_h evL_nil) rfl (sSize_ok _ (by omega)) h17_hcf16) trivial rfl ?_
       refine al_ro' (ro_assign up_h) trivial rfl ?_
       refine al_end (fun e_11 he_11 => ?_)
       have s7_11 := ef 7 he_11 (u8 rfl s7_10)
       have s8_11 := ef 8 he_11 up_h
       clear he_11 s7_10
       refine then_n ?_
       refine aw_seq ?_
       refine aw_block ?_
       refine aw_seq ?_
       refine aw_text (by kernel_rfl) ?_
       refine al_ro' (ro_fld_ptr h17_fl49_1 rfl s7_11) trivial rfl ?_
       refine al_ro' (ro_eq (ro_ld_ptr h17_ty3 rfl mo2_9 up_h (by first | exact Nat.le_of_ble_eq_true rfl | omega | (simp only [lnS] <;> omega) | (simp <;> omega))) (by first | (simp only [packA_t, packA_f, iE, bE, setAt, cellsA, Value.cells, map_vc, map_vn, Nat.reduceAdd, qS, tE] <;> rfl) | rfl)) trivial rfl ?_
       refine al_ro' (ro_leq up_h ev_c) trivial rfl ?_
       refine al_ro' (ro_move up_h) trivial rfl ?_
       refine al_case up_h (fun hb_12 hq_12 => ?_) (fun hb_12 hq_12 => ?_)
       · (first | replace hq_12 := bnt hq_12 | replace hq_12 := bnf hq_12 | replace hq_12 := bt hq_12 | replace hq_12 := bf hq_12 | replace hq_12 := bt' hq_12 | replace hq_12 := bf' hq_12 | skip)
         first
         | (cases hq_12; done) | (exfalso; omega)
         | (
            refine al_skip' ⟨_, rfl, .inl hb_12⟩ rfl ?_
            refine al_skip' ⟨_, rfl, .inl (up_m rfl hb_12)⟩ rfl ?_
            refine al_skip' ⟨_, rfl, .inl (u2 rfl hb_12)⟩ rfl ?_
            refine al_skip' ⟨_, rfl, .inl (up_m rfl (u2 rfl hb_12))⟩ rfl ?_
            refine al_skip' ⟨_, rfl, .inl (u4 rfl hb_12)⟩ rfl ?_
            refine al_ro' (ro_pickT (up_m rfl (u4 rfl hb_12)) ev_c) trivial rfl ?_
            refine al_ro' (ro_assign up_h) trivial rfl ?_
            refine al_end (fun e_13 he_13 => ?_)
            have s7_13 := ef 7 he_13 (up_m rfl (u2 rfl (u8 rfl s7_11)))
            have s8_13 := ef 8 he_13 (up_m rfl (u2 rfl (u8 rfl s8_11)))
            have s26_13 := ef 26 he_13 up_h
            clear he_13 hb_12 s7_11 s8_11
            refine then_n ?_
            refine aw_true s26_13 ?_
            refine aw_seq ?_
            refine aw_text (by kernel_rfl) ?_
            refine al_ro' (ro_assign ev_c) trivial rfl ?_
            refine al_ro' (ro_assign ev_c) trivial rfl ?_
            refine al_end (fun e_15 he_15 => ?_)
            have s4_15 := ef 4 he_15 (up_m rfl up_h)
            have s5_15 := ef 5 he_15 up_h
            clear he_15 s26_13 s7_13 s8_13
            refine then_n ?_
            refine aw_ret ?_
            refine block_r ?_
            refine then_r ?_
            refine ret2 (.inr rfl) (by kernel_rfl) (resV_tmp s4_15) (resV_tmp s5_15) (.ro _ rfl) (.ro _ rfl) ?_
            clear s4_15 s5_15 mo2_9 mo1_9 mo0_9 ml_9
            (unfold marV awayV; first | (rw [if_pos (by omega)]; done) | (rw [if_neg (by omega), if_pos (by omega)]; done) | (rw [if_neg (by omega), if_neg (by omega)]; done)))
       · (first | replace hq_12 := bnt hq_12 | replace hq_12 := bnf hq_12 | replace hq_12 := bt hq_12 | replace hq_12 := bf hq_12 | replace hq_12 := bt' hq_12 | replace hq_12 := bf' hq_12 | skip)
         first
         | (cases hq_12; done) | (exfalso; omega)
         | (
            refine al_ro' (ro_move (u4 rfl s8_11)) ⟨_, rfl, hb_12⟩ rfl ?_
            refine al_ro' (ro_fld_ptr h17_fl49_1 rfl (up_m rfl (u4 rfl s7_11))) ⟨_, rfl, (up_m rfl hb_12)⟩ rfl ?_
            refine al_ro' (ro_eq (ro_ld_ptr h17_ty3 rfl mo2_9 up_h (by first | exact Nat.le_of_ble_eq_true rfl | omega | (simp only [lnS] <;> omega) | (simp <;> omega))) (by first | (simp only [packA_t, packA_f, iE, bE, setAt, cellsA, Value.cells, map_vc, map_vn, Nat.reduceAdd, qS, tE] <;> rfl) | rfl)) ⟨_, rfl, (u2 rfl hb_12)⟩ rfl ?_
            first | (refine al_ro' (ro_mul' ev_c up_h ?_) ⟨_, rfl, (up_m rfl (u2 rfl hb_12))⟩ rfl ?_; · (unfold In64; omega)) | refine al_ro' (ro_mul ev_c up_h) ⟨_, rfl, (up_m rfl (u2 rfl hb_12))⟩ rfl ?_
            refine al_ro' (ro_gtr (up_m rfl (u2 rfl up_h)) up_h) ⟨_, rfl, (u4 rfl hb_12)⟩ rfl ?_
            refine al_ro' (ro_pickF (up_m rfl (u4 rfl hb_12)) up_h) trivial rfl ?_
            refine al_ro' (ro_assign up_h) trivial rfl ?_
            refine al_end (fun e_16 he_16 => ?_)
            have s7_16 := ef 7 he_16 (up_m rfl (u2 rfl (u8 rfl s7_11)))
            have s8_16 := ef 8 he_16 (up_m rfl (u2 rfl (u8 rfl s8_11)))
            have s26_16 := ef 26 he_16 up_h
            clear he_16 hb_12 s7_11 s8_11
            refine then_n ?_
            refine aw_case s26_16 (fun hq_17 => ?_) (fun hq_17 => ?_)
            · (first | replace hq_17 := bnt hq_17 | replace hq_17 := bnf hq_17 | replace hq_17 := bt hq_17 | replace hq_17 := bf hq_17 | replace hq_17 := bt' hq_17 | replace hq_17 := bf' hq_17 | skip)
              first
              | (cases hq_17; done) | (exfalso; omega)
              | (
                 refine aw_seq ?_
                 refine aw_text (by kernel_rfl) ?_
                 refine al_ro' (ro_assign ev_c) trivial rfl ?_
                 refine al_ro' (ro_assign ev_c) trivial rfl ?_
                 refine al_end (fun e_18 he_18 => ?_)
                 have s4_18 := ef 4 he_18 (up_m rfl up_h)
                 have s5_18 := ef 5 he_18 up_h
                 clear he_18 s26_16 s7_16 s8_16
                 refine then_n ?_
                 refine aw_ret ?_
                 refine block_r ?_
                 refine then_r ?_
                 refine ret2 (.inr rfl) (by kernel_rfl) (resV_tmp s4_18) (resV_tmp s5_18) (.ro _ rfl) (.ro _ rfl) ?_
                 clear s4_18 s5_18 mo2_9 mo1_9 mo0_9 ml_9
                 (unfold marV awayV; first | (rw [if_pos (by omega)]; done) | (rw [if_neg (by omega), if_pos (by omega)]; done) | (rw [if_neg (by omega), if_neg (by omega)]; done)))
            · (first | replace hq_17 := bnt hq_17 | replace hq_17 := bnf hq_17 | replace hq_17 := bt hq_17 | replace hq_17 := bf hq_17 | replace hq_17 := bt' hq_17 | replace hq_17 := bf' hq_17 | skip)
              first
              | (cases hq_17; done) | (exfalso; omega)
              | (
                 refine aw_seq ?_
                 refine aw_text (by kernel_rfl) ?_
                 refine al_ro' (ro_move s8_16) trivial rfl ?_
                 refine al_ro' (ro_fld_ptr h17_fl49_1 rfl (up_m rfl s7_16)) trivial rfl ?_
                 refine al_ro' (ro_eq (ro_ld_ptr h17_ty3 rfl mo2_9 up_h (by first | exact Nat.le_of_ble_eq_true rfl | omega | (simp only [lnS] <;> omega) | (simp <;> omega))) (by first | (simp only [packA_t, packA_f, iE, bE, setAt, cellsA, Value.cells, map_vc, map_vn, Nat.reduceAdd, qS, tE] <;> rfl) | rfl)) trivial rfl ?_
                 refine al_ro' (ro_leq (u2 rfl up_h) up_h) trivial rfl ?_
                 refine al_ro' (ro_assign up_h) trivial rfl ?_
                 refine al_end (fun e_19 he_19 => ?_)
                 have s37_19 := ef 37 he_19 up_h
                 clear he_19 s26_16 s7_16 s8_16
                 refine then_n ?_
                 refine aw_case s37_19 (fun hq_20 => ?_) (fun hq_20 => ?_)
                 · (first | replace hq_20 := bnt hq_20 | replace hq_20 := bnf hq_20 | replace hq_20 := bt hq_20 | replace hq_20 := bf hq_20 | replace hq_20 := bt' hq_20 | replace hq_20 := bf' hq_20 | skip)
                   first
                   | (cases hq_20; done) | (exfalso; omega)
                   | (
                      refine aw_seq ?_
                      refine aw_text (by kernel_rfl) ?_
                      refine al_ro' (ro_assign ev_c) trivial rfl ?_
                      refine al_ro' (ro_assign ev_c) trivial rfl ?_
                      refine al_end (fun e_21 he_21 => ?_)
                      have s4_21 := ef 4 he_21 (up_m rfl up_h)
                      have s5_21 := ef 5 he_21 up_h
                      clear he_21 s37_19
                      refine then_n ?_
                      refine aw_ret ?_
                      refine block_r ?_
                      refine then_r ?_
                      refine ret2 (.inr rfl) (by kernel_rfl) (resV_tmp s4_21) (resV_tmp s5_21) (.ro _ rfl) (.ro _ rfl) ?_
                      clear s4_21 s5_21 mo2_9 mo1_9 mo0_9 ml_9
                      (unfold marV awayV; first | (rw [if_pos (by omega)]; done) | (rw [if_neg (by omega), if_pos (by omega)]; done) | (rw [if_neg (by omega), if_neg (by omega)]; done)))
                 · (first | replace hq_20 := bnt hq_20 | replace hq_20 := bnf hq_20 | replace hq_20 := bt hq_20 | replace hq_20 := bf hq_20 | replace hq_20 := bt' hq_20 | replace hq_20 := bf' hq_20 | skip)
                   first
                   | (cases hq_20; done) | (exfalso; omega)
                   | (
                      refine aw_skip ?_
                      refine block_n ?_
                      refine then_n ?_
                      refine aw_seq ?_
                      refine aw_text (by kernel_rfl) ?_
                      refine al_ro' (ro_assign ev_c) trivial rfl ?_
                      refine al_ro' (ro_assign ev_c) trivial rfl ?_
                      refine al_end (fun e_22 he_22 => ?_)
                      have s4_22 := ef 4 he_22 (up_m rfl up_h)
                      have s5_22 := ef 5 he_22 up_h
                      clear he_22 s37_19
                      refine then_n ?_
                      refine aw_ret ?_
                      refine ret2 (.inr rfl) (by kernel_rfl) (resV_tmp s4_22) (resV_tmp s5_22) (.ro _ rfl) (.ro _ rfl) ?_
                      clear s4_22 s5_22 mo2_9 mo1_9 mo0_9 ml_9
                      (unfold marV awayV; first | (rw [if_pos (by omega)]; done) | (rw [if_neg (by omega), if_pos (by omega)]; done) | (rw [if_neg (by omega), if_neg (by omega)]; done))))))
/-! ### Plain facts -/
theorem prod_rot (u f : V2) : prodV (rotV u) (rotV f) = prodV u f := by
  simp only [prodV, mulV, conjV, rotV]
  ext
  · simp only; grind
  · simp only; grind
theorem prod_turnN (u f : V2) : ∀ n : Nat, prodV (turnN u n) (turnN f n) = prodV u f
  | 0 => rfl
  | n + 1 => by rw [turnN, turnN, prod_rot, prod_turnN u f n]
theorem prod_turn (u f : V2) (z : Int) : prodV (turnV u z) (turnV f z) = prodV u f := prod_turnN u f _
theorem force_swap (u f : V2) : (prodV f u).2 = -(prodV u f).2 := by rw [force_det, force_det]; grind
/-- Four times the product of both squares, by what the force and the rest are. -/
theorem both_sq (u f : V2) : 4 * (sqV u * sqV f) = awayV (prodV u f) * awayV (prodV u f) + 3 * ((prodV u f).2 * (prodV u f).2) := by
  have e : awayV (prodV u f) * awayV (prodV u f) = (2 * (prodV u f).1 - (prodV u f).2) * (2 * (prodV u f).1 - (prodV u f).2) := by
    unfold awayV sizeW
    rcases Int.le_total 0 (2 * (prodV u f).1 - (prodV u f).2) with h | h
    · rw [Int.max_eq_left (by omega)]
    · rw [Int.max_eq_right (by omega), Int.neg_mul_neg]
  rw [e]; simp only [prodV, mulV, conjV, sqV]; grind
/-- What the law says of a margin. -/
theorem both_law {u f : V2} {q n : Int} (hq : q = (prodV u f).2) (hn : n = sqV u * sqV f) : 3 * q * q ≤ 4 * n ∧ (marV (prodV u f) = 2 → 0 < q ∧ n ≤ q * q) ∧ (marV (prodV u f) = 1 → 0 < q ∧ n ≤ 3 * q * q) ∧ (marV (prodV u f) ≠ 2 → 0 < q → q * q ≤ n) ∧ (marV (prodV u f) = 0 → 0 < q → 3 * q * q ≤ n) := by
  have h := both_sq u f
  rw [← hq, ← hn] at h
  have hs0 : 0 ≤ awayV (prodV u f) := by unfold awayV sizeW; omega
  have n1 := sq_nonneg (awayV (prodV u f))
  have e3 : 3 * q * q = 3 * (q * q) := Int.mul_assoc _ _ _
  have m : marV (prodV u f) = if q ≤ 0 ∨ 3 * q < awayV (prodV u f) then 0 else if awayV (prodV u f) ≤ q then 2 else 1 := by rw [hq]; rfl
  generalize awayV (prodV u f) = s at *
  rw [m, e3]
  refine ⟨by omega, ?_, ?_, ?_, ?_⟩
  · intro h2
    split at h2
    · exact absurd h2 (by decide)
    · split at h2
      · have := Int.mul_le_mul (a := s) (b := s) (c := q) (d := q) (by omega) (by omega) hs0 (by omega)
        omega
      · exact absurd h2 (by decide)
  · intro h2
    split at h2
    · exact absurd h2 (by decide)
    · have := Int.mul_le_mul (a := s) (b := s) (c := 3 * q) (d := 3 * q) (by omega) (by omega) hs0 (by omega)
      have e9 : 3 * q * (3 * q) = 9 * (q * q) := by grind
      omega
  · intro h2 h0
    split at h2
    · have := Int.mul_le_mul (a := 3 * q) (b := 3 * q) (c := s) (d := s) (by omega) (by omega) (by omega) hs0
      have e9 : 3 * q * (3 * q) = 9 * (q * q) := by grind
      have := sq_nonneg q
      omega
    · split at h2
      · exact absurd rfl h2
      · have := Int.mul_le_mul (a := q) (b := q) (c := s) (d := s) (by omega) (by omega) (by omega) hs0
        omega
  · intro h2 h0
    split at h2
    · have := Int.mul_le_mul (a := 3 * q) (b := 3 * q) (c := s) (d := s) (by omega) (by omega) (by omega) hs0
      have e9 : 3 * q * (3 * q) = 9 * (q * q) := by grind
      omega
    · split at h2 <;> exact absurd h2 (by decide)
theorem sq_bd {M : Int} {v : V2} (hM : 0 ≤ M) (h : Bd M v) : 0 ≤ sqV v ∧ sqV v ≤ 3 * (M * M) := by
  have a1 := mulBd h.1 h.1
  have a2 := mulBd h.1 h.2
  have a3 := mulBd h.2 h.2
  have := sqV_nonneg v
  unfold sqV at *; omega
theorem force_bd2 {u f : V2} (hu : Bd 10000 u) (hf : Bd 10000 f) : -200000000 ≤ (prodV u f).2 ∧ (prodV u f).2 ≤ 200000000 := by
  rw [force_det]
  have m1 := mulBd hu.2 hf.1
  have m2 := mulBd hu.1 hf.2
  omega
end Go.Proofs.YtnblahgocddpbaaDoor
