/- Contracts of chapter 5: rides, places, what is lost along a piece. No conditions on a program. -/
import Derived.Test.YtgiiedpambimoaaK3
namespace Go.Proofs.Ytgiiedpambimoaa
open Go Go.RowKit Go.Proofs
set_option linter.unusedSimpArgs false
set_option linter.unusedVariables false
theorem k4_az105 : (Try.prog.info? 105).bind (·.zero) = some (.agg #[.string ByteArray.empty, .slice none 0 0]) := by kernel_rfl
theorem k4_az107 : (Try.prog.info? 107).bind (·.zero) = some (.agg #[.string ByteArray.empty, .slice none 0 0, .int .i64 0, .int .i64 0, .int .i64 0]) := by kernel_rfl
theorem k4_az118 : (Try.prog.info? 118).bind (·.zero) = some (.agg #[.int .i64 0, .int .i64 0, .int .i64 0, .bool false]) := by kernel_rfl
theorem k4_bz105 : (Try.prog.info? 105).bind (·.zero) = some (.agg #[.string ByteArray.empty, .slice none 0 0]) := by kernel_rfl
theorem k4_bu105 : Try.prog.underlying 105 = some (.struct (fsOf Try.prog 105)) := by kernel_rfl
theorem k4_bp105 : ∀ w, ((fsOf Try.prog 105).mapM fun f => Prod.mk f.offset <$> sizeOf f.type : Sem (Array (Nat × Nat))).run Try.prog w = .ok (#[(0, 2)]) w := fun _ => by kernel_rfl
theorem k4_bz107 : (Try.prog.info? 107).bind (·.zero) = some (.agg #[.string ByteArray.empty, .slice none 0 0, .int .i64 0, .int .i64 0, .int .i64 0]) := by kernel_rfl
theorem k4_bu107 : Try.prog.underlying 107 = some (.struct (fsOf Try.prog 107)) := by kernel_rfl
theorem k4_bp107 : ∀ w, ((fsOf Try.prog 107).mapM fun f => Prod.mk f.offset <$> sizeOf f.type : Sem (Array (Nat × Nat))).run Try.prog w = .ok (#[(0, 2), (2, 3)]) w := fun _ => by kernel_rfl
theorem k4_fl105_0 : FldIs Try.prog 105 0 0 true 2 := by unfold FldIs; kernel_rfl
theorem k4_fl107_0 : FldIs Try.prog 107 0 0 true 2 := by unfold FldIs; kernel_rfl
theorem k4_fl107_1 : FldIs Try.prog 107 1 2 true 3 := by unfold FldIs; kernel_rfl
theorem k4_fl118_0 : FldIs Try.prog 118 0 0 false 1 := by unfold FldIs; kernel_rfl
theorem k4_fl118_1 : FldIs Try.prog 118 1 1 false 1 := by unfold FldIs; kernel_rfl
theorem k4_fl51_1 : FldIs Try.prog 51 1 1 false 1 := by unfold FldIs; kernel_rfl
theorem k4_fl53_0 : FldIs Try.prog 53 0 0 false 1 := by unfold FldIs; kernel_rfl
theorem k4_fl53_1 : FldIs Try.prog 53 1 1 false 1 := by unfold FldIs; kernel_rfl
theorem k4_fl53_2 : FldIs Try.prog 53 2 2 false 1 := by unfold FldIs; kernel_rfl
theorem k4_hcf10 : ∀ args w, (callFunc 10 args).run Try.prog w = .ok (.enter 10 args) w := fun _ _ => by kernel_rfl
theorem k4_hcf56 : ∀ args w, (callFunc 56 args).run Try.prog w = .ok (.enter 56 args) w := fun _ _ => by kernel_rfl
theorem k4_hcf57 : ∀ args w, (callFunc 57 args).run Try.prog w = .ok (.enter 57 args) w := fun _ _ => by kernel_rfl
theorem k4_hcf64 : ∀ args w, (callFunc 64 args).run Try.prog w = .ok (.enter 64 args) w := fun _ _ => by kernel_rfl
theorem k4_hcf66 : ∀ args w, (callFunc 66 args).run Try.prog w = .ok (.enter 66 args) w := fun _ _ => by kernel_rfl
theorem k4_hcf69 : ∀ args w, (callFunc 69 args).run Try.prog w = .ok (.enter 69 args) w := fun _ _ => by kernel_rfl
theorem k4_hcf80 : ∀ args w, (callFunc 80 args).run Try.prog w = .ok (.enter 80 args) w := fun _ _ => by kernel_rfl
theorem k4_hcf83 : ∀ args w, (callFunc 83 args).run Try.prog w = .ok (.enter 83 args) w := fun _ _ => by kernel_rfl
theorem k4_hcf86 : ∀ args w, (callFunc 86 args).run Try.prog w = .ok (.enter 86 args) w := fun _ _ => by kernel_rfl
theorem k4_sl126 : SlIs Try.prog 126 33 1 8 (.int .i64 0) := ⟨by kernel_rfl, by kernel_rfl, by kernel_rfl⟩
theorem k4_sl49 : SlIs Try.prog 49 118 4 32 (.agg #[.int .i64 0, .int .i64 0, .int .i64 0, .bool false]) := ⟨by kernel_rfl, by kernel_rfl, by kernel_rfl⟩
theorem k4_sz105 : (Try.prog.info? 105).map (·.size) = some 2 := by kernel_rfl
theorem k4_sz107 : (Try.prog.info? 107).map (·.size) = some 5 := by kernel_rfl
theorem k4_sz118 : (Try.prog.info? 118).map (·.size) = some 4 := by kernel_rfl
theorem k4_ty105 : TyIs Try.prog 105 true 2 := ⟨by kernel_rfl, by kernel_rfl⟩
theorem k4_ty107 : TyIs Try.prog 107 true 5 := ⟨by kernel_rfl, by kernel_rfl⟩
theorem k4_ty118 : TyIs Try.prog 118 true 4 := ⟨by kernel_rfl, by kernel_rfl⟩
theorem k4_ty3 : TyIs Try.prog 3 false 1 := ⟨by kernel_rfl, by kernel_rfl⟩
theorem k4_ty49 : TyIs Try.prog 49 false 1 := ⟨by kernel_rfl, by kernel_rfl⟩
theorem k4_ty51 : TyIs Try.prog 51 true 2 := ⟨by kernel_rfl, by kernel_rfl⟩
theorem k4_ty53 : TyIs Try.prog 53 true 3 := ⟨by kernel_rfl, by kernel_rfl⟩

def sysRight (b d v : Int) : Bool := withinB b 1 3000 && withinB d 0 500 && withinB v 0 2000
def sysE (b d v : Int) : Int := firstE [unlessE (sysRight b d v) 2, unlessE (decide (d ≤ b)) 9]
set_option maxRecDepth 100000 in
set_option maxHeartbeats 1000000 in
theorem checkSystem_ok (b d v : Int) : FnOk Try.prog 80 [syA b d v] (fun q => q = iA (sysE b d v)) := by
  refine fnOk_of (fn := Try.f80) 27 (by kernel_rfl) rfl (by kernel_rfl) (Nat.le_of_ble_eq_true rfl) ?_
  intro e_0 m_0 hA hm_0
  have s0_0 : evA e_0 (.tmp 0) = _ := hA 0 _ rfl
  have ml_0 : m_0.length = 0 := by rw [hm_0]; rfl
  clear hA hm_0
  refine aw_seq ?_
  refine aw_text (by kernel_rfl) ?_
  refine al_stm (st_box s0_0 rfl ml_0) trivial rfl (fun m_1 hm_1 => ?_)
  have mo0_1 := m_push hm_1 ml_0
  (try simp only [packA_t, packA_f, iE, bE, setAt, cellsA, Value.cells, map_vc, map_vn, Nat.reduceAdd, qS] at mo0_1)
  have ml_1 := m_push_l hm_1 ml_0
  have ml_1 : _ = 1 := ml_1
  clear hm_1
  refine al_ro' (ro_assign ev_c) trivial rfl ?_
  refine al_end (fun e_2 he_2 => ?_)
  have s1_2 := ef 1 he_2 (up_m rfl up_h)
  clear he_2 s0_0
  refine then_n ?_
  refine aw_seq ?_
  refine aw_text (by kernel_rfl) ?_
  refine al_ro' (ro_fld_ptr k4_fl53_0 rfl s1_2) trivial rfl ?_
  refine al_ro' (ro_eq (ro_ld_ptr k4_ty3 rfl mo0_1 up_h (by first | exact Nat.le_of_ble_eq_true rfl | omega | (simp only [lnS] <;> omega) | (simp <;> omega))) (by first | (simp only [packA_t, packA_f, iE, bE, setAt, cellsA, Value.cells, map_vc, map_vn, Nat.reduceAdd, qS] <;> rfl) | rfl)) trivial rfl ?_
  refine al_ro' (ro_call (evL_cons up_h (evL_cons ev_c (evL_cons ev_c evL_nil))) rfl (within_ok _ _ _) k4_hcf64) trivial rfl ?_
  refine al_ro' (ro_move up_h) trivial rfl ?_
  refine al_case up_h (fun hb_3 hq_3 => ?_) (fun hb_3 hq_3 => ?_)
  · (first | replace hq_3 := bnt hq_3 | replace hq_3 := bnf hq_3 | replace hq_3 := bt hq_3 | replace hq_3 := bf hq_3 | replace hq_3 := bt' hq_3 | replace hq_3 := bf' hq_3 | skip)
    first
    | (cases hq_3; done) | (exfalso; omega)
    | (
       refine al_ro' (ro_fld_ptr k4_fl53_1 rfl (u4 rfl s1_2)) ⟨_, rfl, hb_3⟩ rfl ?_
       refine al_ro' (ro_eq (ro_ld_ptr k4_ty3 rfl mo0_1 up_h (by first | exact Nat.le_of_ble_eq_true rfl | omega | (simp only [lnS] <;> omega) | (simp <;> omega))) (by first | (simp only [packA_t, packA_f, iE, bE, setAt, cellsA, Value.cells, map_vc, map_vn, Nat.reduceAdd, qS] <;> rfl) | rfl)) ⟨_, rfl, (up_m rfl hb_3)⟩ rfl ?_
       refine al_ro' (ro_call (evL_cons up_h (evL_cons ev_c (evL_cons ev_c evL_nil))) rfl (within_ok _ _ _) k4_hcf64) ⟨_, rfl, (u2 rfl hb_3)⟩ rfl ?_
       refine al_ro' (ro_pickT (up_m rfl (u2 rfl hb_3)) up_h) trivial rfl ?_
       refine al_ro' (ro_move up_h) trivial rfl ?_
       refine al_case up_h (fun hb_4 hq_4 => ?_) (fun hb_4 hq_4 => ?_)
       · (first | replace hq_4 := bnt hq_4 | replace hq_4 := bnf hq_4 | replace hq_4 := bt hq_4 | replace hq_4 := bf hq_4 | replace hq_4 := bt' hq_4 | replace hq_4 := bf' hq_4 | skip)
         first
         | (cases hq_4; done) | (exfalso; omega)
         | (
            refine al_ro' (ro_fld_ptr k4_fl53_2 rfl (up_m rfl (u8 rfl s1_2))) ⟨_, rfl, hb_4⟩ rfl ?_
            refine al_ro' (ro_eq (ro_ld_ptr k4_ty3 rfl mo0_1 up_h (by first | exact Nat.le_of_ble_eq_true rfl | omega | (simp only [lnS] <;> omega) | (simp <;> omega))) (by first | (simp only [packA_t, packA_f, iE, bE, setAt, cellsA, Value.cells, map_vc, map_vn, Nat.reduceAdd, qS] <;> rfl) | rfl)) ⟨_, rfl, (up_m rfl hb_4)⟩ rfl ?_
            refine al_ro' (ro_call (evL_cons up_h (evL_cons ev_c (evL_cons ev_c evL_nil))) rfl (within_ok _ _ _) k4_hcf64) ⟨_, rfl, (u2 rfl hb_4)⟩ rfl ?_
            refine al_ro' (ro_pickT (up_m rfl (u2 rfl hb_4)) up_h) trivial rfl ?_
            refine al_ro' (ro_assign up_h) trivial rfl ?_
            refine al_end (fun e_5 he_5 => ?_)
            have s1_5 := ef 1 he_5 (u2 rfl (u4 rfl (u8 rfl s1_2)))
            have s3_5 := ef 3 he_5 up_h
            clear he_5 hb_3 hb_4 s1_2
            refine then_n ?_
            refine aw_seq ?_
            refine aw_draw 11 (by kernel_rfl) (by kernel_rfl) (by kernel_rfl) (by kernel_rfl) ?_
            refine ds_ro' (ro_move s3_5) trivial rfl ?_
            refine ds_ro' (ro_call (evL_cons up_h (evL_cons ev_c evL_nil)) rfl (unless_ok _ _) k4_hcf57) trivial rfl ?_
            refine ds_ro' (ro_fld_ptr k4_fl53_1 rfl (u2 rfl s1_5)) trivial rfl ?_
            refine ds_ro' (ro_eq (ro_ld_ptr k4_ty3 rfl mo0_1 up_h (by first | exact Nat.le_of_ble_eq_true rfl | omega | (simp only [lnS] <;> omega) | (simp <;> omega))) (by first | (simp only [packA_t, packA_f, iE, bE, setAt, cellsA, Value.cells, map_vc, map_vn, Nat.reduceAdd, qS] <;> rfl) | rfl)) trivial rfl ?_
            refine ds_ro' (ro_fld_ptr k4_fl53_0 rfl (u4 rfl s1_5)) trivial rfl ?_
            refine ds_ro' (ro_eq (ro_ld_ptr k4_ty3 rfl mo0_1 up_h (by first | exact Nat.le_of_ble_eq_true rfl | omega | (simp only [lnS] <;> omega) | (simp <;> omega))) (by first | (simp only [packA_t, packA_f, iE, bE, setAt, cellsA, Value.cells, map_vc, map_vn, Nat.reduceAdd, qS] <;> rfl) | rfl)) trivial rfl ?_
            refine ds_ro' (ro_leq (u2 rfl up_h) up_h) trivial rfl ?_
            refine ds_ro' (ro_call (evL_cons up_h (evL_cons ev_c evL_nil)) rfl (unless_ok _ _) k4_hcf57) trivial rfl ?_
            refine ds_ro' (ro_lit k4_sl126 (evP_cons (u2 rfl (u4 rfl up_h)) (evP_cons up_h evP_nil)) rfl rfl rfl rfl) trivial rfl ?_
            refine ds_ro' (ro_call (evL_cons up_h evL_nil) rfl (first_ok [_, _] (by simp)) k4_hcf56) trivial rfl ?_
            refine ds_ro' (ro_assign up_h) trivial rfl ?_
            refine ds_nil ?_
            refine al_end (fun e_6 he_6 => ?_)
            have s2_6 := ef 2 he_6 up_h
            clear he_6 s1_5 s3_5
            refine then_n ?_
            refine aw_ret ?_
            refine ret1 (.inr rfl) (by kernel_rfl) (resV_tmp s2_6) (.ro _ rfl) ?_
            clear s2_6 mo0_1 ml_1
            simp_all [sysE, sysRight])
       · (first | replace hq_4 := bnt hq_4 | replace hq_4 := bnf hq_4 | replace hq_4 := bt hq_4 | replace hq_4 := bf hq_4 | replace hq_4 := bt' hq_4 | replace hq_4 := bf' hq_4 | skip)
         first
         | (cases hq_4; done) | (exfalso; omega)
         | (
            refine al_skip' ⟨_, rfl, .inl hb_4⟩ rfl ?_
            refine al_skip' ⟨_, rfl, .inl (up_m rfl hb_4)⟩ rfl ?_
            refine al_skip' ⟨_, rfl, .inl (u2 rfl hb_4)⟩ rfl ?_
            refine al_ro' (ro_pickF (up_m rfl (u2 rfl hb_4)) ev_c) trivial rfl ?_
            refine al_ro' (ro_assign up_h) trivial rfl ?_
            refine al_end (fun e_7 he_7 => ?_)
            have s1_7 := ef 1 he_7 (u2 rfl (u4 rfl (u8 rfl s1_2)))
            have s3_7 := ef 3 he_7 up_h
            clear he_7 hb_3 hb_4 s1_2
            refine then_n ?_
            refine aw_seq ?_
            refine aw_draw 11 (by kernel_rfl) (by kernel_rfl) (by kernel_rfl) (by kernel_rfl) ?_
            refine ds_ro' (ro_move s3_7) trivial rfl ?_
            refine ds_ro' (ro_call (evL_cons up_h (evL_cons ev_c evL_nil)) rfl (unless_ok _ _) k4_hcf57) trivial rfl ?_
            refine ds_ro' (ro_fld_ptr k4_fl53_1 rfl (u2 rfl s1_7)) trivial rfl ?_
            refine ds_ro' (ro_eq (ro_ld_ptr k4_ty3 rfl mo0_1 up_h (by first | exact Nat.le_of_ble_eq_true rfl | omega | (simp only [lnS] <;> omega) | (simp <;> omega))) (by first | (simp only [packA_t, packA_f, iE, bE, setAt, cellsA, Value.cells, map_vc, map_vn, Nat.reduceAdd, qS] <;> rfl) | rfl)) trivial rfl ?_
            refine ds_ro' (ro_fld_ptr k4_fl53_0 rfl (u4 rfl s1_7)) trivial rfl ?_
            refine ds_ro' (ro_eq (ro_ld_ptr k4_ty3 rfl mo0_1 up_h (by first | exact Nat.le_of_ble_eq_true rfl | omega | (simp only [lnS] <;> omega) | (simp <;> omega))) (by first | (simp only [packA_t, packA_f, iE, bE, setAt, cellsA, Value.cells, map_vc, map_vn, Nat.reduceAdd, qS] <;> rfl) | rfl)) trivial rfl ?_
            refine ds_ro' (ro_leq (u2 rfl up_h) up_h) trivial rfl ?_
            refine ds_ro' (ro_call (evL_cons up_h (evL_cons ev_c evL_nil)) rfl (unless_ok _ _) k4_hcf57) trivial rfl ?_
            refine ds_ro' (ro_lit k4_sl126 (evP_cons (u2 rfl (u4 rfl up_h)) (evP_cons up_h evP_nil)) rfl rfl rfl rfl) trivial rfl ?_
            refine ds_ro' (ro_call (evL_cons up_h evL_nil) rfl (first_ok [_, _] (by simp)) k4_hcf56) trivial rfl ?_
            refine ds_ro' (ro_assign up_h) trivial rfl ?_
            refine ds_nil ?_
            refine al_end (fun e_8 he_8 => ?_)
            have s2_8 := ef 2 he_8 up_h
            clear he_8 s1_7 s3_7
            refine then_n ?_
            refine aw_ret ?_
            refine ret1 (.inr rfl) (by kernel_rfl) (resV_tmp s2_8) (.ro _ rfl) ?_
            clear s2_8 mo0_1 ml_1
            simp_all [sysE, sysRight]))
  · (first | replace hq_3 := bnt hq_3 | replace hq_3 := bnf hq_3 | replace hq_3 := bt hq_3 | replace hq_3 := bf hq_3 | replace hq_3 := bt' hq_3 | replace hq_3 := bf' hq_3 | skip)
    first
    | (cases hq_3; done) | (exfalso; omega)
    | (
       refine al_skip' ⟨_, rfl, .inl hb_3⟩ rfl ?_
       refine al_skip' ⟨_, rfl, .inl (up_m rfl hb_3)⟩ rfl ?_
       refine al_skip' ⟨_, rfl, .inl (u2 rfl hb_3)⟩ rfl ?_
       refine al_ro' (ro_pickF (up_m rfl (u2 rfl hb_3)) ev_c) trivial rfl ?_
       refine al_ro' (ro_move up_h) trivial rfl ?_
       refine al_skip' ⟨_, rfl, .inl up_h⟩ rfl ?_
       refine al_skip' ⟨_, rfl, .inl (up_m rfl up_h)⟩ rfl ?_
       refine al_skip' ⟨_, rfl, .inl (u2 rfl up_h)⟩ rfl ?_
       refine al_ro' (ro_pickF (up_m rfl (u2 rfl up_h)) ev_c) trivial rfl ?_
       refine al_ro' (ro_assign up_h) trivial rfl ?_
       refine al_end (fun e_9 he_9 => ?_)
       have s1_9 := ef 1 he_9 (u2 rfl (u4 rfl (u8 rfl s1_2)))
       have s3_9 := ef 3 he_9 up_h
       clear he_9 hb_3 s1_2
       refine then_n ?_
       refine aw_seq ?_
       refine aw_draw 11 (by kernel_rfl) (by kernel_rfl) (by kernel_rfl) (by kernel_rfl) ?_
       refine ds_ro' (ro_move s3_9) trivial rfl ?_
       refine ds_ro' (ro_call (evL_cons up_h (evL_cons ev_c evL_nil)) rfl (unless_ok _ _) k4_hcf57) trivial rfl ?_
       refine ds_ro' (ro_fld_ptr k4_fl53_1 rfl (u2 rfl s1_9)) trivial rfl ?_
       refine ds_ro' (ro_eq (ro_ld_ptr k4_ty3 rfl mo0_1 up_h (by first | exact Nat.le_of_ble_eq_true rfl | omega | (simp only [lnS] <;> omega) | (simp <;> omega))) (by first | (simp only [packA_t, packA_f, iE, bE, setAt, cellsA, Value.cells, map_vc, map_vn, Nat.reduceAdd, qS] <;> rfl) | rfl)) trivial rfl ?_
       refine ds_ro' (ro_fld_ptr k4_fl53_0 rfl (u4 rfl s1_9)) trivial rfl ?_
       refine ds_ro' (ro_eq (ro_ld_ptr k4_ty3 rfl mo0_1 up_h (by first | exact Nat.le_of_ble_eq_true rfl | omega | (simp only [lnS] <;> omega) | (simp <;> omega))) (by first | (simp only [packA_t, packA_f, iE, bE, setAt, cellsA, Value.cells, map_vc, map_vn, Nat.reduceAdd, qS] <;> rfl) | rfl)) trivial rfl ?_
       refine ds_ro' (ro_leq (u2 rfl up_h) up_h) trivial rfl ?_
       refine ds_ro' (ro_call (evL_cons up_h (evL_cons ev_c evL_nil)) rfl (unless_ok _ _) k4_hcf57) trivial rfl ?_
       refine ds_ro' (ro_lit k4_sl126 (evP_cons (u2 rfl (u4 rfl up_h)) (evP_cons up_h evP_nil)) rfl rfl rfl rfl) trivial rfl ?_
       refine ds_ro' (ro_call (evL_cons up_h evL_nil) rfl (first_ok [_, _] (by simp)) k4_hcf56) trivial rfl ?_
       refine ds_ro' (ro_assign up_h) trivial rfl ?_
       refine ds_nil ?_
       refine al_end (fun e_10 he_10 => ?_)
       have s2_10 := ef 2 he_10 up_h
       clear he_10 s1_9 s3_9
       refine then_n ?_
       refine aw_ret ?_
       refine ret1 (.inr rfl) (by kernel_rfl) (resV_tmp s2_10) (.ro _ rfl) ?_
       clear s2_10 mo0_1 ml_1
       simp_all [sysE, sysRight])
set_option maxRecDepth 100000 in
set_option maxHeartbeats 1000000 in
theorem rCheckSystem_ok (b d v : Int) : FnOk Try.prog 29 [syA b d v] (fun q => q = iA (sysE b d v)) := by
  refine fnOk_of (fn := Try.f29) 24 (by kernel_rfl) rfl (by kernel_rfl) (Nat.le_of_ble_eq_true rfl) ?_
  intro e_0 m_0 hA hm_0
  have s0_0 : evA e_0 (.tmp 0) = _ := hA 0 _ rfl
  have ml_0 : m_0.length = 0 := by rw [hm_0]; rfl
  clear hA hm_0
  refine aw_seq ?_
  refine aw_text (by kernel_rfl) ?_
  refine al_stm (st_box s0_0 rfl ml_0) trivial rfl (fun m_1 hm_1 => ?_)
  have mo0_1 := m_push hm_1 ml_0
  (try simp only [packA_t, packA_f, iE, bE, setAt, cellsA, Value.cells, map_vc, map_vn, Nat.reduceAdd, qS] at mo0_1)
  have ml_1 := m_push_l hm_1 ml_0
  have ml_1 : _ = 1 := ml_1
  clear hm_1
  refine al_ro' (ro_assign ev_c) trivial rfl ?_
  refine al_end (fun e_2 he_2 => ?_)
  have s1_2 := ef 1 he_2 (up_m rfl up_h)
  clear he_2 s0_0
  refine then_n ?_
  refine aw_seq ?_
  refine aw_seq ?_
  refine aw_text (by kernel_rfl) ?_
  refine al_ro' (ro_fld_ptr k4_fl53_0 rfl s1_2) trivial rfl ?_
  refine al_ro' (ro_eq (ro_ld_ptr k4_ty3 rfl mo0_1 up_h (by first | exact Nat.le_of_ble_eq_true rfl | omega | (simp only [lnS] <;> omega) | (simp <;> omega))) (by first | (simp only [packA_t, packA_f, iE, bE, setAt, cellsA, Value.cells, map_vc, map_vn, Nat.reduceAdd, qS] <;> rfl) | rfl)) trivial rfl ?_
  refine al_ro' (ro_call (evL_cons up_h (evL_cons ev_c (evL_cons ev_c evL_nil))) rfl (bWithin_ok _ _ _) k4_hcf10) trivial rfl ?_
  refine al_ro' (ro_not up_h) trivial rfl ?_
  refine al_ro' (ro_move up_h) trivial rfl ?_
  refine al_case up_h (fun hb_3 hq_3 => ?_) (fun hb_3 hq_3 => ?_)
  · (first | replace hq_3 := bnt hq_3 | replace hq_3 := bnf hq_3 | replace hq_3 := bt hq_3 | replace hq_3 := bf hq_3 | replace hq_3 := bt' hq_3 | replace hq_3 := bf' hq_3 | skip)
    first
    | (cases hq_3; done) | (exfalso; omega)
    | (
       refine al_skip' ⟨_, rfl, .inl hb_3⟩ rfl ?_
       refine al_skip' ⟨_, rfl, .inl (up_m rfl hb_3)⟩ rfl ?_
       refine al_skip' ⟨_, rfl, .inl (u2 rfl hb_3)⟩ rfl ?_
       refine al_skip' ⟨_, rfl, .inl (up_m rfl (u2 rfl hb_3))⟩ rfl ?_
       refine al_ro' (ro_pickT (u4 rfl hb_3) ev_c) trivial rfl ?_
       refine al_ro' (ro_move up_h) trivial rfl ?_
       refine al_skip' ⟨_, rfl, .inl up_h⟩ rfl ?_
       refine al_skip' ⟨_, rfl, .inl (up_m rfl up_h)⟩ rfl ?_
       refine al_skip' ⟨_, rfl, .inl (u2 rfl up_h)⟩ rfl ?_
       refine al_skip' ⟨_, rfl, .inl (up_m rfl (u2 rfl up_h))⟩ rfl ?_
       refine al_ro' (ro_pickT (u4 rfl up_h) ev_c) trivial rfl ?_
       refine al_end (fun e_4 he_4 => ?_)
       have s1_4 := ef 1 he_4 (u16 rfl s1_2)
       have s18_4 := ef 18 he_4 up_h
       clear he_4 hb_3 s1_2
       refine then_n ?_
       refine aw_true s18_4 ?_
       refine aw_seq ?_
       refine aw_text (by kernel_rfl) ?_
       refine al_ro' (ro_assign ev_c) trivial rfl ?_
       refine al_end (fun e_6 he_6 => ?_)
       have s2_6 := ef 2 he_6 up_h
       clear he_6 s18_4 s1_4
       refine then_n ?_
       refine aw_ret ?_
       refine then_r ?_
       refine ret1 (.inr rfl) (by kernel_rfl) (resV_tmp s2_6) (.ro _ rfl) ?_
       clear s2_6 mo0_1 ml_1
       simp_all [sysE, sysRight, firstE, unlessE] <;> omega)
  · (first | replace hq_3 := bnt hq_3 | replace hq_3 := bnf hq_3 | replace hq_3 := bt hq_3 | replace hq_3 := bf hq_3 | replace hq_3 := bt' hq_3 | replace hq_3 := bf' hq_3 | skip)
    first
    | (cases hq_3; done) | (exfalso; omega)
    | (
       refine al_ro' (ro_fld_ptr k4_fl53_1 rfl (up_m rfl (u4 rfl s1_2))) ⟨_, rfl, hb_3⟩ rfl ?_
       refine al_ro' (ro_eq (ro_ld_ptr k4_ty3 rfl mo0_1 up_h (by first | exact Nat.le_of_ble_eq_true rfl | omega | (simp only [lnS] <;> omega) | (simp <;> omega))) (by first | (simp only [packA_t, packA_f, iE, bE, setAt, cellsA, Value.cells, map_vc, map_vn, Nat.reduceAdd, qS] <;> rfl) | rfl)) ⟨_, rfl, (up_m rfl hb_3)⟩ rfl ?_
       refine al_ro' (ro_call (evL_cons up_h (evL_cons ev_c (evL_cons ev_c evL_nil))) rfl (bWithin_ok _ _ _) k4_hcf10) ⟨_, rfl, (u2 rfl hb_3)⟩ rfl ?_
       refine al_ro' (ro_not up_h) ⟨_, rfl, (up_m rfl (u2 rfl hb_3))⟩ rfl ?_
       refine al_ro' (ro_pickF (u4 rfl hb_3) up_h) trivial rfl ?_
       refine al_ro' (ro_move up_h) trivial rfl ?_
       refine al_case up_h (fun hb_7 hq_7 => ?_) (fun hb_7 hq_7 => ?_)
       · (first | replace hq_7 := bnt hq_7 | replace hq_7 := bnf hq_7 | replace hq_7 := bt hq_7 | replace hq_7 := bf hq_7 | replace hq_7 := bt' hq_7 | replace hq_7 := bf' hq_7 | skip)
         first
         | (cases hq_7; done) | (exfalso; omega)
         | (
            refine al_skip' ⟨_, rfl, .inl hb_7⟩ rfl ?_
            refine al_skip' ⟨_, rfl, .inl (up_m rfl hb_7)⟩ rfl ?_
            refine al_skip' ⟨_, rfl, .inl (u2 rfl hb_7)⟩ rfl ?_
            refine al_skip' ⟨_, rfl, .inl (up_m rfl (u2 rfl hb_7))⟩ rfl ?_
            refine al_ro' (ro_pickT (u4 rfl hb_7) ev_c) trivial rfl ?_
            refine al_end (fun e_8 he_8 => ?_)
            have s1_8 := ef 1 he_8 (u16 rfl s1_2)
            have s18_8 := ef 18 he_8 up_h
            clear he_8 hb_3 hb_7 s1_2
            refine then_n ?_
            refine aw_true s18_8 ?_
            refine aw_seq ?_
            refine aw_text (by kernel_rfl) ?_
            refine al_ro' (ro_assign ev_c) trivial rfl ?_
            refine al_end (fun e_10 he_10 => ?_)
            have s2_10 := ef 2 he_10 up_h
            clear he_10 s18_8 s1_8
            refine then_n ?_
            refine aw_ret ?_
            refine then_r ?_
            refine ret1 (.inr rfl) (by kernel_rfl) (resV_tmp s2_10) (.ro _ rfl) ?_
            clear s2_10 mo0_1 ml_1
            simp_all [sysE, sysRight, firstE, unlessE] <;> omega)
       · (first | replace hq_7 := bnt hq_7 | replace hq_7 := bnf hq_7 | replace hq_7 := bt hq_7 | replace hq_7 := bf hq_7 | replace hq_7 := bt' hq_7 | replace hq_7 := bf' hq_7 | skip)
         first
         | (cases hq_7; done) | (exfalso; omega)
         | (
            refine al_ro' (ro_fld_ptr k4_fl53_2 rfl (up_m rfl (u2 rfl (u8 rfl s1_2)))) ⟨_, rfl, hb_7⟩ rfl ?_
            refine al_ro' (ro_eq (ro_ld_ptr k4_ty3 rfl mo0_1 up_h (by first | exact Nat.le_of_ble_eq_true rfl | omega | (simp only [lnS] <;> omega) | (simp <;> omega))) (by first | (simp only [packA_t, packA_f, iE, bE, setAt, cellsA, Value.cells, map_vc, map_vn, Nat.reduceAdd, qS] <;> rfl) | rfl)) ⟨_, rfl, (up_m rfl hb_7)⟩ rfl ?_
            refine al_ro' (ro_call (evL_cons up_h (evL_cons ev_c (evL_cons ev_c evL_nil))) rfl (bWithin_ok _ _ _) k4_hcf10) ⟨_, rfl, (u2 rfl hb_7)⟩ rfl ?_
            refine al_ro' (ro_not up_h) ⟨_, rfl, (up_m rfl (u2 rfl hb_7))⟩ rfl ?_
            refine al_ro' (ro_pickF (u4 rfl hb_7) up_h) trivial rfl ?_
            refine al_end (fun e_11 he_11 => ?_)
            have s1_11 := ef 1 he_11 (u16 rfl s1_2)
            have s18_11 := ef 18 he_11 up_h
            clear he_11 hb_3 hb_7 s1_2
            refine then_n ?_
            refine aw_case s18_11 (fun hq_12 => ?_) (fun hq_12 => ?_)
            · (first | replace hq_12 := bnt hq_12 | replace hq_12 := bnf hq_12 | replace hq_12 := bt hq_12 | replace hq_12 := bf hq_12 | replace hq_12 := bt' hq_12 | replace hq_12 := bf' hq_12 | skip)
              first
              | (cases hq_12; done) | (exfalso; omega)
              | (
                 refine aw_seq ?_
                 refine aw_text (by kernel_rfl) ?_
                 refine al_ro' (ro_assign ev_c) trivial rfl ?_
                 refine al_end (fun e_13 he_13 => ?_)
                 have s2_13 := ef 2 he_13 up_h
                 clear he_13 s18_11 s1_11
                 refine then_n ?_
                 refine aw_ret ?_
                 refine then_r ?_
                 refine ret1 (.inr rfl) (by kernel_rfl) (resV_tmp s2_13) (.ro _ rfl) ?_
                 clear s2_13 mo0_1 ml_1
                 simp_all [sysE, sysRight, firstE, unlessE] <;> omega)
            · (first | replace hq_12 := bnt hq_12 | replace hq_12 := bnf hq_12 | replace hq_12 := bt hq_12 | replace hq_12 := bf hq_12 | replace hq_12 := bt' hq_12 | replace hq_12 := bf' hq_12 | skip)
              first
              | (cases hq_12; done) | (exfalso; omega)
              | (
                 refine aw_skip ?_
                 refine then_n ?_
                 refine aw_seq ?_
                 refine aw_seq ?_
                 refine aw_text (by kernel_rfl) ?_
                 refine al_ro' (ro_fld_ptr k4_fl53_1 rfl s1_11) trivial rfl ?_
                 refine al_ro' (ro_eq (ro_ld_ptr k4_ty3 rfl mo0_1 up_h (by first | exact Nat.le_of_ble_eq_true rfl | omega | (simp only [lnS] <;> omega) | (simp <;> omega))) (by first | (simp only [packA_t, packA_f, iE, bE, setAt, cellsA, Value.cells, map_vc, map_vn, Nat.reduceAdd, qS] <;> rfl) | rfl)) trivial rfl ?_
                 refine al_ro' (ro_fld_ptr k4_fl53_0 rfl (u2 rfl s1_11)) trivial rfl ?_
                 refine al_ro' (ro_eq (ro_ld_ptr k4_ty3 rfl mo0_1 up_h (by first | exact Nat.le_of_ble_eq_true rfl | omega | (simp only [lnS] <;> omega) | (simp <;> omega))) (by first | (simp only [packA_t, packA_f, iE, bE, setAt, cellsA, Value.cells, map_vc, map_vn, Nat.reduceAdd, qS] <;> rfl) | rfl)) trivial rfl ?_
                 refine al_ro' (ro_gtr (u2 rfl up_h) up_h) trivial rfl ?_
                 refine al_end (fun e_14 he_14 => ?_)
                 have s23_14 := ef 23 he_14 up_h
                 clear he_14 s18_11 s1_11
                 refine then_n ?_
                 refine aw_case s23_14 (fun hq_15 => ?_) (fun hq_15 => ?_)
                 · (first | replace hq_15 := bnt hq_15 | replace hq_15 := bnf hq_15 | replace hq_15 := bt hq_15 | replace hq_15 := bf hq_15 | replace hq_15 := bt' hq_15 | replace hq_15 := bf' hq_15 | skip)
                   first
                   | (cases hq_15; done) | (exfalso; omega)
                   | (
                      refine aw_seq ?_
                      refine aw_text (by kernel_rfl) ?_
                      refine al_ro' (ro_assign ev_c) trivial rfl ?_
                      refine al_end (fun e_16 he_16 => ?_)
                      have s2_16 := ef 2 he_16 up_h
                      clear he_16 s23_14
                      refine then_n ?_
                      refine aw_ret ?_
                      refine then_r ?_
                      refine ret1 (.inr rfl) (by kernel_rfl) (resV_tmp s2_16) (.ro _ rfl) ?_
                      clear s2_16 mo0_1 ml_1
                      simp_all [sysE, sysRight, firstE, unlessE] <;> omega)
                 · (first | replace hq_15 := bnt hq_15 | replace hq_15 := bnf hq_15 | replace hq_15 := bt hq_15 | replace hq_15 := bf hq_15 | replace hq_15 := bt' hq_15 | replace hq_15 := bf' hq_15 | skip)
                   first
                   | (cases hq_15; done) | (exfalso; omega)
                   | (
                      refine aw_skip ?_
                      refine then_n ?_
                      refine aw_seq ?_
                      refine aw_text (by kernel_rfl) ?_
                      refine al_ro' (ro_assign ev_c) trivial rfl ?_
                      refine al_end (fun e_17 he_17 => ?_)
                      have s2_17 := ef 2 he_17 up_h
                      clear he_17 s23_14
                      refine then_n ?_
                      refine aw_ret ?_
                      refine ret1 (.inr rfl) (by kernel_rfl) (resV_tmp s2_17) (.ro _ rfl) ?_
                      clear s2_17 mo0_1 ml_1
                      simp_all [sysE, sysRight, firstE, unlessE] <;> omega))))
section
variable (nm : ByteArray) (ps : List Piece) (hs : nm.size ≤ 1000000000) (hp : ps.length ≤ 1000000000)
include hs hp
set_option maxRecDepth 100000 in
set_option maxHeartbeats 1000000 in
theorem rTrackErr_ok : FnOk Try.prog 33 [trA nm ps] (fun q => q = iA (chk nm ps).2) := by
  refine fnOk_of (fn := Try.f33) 11 (by kernel_rfl) rfl (by kernel_rfl) (Nat.le_of_ble_eq_true rfl) ?_
  intro e_0 m_0 hA hm_0
  have s0_0 : evA e_0 (.tmp 0) = _ := hA 0 _ rfl
  have ml_0 : m_0.length = 0 := by rw [hm_0]; rfl
  clear hA hm_0
  refine aw_seq ?_
  refine aw_text (by kernel_rfl) ?_
  refine al_stm (st_box s0_0 rfl ml_0) trivial rfl (fun m_1 hm_1 => ?_)
  have mo0_1 := m_push hm_1 ml_0
  (try simp only [packA_t, packA_f, iE, bE, setAt, cellsA, Value.cells, map_vc, map_vn, Nat.reduceAdd, qS] at mo0_1)
  have ml_1 := m_push_l hm_1 ml_0
  have ml_1 : _ = 1 := ml_1
  clear hm_1
  refine al_ro' (ro_assign ev_c) trivial rfl ?_
  refine al_end (fun e_2 he_2 => ?_)
  have s1_2 := ef 1 he_2 (up_m rfl up_h)
  clear he_2 s0_0
  refine then_n ?_
  refine aw_seq ?_
  refine aw_text (by kernel_rfl) ?_
  refine al_ro' (ro_eq (ro_ld_ptr k4_ty51 rfl mo0_1 s1_2 (by first | exact Nat.le_of_ble_eq_true rfl | omega | (simp only [lnS] <;> omega) | (simp <;> omega))) (by first | (simp only [packA_t, packA_f, iE, bE, setAt, cellsA, Value.cells, map_vc, map_vn, Nat.reduceAdd, qS] <;> rfl) | rfl)) trivial rfl ?_
  refine al_ro' (ro_call (evL_cons up_h evL_nil) rfl (rCheckTrack_ok nm ps hs hp) k4_hcf69) trivial rfl ?_
  refine al_ro' (ro_move up_h) trivial rfl ?_
  refine al_ro' (ro_extract up_h rfl) trivial rfl ?_
  refine al_ro' (ro_extract (up_m rfl up_h) rfl) trivial rfl ?_
  refine al_ro' (ro_assign (up_m rfl up_h)) trivial rfl ?_
  refine al_ro' (ro_assign (up_m rfl up_h)) trivial rfl ?_
  refine al_end (fun e_3 he_3 => ?_)
  have s4_3 := ef 4 he_3 up_h
  clear he_3 s1_2
  refine then_n ?_
  refine aw_seq ?_
  refine aw_text (by kernel_rfl) ?_
  refine al_ro' (ro_move s4_3) trivial rfl ?_
  refine al_ro' (ro_assign up_h) trivial rfl ?_
  refine al_end (fun e_4 he_4 => ?_)
  have s2_4 := ef 2 he_4 up_h
  clear he_4 s4_3
  refine then_n ?_
  refine aw_ret ?_
  refine ret1 (.inr rfl) (by kernel_rfl) (resV_tmp s2_4) (.ro _ rfl) ?_
  clear s2_4 mo0_1 ml_1
  rfl
set_option maxRecDepth 100000 in
set_option maxHeartbeats 1000000 in
theorem open_ok : FnOk Try.prog 66 [trA nm ps] (fun q => q = .tuple [trA nm ps, iA (chk nm ps).2]) := by
  refine fnOk_of (fn := Try.f66) 14 (by kernel_rfl) rfl (by kernel_rfl) (Nat.le_of_ble_eq_true rfl) ?_
  intro e_0 m_0 hA hm_0
  have s0_0 : evA e_0 (.tmp 0) = _ := hA 0 _ rfl
  have ml_0 : m_0.length = 0 := by rw [hm_0]; rfl
  clear hA hm_0
  refine aw_seq ?_
  refine aw_text (by kernel_rfl) ?_
  refine al_stm (st_box s0_0 rfl ml_0) trivial rfl (fun m_1 hm_1 => ?_)
  have mo0_1 := m_push hm_1 ml_0
  (try simp only [packA_t, packA_f, iE, bE, setAt, cellsA, Value.cells, map_vc, map_vn, Nat.reduceAdd, qS] at mo0_1)
  have ml_1 := m_push_l hm_1 ml_0
  have ml_1 : _ = 1 := ml_1
  clear hm_1
  refine al_stm (st_alloc k4_az105 rfl ml_1) trivial rfl (fun m_2 hm_2 => ?_)
  have mo1_2 := m_push hm_2 ml_1
  (try simp only [packA_t, packA_f, iE, bE, setAt, cellsA, Value.cells, map_vc, map_vn, Nat.reduceAdd, qS] at mo1_2)
  have mo0_2 := m_push_o hm_2 mo0_1
  have ml_2 := m_push_l hm_2 ml_1
  have ml_2 : _ = 2 := ml_2
  clear hm_2 mo0_1
  refine al_ro' (ro_assign ev_c) trivial rfl ?_
  refine al_end (fun e_3 he_3 => ?_)
  have s1_3 := ef 1 he_3 (u2 rfl up_h)
  have s2_3 := ef 2 he_3 (up_m rfl up_h)
  clear he_3 s0_0
  refine then_n ?_
  refine aw_seq ?_
  refine aw_text (by kernel_rfl) ?_
  refine al_ro' (ro_eq (ro_ld_ptr k4_ty51 rfl mo0_2 s1_3 (by first | exact Nat.le_of_ble_eq_true rfl | omega | (simp only [lnS] <;> omega) | (simp <;> omega))) (by first | (simp only [packA_t, packA_f, iE, bE, setAt, cellsA, Value.cells, map_vc, map_vn, Nat.reduceAdd, qS] <;> rfl) | rfl)) trivial rfl ?_
  refine al_ro' (ro_call (evL_cons up_h evL_nil) rfl (checkTrack_ok nm ps hs hp) k4_hcf86) trivial rfl ?_
  refine al_ro' (ro_move up_h) trivial rfl ?_
  refine al_ro' (ro_extract up_h rfl) trivial rfl ?_
  refine al_ro' (ro_extract (up_m rfl up_h) rfl) trivial rfl ?_
  refine al_ro' (ro_assign (up_m rfl up_h)) trivial rfl ?_
  refine al_ro' (ro_assign (up_m rfl up_h)) trivial rfl ?_
  refine al_end (fun e_4 he_4 => ?_)
  have s1_4 := ef 1 he_4 (up_m rfl (u2 rfl (u4 rfl s1_3)))
  have s2_4 := ef 2 he_4 (up_m rfl (u2 rfl (u4 rfl s2_3)))
  have s5_4 := ef 5 he_4 up_h
  clear he_4 s1_3 s2_3
  refine then_n ?_
  refine aw_seq ?_
  refine aw_text (by kernel_rfl) ?_
  refine al_ro' (ro_eq (ro_ld_ptr k4_ty51 rfl mo0_2 s1_4 (by first | exact Nat.le_of_ble_eq_true rfl | omega | (simp only [lnS] <;> omega) | (simp <;> omega))) (by first | (simp only [packA_t, packA_f, iE, bE, setAt, cellsA, Value.cells, map_vc, map_vn, Nat.reduceAdd, qS] <;> rfl) | rfl)) trivial rfl ?_
  refine al_ro' (ro_build (evP_cons up_h evP_nil) k4_bz105 k4_bu105 k4_bp105 rfl) trivial rfl ?_
  refine al_ro' (ro_move (u2 rfl s5_4)) trivial rfl ?_
  refine al_stm (st_store (up_m rfl (u2 rfl s2_4)) (up_m rfl up_h) rfl rfl mo1_2 k4_sz105 rfl (by first | exact Nat.le_of_ble_eq_true rfl | omega | (simp only [lnS] <;> omega) | (simp <;> omega))) trivial rfl (fun m_5 hm_5 => ?_)
  have mo1_5 := m_set hm_5 mo1_2
  (try simp only [packA_t, packA_f, iE, bE, setAt, cellsA, Value.cells, map_vc, map_vn, Nat.reduceAdd, qS] at mo1_5)
  have mo0_5 := m_set_o hm_5 mo0_2 (by decide)
  have ml_5 := m_set_l hm_5 ml_2
  clear hm_5 mo1_2 mo0_2
  refine al_ro' (ro_assign (up_n up_h)) trivial rfl ?_
  refine al_end (fun e_6 he_6 => ?_)
  have s2_6 := ef 2 he_6 (up_m rfl (up_n (up_m rfl (u2 rfl s2_4))))
  have s3_6 := ef 3 he_6 up_h
  clear he_6 s1_4 s2_4 s5_4
  refine then_n ?_
  refine aw_ret ?_
  refine ret2 (.inr rfl) (by kernel_rfl) (resV_cell s2_6 mo1_5 k4_ty105 (by first | exact Nat.le_of_ble_eq_true rfl | omega | (simp only [lnS] <;> omega) | (simp <;> omega)) (by simp)) (resV_tmp s3_6) (vw_r (.ro _ rfl)) (.ro _ rfl) ?_
  clear s2_6 s3_6 mo1_5 mo0_5 ml_5
  rfl
set_option maxRecDepth 100000 in
set_option maxHeartbeats 1000000 in
theorem openRide_ok (b d v : Int) : FnOk Try.prog 55 [trA nm ps, syA b d v] (fun q => q = .tuple [riA nm ps b d v, iA (firstE [(chk nm ps).2, sysE b d v])]) := by
  refine fnOk_of (fn := Try.f55) 21 (by kernel_rfl) rfl (by kernel_rfl) (Nat.le_of_ble_eq_true rfl) ?_
  intro e_0 m_0 hA hm_0
  have s0_0 : evA e_0 (.tmp 0) = _ := hA 0 _ rfl
  have s1_0 : evA e_0 (.tmp 1) = _ := hA 1 _ rfl
  have ml_0 : m_0.length = 0 := by rw [hm_0]; rfl
  clear hA hm_0
  refine aw_seq ?_
  refine aw_text (by kernel_rfl) ?_
  refine al_stm (st_box s0_0 rfl ml_0) trivial rfl (fun m_1 hm_1 => ?_)
  have mo0_1 := m_push hm_1 ml_0
  (try simp only [packA_t, packA_f, iE, bE, setAt, cellsA, Value.cells, map_vc, map_vn, Nat.reduceAdd, qS] at mo0_1)
  have ml_1 := m_push_l hm_1 ml_0
  have ml_1 : _ = 1 := ml_1
  clear hm_1
  refine al_stm (st_box (up_m rfl s1_0) rfl ml_1) trivial rfl (fun m_2 hm_2 => ?_)
  have mo1_2 := m_push hm_2 ml_1
  (try simp only [packA_t, packA_f, iE, bE, setAt, cellsA, Value.cells, map_vc, map_vn, Nat.reduceAdd, qS] at mo1_2)
  have mo0_2 := m_push_o hm_2 mo0_1
  have ml_2 := m_push_l hm_2 ml_1
  have ml_2 : _ = 2 := ml_2
  clear hm_2 mo0_1
  refine al_stm (st_alloc k4_az107 rfl ml_2) trivial rfl (fun m_3 hm_3 => ?_)
  have mo2_3 := m_push hm_3 ml_2
  (try simp only [packA_t, packA_f, iE, bE, setAt, cellsA, Value.cells, map_vc, map_vn, Nat.reduceAdd, qS] at mo2_3)
  have mo1_3 := m_push_o hm_3 mo1_2
  have mo0_3 := m_push_o hm_3 mo0_2
  have ml_3 := m_push_l hm_3 ml_2
  have ml_3 : _ = 3 := ml_3
  clear hm_3 mo1_2 mo0_2
  refine al_ro' (ro_assign ev_c) trivial rfl ?_
  refine al_end (fun e_4 he_4 => ?_)
  have s2_4 := ef 2 he_4 (up_m rfl (u2 rfl up_h))
  have s3_4 := ef 3 he_4 (u2 rfl up_h)
  have s4_4 := ef 4 he_4 (up_m rfl up_h)
  clear he_4 s0_0 s1_0
  refine then_n ?_
  refine aw_seq ?_
  refine aw_text (by kernel_rfl) ?_
  refine al_ro' (ro_eq (ro_ld_ptr k4_ty51 rfl mo0_3 s2_4 (by first | exact Nat.le_of_ble_eq_true rfl | omega | (simp only [lnS] <;> omega) | (simp <;> omega))) (by first | (simp only [packA_t, packA_f, iE, bE, setAt, cellsA, Value.cells, map_vc, map_vn, Nat.reduceAdd, qS] <;> rfl) | rfl)) trivial rfl ?_
  refine al_ro' (ro_call (evL_cons up_h evL_nil) rfl (open_ok nm ps hs hp) k4_hcf66) trivial rfl ?_
  refine al_ro' (ro_move up_h) trivial rfl ?_
  refine al_ro' (ro_extract up_h rfl) trivial rfl ?_
  refine al_ro' (ro_extract (up_m rfl up_h) rfl) trivial rfl ?_
  refine al_stm (st_alloc k4_az105 rfl ml_3) trivial rfl (fun m_5 hm_5 => ?_)
  have mo3_5 := m_push hm_5 ml_3
  (try simp only [packA_t, packA_f, iE, bE, setAt, cellsA, Value.cells, map_vc, map_vn, Nat.reduceAdd, qS] at mo3_5)
  have mo2_5 := m_push_o hm_5 mo2_3
  have mo1_5 := m_push_o hm_5 mo1_3
  have mo0_5 := m_push_o hm_5 mo0_3
  have ml_5 := m_push_l hm_5 ml_3
  have ml_5 : _ = 4 := ml_5
  clear hm_5 mo2_3 mo1_3 mo0_3
  refine al_stm (st_store up_h (u2 rfl up_h) rfl rfl mo3_5 k4_sz105 rfl (by first | exact Nat.le_of_ble_eq_true rfl | omega | (simp only [lnS] <;> omega) | (simp <;> omega))) trivial rfl (fun m_6 hm_6 => ?_)
  have mo3_6 := m_set hm_6 mo3_5
  (try simp only [packA_t, packA_f, iE, bE, setAt, cellsA, Value.cells, map_vc, map_vn, Nat.reduceAdd, qS] at mo3_6)
  have mo2_6 := m_set_o hm_6 mo2_5 (by decide)
  have mo1_6 := m_set_o hm_6 mo1_5 (by decide)
  have mo0_6 := m_set_o hm_6 mo0_5 (by decide)
  have ml_6 := m_set_l hm_6 ml_5
  clear hm_6 mo3_5 mo2_5 mo1_5 mo0_5
  refine al_ro' (ro_assign (up_n (up_m rfl up_h))) trivial rfl ?_
  refine al_end (fun e_7 he_7 => ?_)
  have s3_7 := ef 3 he_7 (up_m rfl (up_n (u2 rfl (u4 rfl s3_4))))
  have s4_7 := ef 4 he_7 (up_m rfl (up_n (u2 rfl (u4 rfl s4_4))))
  have s6_7 := ef 6 he_7 (up_m rfl (up_n up_h))
  have s7_7 := ef 7 he_7 up_h
  clear he_7 s2_4 s3_4 s4_4
  refine then_n ?_
  refine aw_seq ?_
  refine aw_draw 8 (by kernel_rfl) (by kernel_rfl) (by kernel_rfl) (by kernel_rfl) ?_
  refine ds_ro' (ro_eq (ro_ld_ptr k4_ty105 rfl mo3_6 s6_7 (by first | exact Nat.le_of_ble_eq_true rfl | omega | (simp only [lnS] <;> omega) | (simp <;> omega))) (by first | (simp only [packA_t, packA_f, iE, bE, setAt, cellsA, Value.cells, map_vc, map_vn, Nat.reduceAdd, qS] <;> rfl) | rfl)) trivial rfl ?_
  refine ds_ro' (ro_eq (ro_ld_ptr k4_ty53 rfl mo1_6 (up_m rfl s3_7) (by first | exact Nat.le_of_ble_eq_true rfl | omega | (simp only [lnS] <;> omega) | (simp <;> omega))) (by first | (simp only [packA_t, packA_f, iE, bE, setAt, cellsA, Value.cells, map_vc, map_vn, Nat.reduceAdd, qS] <;> rfl) | rfl)) trivial rfl ?_
  refine ds_ro' (ro_build (evP_cons (up_m rfl up_h) (evP_cons up_h evP_nil)) k4_bz107 k4_bu107 k4_bp107 rfl) trivial rfl ?_
  refine ds_ro' (ro_move (up_m rfl (u2 rfl s7_7))) trivial rfl ?_
  refine ds_ro' (ro_eq (ro_ld_ptr k4_ty53 rfl mo1_6 (u4 rfl s3_7) (by first | exact Nat.le_of_ble_eq_true rfl | omega | (simp only [lnS] <;> omega) | (simp <;> omega))) (by first | (simp only [packA_t, packA_f, iE, bE, setAt, cellsA, Value.cells, map_vc, map_vn, Nat.reduceAdd, qS] <;> rfl) | rfl)) trivial rfl ?_
  refine ds_ro' (ro_call (evL_cons up_h evL_nil) rfl (checkSystem_ok b d v) k4_hcf80) trivial rfl ?_
  refine ds_ro' (ro_lit k4_sl126 (evP_cons (u2 rfl up_h) (evP_cons up_h evP_nil)) rfl rfl rfl rfl) trivial rfl ?_
  refine ds_ro' (ro_call (evL_cons up_h evL_nil) rfl (first_ok [_, _] (by simp)) k4_hcf56) trivial rfl ?_
  refine ds_nil ?_
  refine al_stm (st_store (u8 rfl s4_7) (up_m rfl (u4 rfl up_h)) rfl rfl mo2_6 k4_sz107 rfl (by first | exact Nat.le_of_ble_eq_true rfl | omega | (simp only [lnS] <;> omega) | (simp <;> omega))) trivial rfl (fun m_8 hm_8 => ?_)
  have mo2_8 := m_set hm_8 mo2_6
  (try simp only [packA_t, packA_f, iE, bE, setAt, cellsA, Value.cells, map_vc, map_vn, Nat.reduceAdd, qS] at mo2_8)
  have mo3_8 := m_set_o hm_8 mo3_6 (by decide)
  have mo1_8 := m_set_o hm_8 mo1_6 (by decide)
  have mo0_8 := m_set_o hm_8 mo0_6 (by decide)
  have ml_8 := m_set_l hm_8 ml_6
  clear hm_8 mo3_6 mo2_6 mo1_6 mo0_6
  refine al_ro' (ro_assign (up_n up_h)) trivial rfl ?_
  refine al_end (fun e_9 he_9 => ?_)
  have s4_9 := ef 4 he_9 (up_m rfl (up_n (u8 rfl s4_7)))
  have s5_9 := ef 5 he_9 up_h
  clear he_9 s3_7 s4_7 s6_7 s7_7
  refine then_n ?_
  refine aw_ret ?_
  refine ret2 (.inr rfl) (by kernel_rfl) (resV_cell s4_9 mo2_8 k4_ty107 (by first | exact Nat.le_of_ble_eq_true rfl | omega | (simp only [lnS] <;> omega) | (simp <;> omega)) (by simp)) (resV_tmp s5_9) (vw_r (.ro _ rfl)) (.ro _ rfl) ?_
  clear s4_9 s5_9 mo2_8 mo3_8 mo1_8 mo0_8 ml_8
  rfl
end
set_option maxRecDepth 100000 in
set_option maxHeartbeats 1000000 in
theorem last_ok (nm : ByteArray) (ps : List Piece) : FnOk Try.prog 61 [trA nm ps] (fun q => q = iA ps.length) := by
  refine fnOk_of (fn := Try.f61) 7 (by kernel_rfl) rfl (by kernel_rfl) (Nat.le_of_ble_eq_true rfl) ?_
  intro e_0 m_0 hA hm_0
  have s0_0 : evA e_0 (.tmp 0) = _ := hA 0 _ rfl
  have ml_0 : m_0.length = 0 := by rw [hm_0]; rfl
  clear hA hm_0
  refine aw_seq ?_
  refine aw_text (by kernel_rfl) ?_
  refine al_stm (st_box s0_0 rfl ml_0) trivial rfl (fun m_1 hm_1 => ?_)
  have mo0_1 := m_push hm_1 ml_0
  (try simp only [packA_t, packA_f, iE, bE, setAt, cellsA, Value.cells, map_vc, map_vn, Nat.reduceAdd, qS] at mo0_1)
  have ml_1 := m_push_l hm_1 ml_0
  have ml_1 : _ = 1 := ml_1
  clear hm_1
  refine al_ro' (ro_assign ev_c) trivial rfl ?_
  refine al_end (fun e_2 he_2 => ?_)
  have s1_2 := ef 1 he_2 (up_m rfl up_h)
  clear he_2 s0_0
  refine then_n ?_
  refine aw_seq ?_
  refine aw_text (by kernel_rfl) ?_
  refine al_ro' (ro_fld_ptr k4_fl105_0 rfl s1_2) trivial rfl ?_
  refine al_ro' (ro_fld_ptr k4_fl51_1 rfl up_h) trivial rfl ?_
  refine al_ro' (ro_eq (ro_ld_ptr k4_ty49 rfl mo0_1 up_h (by first | exact Nat.le_of_ble_eq_true rfl | omega | (simp only [lnS] <;> omega) | (simp <;> omega))) (by first | (simp only [packA_t, packA_f, iE, bE, setAt, cellsA, Value.cells, map_vc, map_vn, Nat.reduceAdd, qS] <;> rfl) | rfl)) trivial rfl ?_
  refine al_ro' (ro_eq (ro_len_row up_h rfl k4_sl49.1) (by first | (simp only [lnS] <;> rfl) | rfl)) trivial rfl ?_
  refine al_ro' (ro_assign up_h) trivial rfl ?_
  refine al_end (fun e_3 he_3 => ?_)
  have s2_3 := ef 2 he_3 up_h
  clear he_3 s1_2
  refine then_n ?_
  refine aw_ret ?_
  refine ret1 (.inr rfl) (by kernel_rfl) (resV_tmp s2_3) (.ro _ rfl) ?_
  clear s2_3 mo0_1 ml_1
  rfl
/-- All pieces are right. -/
def Ok (ps : List Piece) : Prop := ∀ p ∈ ps, pieceB p = true
theorem Ok.at {ps : List Piece} (h : Ok ps) (i : Nat) : (0 ≤ (ps.getD i default).len ∧ (ps.getD i default).len ≤ 10000000) ∧ (-100 ≤ (ps.getD i default).grad ∧ (ps.getD i default).grad ≤ 100) ∧ (0 ≤ (ps.getD i default).lim ∧ (ps.getD i default).lim ≤ 20000000000) := by
  by_cases hi : i < ps.length
  · have e : ps.getD i default = ps[i] := by simp [List.getD_eq_getElem?_getD, hi]
    have := h ps[i] (List.getElem_mem hi)
    rw [e]
    simp only [pieceB, withinB, Bool.and_eq_true, decide_eq_true_eq] at this
    omega
  · have e : ps.getD i default = default := by simp [List.getD_eq_getElem?_getD, List.getElem?_eq_none (Nat.le_of_not_lt hi)]
    rw [e]
    decide
def losW (dec : Int) (p : Piece) : Int := 2 * (dec + 10 * p.grad) * p.len
theorem los_bound {dec : Int} {p : Piece} (hd : -3000 ≤ dec ∧ dec ≤ 3000) (hl : 0 ≤ p.len ∧ p.len ≤ 10000000) (hg : -100 ≤ p.grad ∧ p.grad ≤ 100) : -80000000000 ≤ losW dec p ∧ losW dec p ≤ 80000000000 := by
  unfold losW
  have h1 : -8000 ≤ 2 * (dec + 10 * p.grad) ∧ 2 * (dec + 10 * p.grad) ≤ 8000 := by omega
  generalize 2 * (dec + 10 * p.grad) = a at h1
  have h2 : a * p.len ≤ 8000 * p.len := Int.mul_le_mul_of_nonneg_right h1.2 hl.1
  have h3 : -8000 * p.len ≤ a * p.len := Int.mul_le_mul_of_nonneg_right h1.1 hl.1
  omega
section
variable (nm : ByteArray) (ps : List Piece) (hok : Ok ps) (b d v : Int) (i : Int) (h0 : 0 ≤ i) (h1 : i < ps.length)
include hok h0 h1
set_option maxRecDepth 100000 in
set_option maxHeartbeats 1000000 in
theorem loses_ok (dec : Int) (hd : -3000 ≤ dec ∧ dec ≤ 3000) : FnOk Try.prog 83 [riA nm ps b d v, iA dec, iA i] (fun q => q = iA (losW dec (ps.getD i.toNat default))) := by
  obtain ⟨hl, hg, _⟩ := hok.at i.toNat
  have hb := los_bound hd hl hg
  unfold losW at hb
  refine fnOk_of (fn := Try.f83) 24 (by kernel_rfl) rfl (by kernel_rfl) (Nat.le_of_ble_eq_true rfl) ?_
  intro e_0 m_0 hA hm_0
  have s0_0 : evA e_0 (.tmp 0) = _ := hA 0 _ rfl
  have s1_0 : evA e_0 (.tmp 1) = _ := hA 1 _ rfl
  have s2_0 : evA e_0 (.tmp 2) = _ := hA 2 _ rfl
  have ml_0 : m_0.length = 0 := by rw [hm_0]; rfl
  clear hA hm_0
  refine aw_seq ?_
  refine aw_text (by kernel_rfl) ?_
  refine al_stm (st_box s0_0 rfl ml_0) trivial rfl (fun m_1 hm_1 => ?_)
  have mo0_1 := m_push hm_1 ml_0
  (try simp only [packA_t, packA_f, iE, bE, setAt, cellsA, Value.cells, map_vc, map_vn, Nat.reduceAdd, qS, pE] at mo0_1)
  have ml_1 := m_push_l hm_1 ml_0
  have ml_1 : _ = 1 := ml_1
  clear hm_1
  refine al_ro' (ro_assign ev_c) trivial rfl ?_
  refine al_end (fun e_2 he_2 => ?_)
  have s1_2 := ef 1 he_2 (u2 rfl s1_0)
  have s2_2 := ef 2 he_2 (u2 rfl s2_0)
  have s3_2 := ef 3 he_2 (up_m rfl up_h)
  clear he_2 s0_0 s1_0 s2_0
  refine then_n ?_
  refine aw_seq ?_
  refine aw_text (by kernel_rfl) ?_
  refine al_ro' (ro_fld_ptr k4_fl107_0 rfl s3_2) trivial rfl ?_
  refine al_ro' (ro_fld_ptr k4_fl105_0 rfl up_h) trivial rfl ?_
  refine al_ro' (ro_fld_ptr k4_fl51_1 rfl up_h) trivial rfl ?_
  refine al_ro' (ro_eq (ro_ld_ptr k4_ty49 rfl mo0_1 up_h (by first | exact Nat.le_of_ble_eq_true rfl | omega | (simp only [lnS] <;> omega) | (simp <;> omega))) (by first | (simp only [packA_t, packA_f, iE, bE, setAt, cellsA, Value.cells, map_vc, map_vn, Nat.reduceAdd, qS, pE] <;> rfl) | rfl)) trivial rfl ?_
  refine al_ro' (ro_move (u4 rfl s2_2)) trivial rfl ?_
  refine al_ro' (ro_eq (ro_ix k4_sl49 (up_m rfl up_h) up_h (by first | decide | omega | (simp <;> omega)) (by first | (refine idx_map ?_; first | omega | (simp only [lnS]; omega)) | (refine idx_mapI ?_; first | omega | (simp only [lnS]; omega)) | (refine idx_mapN ?_; first | omega | (simp only [lnS]; omega)) | rfl)) (by first | (simp only [packA_t, packA_f, iE, bE, setAt, cellsA, Value.cells, map_vc, map_vn, Nat.reduceAdd, qS, pE] <;> rfl) | rfl)) trivial rfl ?_
  refine al_ro' (ro_eq (ro_ld_ref k4_ty118 rfl up_h (by first | exact Nat.le_of_ble_eq_true rfl | omega | (simp only [lnS] <;> omega) | (simp <;> omega))) (by first | (simp only [packA_t, packA_f, iE, bE, setAt, cellsA, Value.cells, map_vc, map_vn, Nat.reduceAdd, qS, pE] <;> rfl) | rfl)) trivial rfl ?_
  refine al_stm (st_alloc k4_az118 rfl ml_1) trivial rfl (fun m_3 hm_3 => ?_)
  have mo1_3 := m_push hm_3 ml_1
  (try simp only [packA_t, packA_f, iE, bE, setAt, cellsA, Value.cells, map_vc, map_vn, Nat.reduceAdd, qS, pE] at mo1_3)
  have mo0_3 := m_push_o hm_3 mo0_1
  have ml_3 := m_push_l hm_3 ml_1
  have ml_3 : _ = 2 := ml_3
  clear hm_3 mo0_1
  refine al_stm (st_store up_h (up_m rfl up_h) rfl rfl mo1_3 k4_sz118 rfl (by first | exact Nat.le_of_ble_eq_true rfl | omega | (simp only [lnS] <;> omega) | (simp <;> omega))) trivial rfl (fun m_4 hm_4 => ?_)
  have mo1_4 := m_set hm_4 mo1_3
  (try simp only [packA_t, packA_f, iE, bE, setAt, cellsA, Value.cells, map_vc, map_vn, Nat.reduceAdd, qS, pE] at mo1_4)
  have mo0_4 := m_set_o hm_4 mo0_3 (by decide)
  have ml_4 := m_set_l hm_4 ml_3
  clear hm_4 mo1_3 mo0_3
  refine al_end (fun e_5 he_5 => ?_)
  have s1_5 := ef 1 he_5 (up_n (u8 rfl s1_2))
  have s7_5 := ef 7 he_5 (up_n up_h)
  clear he_5 s1_2 s2_2 s3_2
  refine then_n ?_
  refine aw_seq ?_
  refine aw_text (by kernel_rfl) ?_
  refine al_ro' (ro_move s1_5) trivial rfl ?_
  refine al_ro' (ro_fld_ptr k4_fl118_1 rfl (up_m rfl s7_5)) trivial rfl ?_
  refine al_ro' (ro_eq (ro_ld_ptr k4_ty3 rfl mo1_4 up_h (by first | exact Nat.le_of_ble_eq_true rfl | omega | (simp only [lnS] <;> omega) | (simp <;> omega))) (by first | (simp only [packA_t, packA_f, iE, bE, setAt, cellsA, Value.cells, map_vc, map_vn, Nat.reduceAdd, qS, pE] <;> rfl) | rfl)) trivial rfl ?_
  first | (refine al_ro' (ro_mul' ev_c up_h ?_) trivial rfl ?_; · (unfold In64; omega)) | refine al_ro' (ro_mul ev_c up_h) trivial rfl ?_
  first | (refine al_ro' (ro_add' (up_m rfl (u2 rfl up_h)) up_h ?_) trivial rfl ?_; · (unfold In64; omega)) | refine al_ro' (ro_add (up_m rfl (u2 rfl up_h)) up_h) trivial rfl ?_
  first | (refine al_ro' (ro_mul' ev_c up_h ?_) trivial rfl ?_; · (unfold In64; omega)) | refine al_ro' (ro_mul ev_c up_h) trivial rfl ?_
  refine al_ro' (ro_fld_ptr k4_fl118_0 rfl (u2 rfl (u4 rfl s7_5))) trivial rfl ?_
  refine al_ro' (ro_eq (ro_ld_ptr k4_ty3 rfl mo1_4 up_h (by first | exact Nat.le_of_ble_eq_true rfl | omega | (simp only [lnS] <;> omega) | (simp <;> omega))) (by first | (simp only [packA_t, packA_f, iE, bE, setAt, cellsA, Value.cells, map_vc, map_vn, Nat.reduceAdd, qS, pE] <;> rfl) | rfl)) trivial rfl ?_
  first | (refine al_ro' (ro_mul' (u2 rfl up_h) up_h ?_) trivial rfl ?_; · (unfold In64; omega)) | refine al_ro' (ro_mul (u2 rfl up_h) up_h) trivial rfl ?_
  refine al_ro' (ro_assign up_h) trivial rfl ?_
  refine al_end (fun e_6 he_6 => ?_)
  have s6_6 := ef 6 he_6 up_h
  clear he_6 s1_5 s7_5
  refine then_n ?_
  refine aw_ret ?_
  refine ret1 (.inr rfl) (by kernel_rfl) (resV_tmp s6_6) (.ro _ rfl) ?_
  clear s6_6 mo1_4 mo0_4 ml_4
  rfl
set_option maxRecDepth 100000 in
set_option maxHeartbeats 1000000 in
theorem braked_ok (hb : 0 ≤ b ∧ b ≤ 3000) : FnOk Try.prog 65 [riA nm ps b d v, iA i] (fun q => q = iA (losW b (ps.getD i.toNat default))) := by
  refine fnOk_of (fn := Try.f65) 11 (by kernel_rfl) rfl (by kernel_rfl) (Nat.le_of_ble_eq_true rfl) ?_
  intro e_0 m_0 hA hm_0
  have s0_0 : evA e_0 (.tmp 0) = _ := hA 0 _ rfl
  have s1_0 : evA e_0 (.tmp 1) = _ := hA 1 _ rfl
  have ml_0 : m_0.length = 0 := by rw [hm_0]; rfl
  clear hA hm_0
  refine aw_seq ?_
  refine aw_text (by kernel_rfl) ?_
  refine al_stm (st_box s0_0 rfl ml_0) trivial rfl (fun m_1 hm_1 => ?_)
  have mo0_1 := m_push hm_1 ml_0
  (try simp only [packA_t, packA_f, iE, bE, setAt, cellsA, Value.cells, map_vc, map_vn, Nat.reduceAdd, qS] at mo0_1)
  have ml_1 := m_push_l hm_1 ml_0
  have ml_1 : _ = 1 := ml_1
  clear hm_1
  refine al_ro' (ro_assign ev_c) trivial rfl ?_
  refine al_end (fun e_2 he_2 => ?_)
  have s1_2 := ef 1 he_2 (u2 rfl s1_0)
  have s2_2 := ef 2 he_2 (up_m rfl up_h)
  clear he_2 s0_0 s1_0
  refine then_n ?_
  refine aw_seq ?_
  refine aw_text (by kernel_rfl) ?_
  refine al_ro' (ro_eq (ro_ld_ptr k4_ty107 rfl mo0_1 s2_2 (by first | exact Nat.le_of_ble_eq_true rfl | omega | (simp only [lnS] <;> omega) | (simp <;> omega))) (by first | (simp only [packA_t, packA_f, iE, bE, setAt, cellsA, Value.cells, map_vc, map_vn, Nat.reduceAdd, qS] <;> rfl) | rfl)) trivial rfl ?_
  refine al_ro' (ro_fld_ptr k4_fl107_1 rfl (up_m rfl s2_2)) trivial rfl ?_
  refine al_ro' (ro_fld_ptr k4_fl53_0 rfl up_h) trivial rfl ?_
  refine al_ro' (ro_eq (ro_ld_ptr k4_ty3 rfl mo0_1 up_h (by first | exact Nat.le_of_ble_eq_true rfl | omega | (simp only [lnS] <;> omega) | (simp <;> omega))) (by first | (simp only [packA_t, packA_f, iE, bE, setAt, cellsA, Value.cells, map_vc, map_vn, Nat.reduceAdd, qS] <;> rfl) | rfl)) trivial rfl ?_
  refine al_ro' (ro_move (u4 rfl s1_2)) trivial rfl ?_
  refine al_ro' (ro_call (evL_cons (u4 rfl up_h) (evL_cons (up_m rfl up_h) (evL_cons up_h evL_nil))) rfl (loses_ok nm ps hok b d v i h0 h1 b (by omega)) k4_hcf83) trivial rfl ?_
  refine al_ro' (ro_assign up_h) trivial rfl ?_
  refine al_end (fun e_3 he_3 => ?_)
  have s4_3 := ef 4 he_3 up_h
  clear he_3 s1_2 s2_2
  refine then_n ?_
  refine aw_ret ?_
  refine ret1 (.inr rfl) (by kernel_rfl) (resV_tmp s4_3) (.ro _ rfl) ?_
  clear s4_3 mo0_1 ml_1
  rfl
set_option maxRecDepth 100000 in
set_option maxHeartbeats 1000000 in
theorem coasting_ok (hb : 0 ≤ d ∧ d ≤ 3000) : FnOk Try.prog 90 [riA nm ps b d v, iA i] (fun q => q = iA (losW d (ps.getD i.toNat default))) := by
  refine fnOk_of (fn := Try.f90) 11 (by kernel_rfl) rfl (by kernel_rfl) (Nat.le_of_ble_eq_true rfl) ?_
  intro e_0 m_0 hA hm_0
  have s0_0 : evA e_0 (.tmp 0) = _ := hA 0 _ rfl
  have s1_0 : evA e_0 (.tmp 1) = _ := hA 1 _ rfl
  have ml_0 : m_0.length = 0 := by rw [hm_0]; rfl
  clear hA hm_0
  refine aw_seq ?_
  refine aw_text (by kernel_rfl) ?_
  refine al_stm (st_box s0_0 rfl ml_0) trivial rfl (fun m_1 hm_1 => ?_)
  have mo0_1 := m_push hm_1 ml_0
  (try simp only [packA_t, packA_f, iE, bE, setAt, cellsA, Value.cells, map_vc, map_vn, Nat.reduceAdd, qS] at mo0_1)
  have ml_1 := m_push_l hm_1 ml_0
  have ml_1 : _ = 1 := ml_1
  clear hm_1
  refine al_ro' (ro_assign ev_c) trivial rfl ?_
  refine al_end (fun e_2 he_2 => ?_)
  have s1_2 := ef 1 he_2 (u2 rfl s1_0)
  have s2_2 := ef 2 he_2 (up_m rfl up_h)
  clear he_2 s0_0 s1_0
  refine then_n ?_
  refine aw_seq ?_
  refine aw_text (by kernel_rfl) ?_
  refine al_ro' (ro_eq (ro_ld_ptr k4_ty107 rfl mo0_1 s2_2 (by first | exact Nat.le_of_ble_eq_true rfl | omega | (simp only [lnS] <;> omega) | (simp <;> omega))) (by first | (simp only [packA_t, packA_f, iE, bE, setAt, cellsA, Value.cells, map_vc, map_vn, Nat.reduceAdd, qS] <;> rfl) | rfl)) trivial rfl ?_
  refine al_ro' (ro_fld_ptr k4_fl107_1 rfl (up_m rfl s2_2)) trivial rfl ?_
  refine al_ro' (ro_fld_ptr k4_fl53_1 rfl up_h) trivial rfl ?_
  refine al_ro' (ro_eq (ro_ld_ptr k4_ty3 rfl mo0_1 up_h (by first | exact Nat.le_of_ble_eq_true rfl | omega | (simp only [lnS] <;> omega) | (simp <;> omega))) (by first | (simp only [packA_t, packA_f, iE, bE, setAt, cellsA, Value.cells, map_vc, map_vn, Nat.reduceAdd, qS] <;> rfl) | rfl)) trivial rfl ?_
  refine al_ro' (ro_move (u4 rfl s1_2)) trivial rfl ?_
  refine al_ro' (ro_call (evL_cons (u4 rfl up_h) (evL_cons (up_m rfl up_h) (evL_cons up_h evL_nil))) rfl (loses_ok nm ps hok b d v i h0 h1 d (by omega)) k4_hcf83) trivial rfl ?_
  refine al_ro' (ro_assign up_h) trivial rfl ?_
  refine al_end (fun e_3 he_3 => ?_)
  have s4_3 := ef 4 he_3 up_h
  clear he_3 s1_2 s2_2
  refine then_n ?_
  refine aw_ret ?_
  refine ret1 (.inr rfl) (by kernel_rfl) (resV_tmp s4_3) (.ro _ rfl) ?_
  clear s4_3 mo0_1 ml_1
  rfl
end
end Go.Proofs.Ytgiiedpambimoaa
