/- The law of the top on tracks one behind the other. No conditions on a program. -/
import Derived.Test.YtgiiedpambimoaaK43
namespace Go.Proofs.Ytgiiedpambimoaa
open Go Go.RowKit Go.Proofs
set_option linter.unusedSimpArgs false
set_option linter.unusedVariables false
theorem k44_az51 : (Try.prog.info? 51).bind (·.zero) = some (.agg #[.string ByteArray.empty, .slice none 0 0]) := by kernel_rfl
theorem k44_az53 : (Try.prog.info? 53).bind (·.zero) = some (.agg #[.int .i64 0, .int .i64 0, .int .i64 0]) := by kernel_rfl
theorem k44_bz118 : (Try.prog.info? 118).bind (·.zero) = some (.agg #[.int .i64 0, .int .i64 0, .int .i64 0, .bool false]) := by kernel_rfl
theorem k44_bu118 : Try.prog.underlying 118 = some (.struct (fsOf Try.prog 118)) := by kernel_rfl
theorem k44_bp118 : ∀ w, ((fsOf Try.prog 118).mapM fun f => Prod.mk f.offset <$> sizeOf f.type : Sem (Array (Nat × Nat))).run Try.prog w = .ok (#[(0, 1), (1, 1), (2, 1), (3, 1)]) w := fun _ => by kernel_rfl
theorem k44_bz51 : (Try.prog.info? 51).bind (·.zero) = some (.agg #[.string ByteArray.empty, .slice none 0 0]) := by kernel_rfl
theorem k44_bu51 : Try.prog.underlying 51 = some (.struct (fsOf Try.prog 51)) := by kernel_rfl
theorem k44_bp51 : ∀ w, ((fsOf Try.prog 51).mapM fun f => Prod.mk f.offset <$> sizeOf f.type : Sem (Array (Nat × Nat))).run Try.prog w = .ok (#[(0, 1), (1, 1)]) w := fun _ => by kernel_rfl
theorem k44_bz53 : (Try.prog.info? 53).bind (·.zero) = some (.agg #[.int .i64 0, .int .i64 0, .int .i64 0]) := by kernel_rfl
theorem k44_bu53 : Try.prog.underlying 53 = some (.struct (fsOf Try.prog 53)) := by kernel_rfl
theorem k44_bp53 : ∀ w, ((fsOf Try.prog 53).mapM fun f => Prod.mk f.offset <$> sizeOf f.type : Sem (Array (Nat × Nat))).run Try.prog w = .ok (#[(0, 1), (1, 1), (2, 1)]) w := fun _ => by kernel_rfl
theorem k44_bz68 : (Try.prog.info? 68).bind (·.zero) = some (.agg #[.int .i64 0, .int .i64 0]) := by kernel_rfl
theorem k44_bu68 : Try.prog.underlying 68 = some (.struct (fsOf Try.prog 68)) := by kernel_rfl
theorem k44_bp68 : ∀ w, ((fsOf Try.prog 68).mapM fun f => Prod.mk f.offset <$> sizeOf f.type : Sem (Array (Nat × Nat))).run Try.prog w = .ok (#[(0, 1), (1, 1)]) w := fun _ => by kernel_rfl
theorem k44_fl51_0 : FldIs Try.prog 51 0 0 false 1 := by unfold FldIs; kernel_rfl
theorem k44_fl51_1 : FldIs Try.prog 51 1 1 false 1 := by unfold FldIs; kernel_rfl
theorem k44_hcf33 : ∀ args w, (callFunc 33 args).run Try.prog w = .ok (.enter 33 args) w := fun _ _ => by kernel_rfl
theorem k44_hcf34 : ∀ args w, (callFunc 34 args).run Try.prog w = .ok (.enter 34 args) w := fun _ _ => by kernel_rfl
theorem k44_hcf35 : ∀ args w, (callFunc 35 args).run Try.prog w = .ok (.enter 35 args) w := fun _ _ => by kernel_rfl
theorem k44_hcf36 : ∀ args w, (callFunc 36 args).run Try.prog w = .ok (.enter 36 args) w := fun _ _ => by kernel_rfl
theorem k44_sl22 : SlIs Try.prog 22 3 1 8 (.int .i64 0) := ⟨by kernel_rfl, by kernel_rfl, by kernel_rfl⟩
theorem k44_sl49 : SlIs Try.prog 49 118 4 32 (.agg #[.int .i64 0, .int .i64 0, .int .i64 0, .bool false]) := ⟨by kernel_rfl, by kernel_rfl, by kernel_rfl⟩
theorem k44_sz51 : (Try.prog.info? 51).map (·.size) = some 2 := by kernel_rfl
theorem k44_sz53 : (Try.prog.info? 53).map (·.size) = some 3 := by kernel_rfl
theorem k44_ty49 : TyIs Try.prog 49 false 1 := ⟨by kernel_rfl, by kernel_rfl⟩
theorem k44_ty51 : TyIs Try.prog 51 true 2 := ⟨by kernel_rfl, by kernel_rfl⟩
theorem k44_ty53 : TyIs Try.prog 53 true 3 := ⟨by kernel_rfl, by kernel_rfl⟩
theorem k44_ty9 : TyIs Try.prog 9 false 1 := ⟨by kernel_rfl, by kernel_rfl⟩
theorem k44_un9 : Try.prog.underlying 9 = some .string := by kernel_rfl

set_option maxRecDepth 100000 in
set_option maxHeartbeats 1000000 in
theorem bAwake_ok : FnOk Try.prog 27 [] (fun q => q = bA true) := by
  refine fnOk_of (fn := Try.f27) 43 (by kernel_rfl) rfl (by kernel_rfl) (Nat.le_of_ble_eq_true rfl) ?_
  intro e_0 m_0 hA hm_0
  have ml_0 : m_0.length = 0 := by rw [hm_0]; rfl
  clear hA hm_0
  refine aw_seq ?_
  refine aw_text (by kernel_rfl) ?_
  refine al_ro' (ro_assign ev_c) trivial rfl ?_
  refine al_end (fun e_1 he_1 => ?_)
  clear he_1
  refine then_n ?_
  refine aw_seq ?_
  refine aw_text (by kernel_rfl) ?_
  refine al_ro' (ro_build (evP_cons ev_c (evP_cons ev_c evP_nil)) k44_bz118 k44_bu118 k44_bp118 rfl) trivial rfl ?_
  refine al_ro' (ro_build (evP_cons ev_c (evP_cons ev_c (evP_cons ev_c evP_nil))) k44_bz118 k44_bu118 k44_bp118 rfl) trivial rfl ?_
  refine al_ro' (ro_build (evP_cons ev_c (evP_cons ev_c (evP_cons ev_c evP_nil))) k44_bz118 k44_bu118 k44_bp118 rfl) trivial rfl ?_
  refine al_ro' (ro_build (evP_cons ev_c (evP_cons ev_c (evP_cons ev_c evP_nil))) k44_bz118 k44_bu118 k44_bp118 rfl) trivial rfl ?_
  refine al_ro' (ro_lit k44_sl49 (evP_cons (up_m rfl (u2 rfl up_h)) (evP_cons (u2 rfl up_h) (evP_cons (up_m rfl up_h) (evP_cons up_h evP_nil)))) rfl rfl rfl rfl) trivial rfl ?_
  refine al_ro' (ro_build (evP_cons ev_c (evP_cons up_h evP_nil)) k44_bz51 k44_bu51 k44_bp51 rfl) trivial rfl ?_
  refine al_stm (st_alloc k44_az51 rfl ml_0) trivial rfl (fun m_2 hm_2 => ?_)
  have mo0_2 := m_push hm_2 ml_0
  (try simp only [packA_t, packA_f, iE, bE, setAt, cellsA, Value.cells, map_vc, map_vn, Nat.reduceAdd, qS] at mo0_2)
  have ml_2 := m_push_l hm_2 ml_0
  have ml_2 : _ = 1 := ml_2
  clear hm_2
  refine al_stm (st_store up_h (up_m rfl up_h) rfl rfl mo0_2 k44_sz51 rfl (by first | exact Nat.le_of_ble_eq_true rfl | omega | (simp only [lnS] <;> omega) | (simp <;> omega))) trivial rfl (fun m_3 hm_3 => ?_)
  have mo0_3 := m_set hm_3 mo0_2
  (try simp only [packA_t, packA_f, iE, bE, setAt, cellsA, Value.cells, map_vc, map_vn, Nat.reduceAdd, qS] at mo0_3)
  have ml_3 := m_set_l hm_3 ml_2
  clear hm_3 mo0_2
  refine al_end (fun e_4 he_4 => ?_)
  have s1_4 := ef 1 he_4 (up_n up_h)
  clear he_4
  refine then_n ?_
  refine aw_seq ?_
  refine aw_text (by kernel_rfl) ?_
  refine al_ro' (ro_build (evP_cons ev_c (evP_cons ev_c (evP_cons ev_c evP_nil))) k44_bz53 k44_bu53 k44_bp53 rfl) trivial rfl ?_
  refine al_stm (st_alloc k44_az53 rfl ml_3) trivial rfl (fun m_5 hm_5 => ?_)
  have mo1_5 := m_push hm_5 ml_3
  (try simp only [packA_t, packA_f, iE, bE, setAt, cellsA, Value.cells, map_vc, map_vn, Nat.reduceAdd, qS] at mo1_5)
  have mo0_5 := m_push_o hm_5 mo0_3
  have ml_5 := m_push_l hm_5 ml_3
  have ml_5 : _ = 2 := ml_5
  clear hm_5 mo0_3
  refine al_stm (st_store up_h (up_m rfl up_h) rfl rfl mo1_5 k44_sz53 rfl (by first | exact Nat.le_of_ble_eq_true rfl | omega | (simp only [lnS] <;> omega) | (simp <;> omega))) trivial rfl (fun m_6 hm_6 => ?_)
  have mo1_6 := m_set hm_6 mo1_5
  (try simp only [packA_t, packA_f, iE, bE, setAt, cellsA, Value.cells, map_vc, map_vn, Nat.reduceAdd, qS] at mo1_6)
  have mo0_6 := m_set_o hm_6 mo0_5 (by decide)
  have ml_6 := m_set_l hm_6 ml_5
  clear hm_6 mo1_5 mo0_5
  refine al_end (fun e_7 he_7 => ?_)
  have s1_7 := ef 1 he_7 (up_n (u2 rfl s1_4))
  have s2_7 := ef 2 he_7 (up_n up_h)
  clear he_7 s1_4
  refine then_n ?_
  refine aw_seq ?_
  refine aw_text (by kernel_rfl) ?_
  refine al_ro' (ro_eq (ro_ld_ptr k44_ty51 rfl mo0_6 s1_7 (by first | exact Nat.le_of_ble_eq_true rfl | omega | (simp only [lnS] <;> omega) | (simp <;> omega))) (by first | (simp only [packA_t, packA_f, iE, bE, setAt, cellsA, Value.cells, map_vc, map_vn, Nat.reduceAdd, qS] <;> rfl) | rfl)) trivial rfl ?_
  refine al_ro' (ro_eq (ro_ld_ptr k44_ty53 rfl mo1_6 (up_m rfl s2_7) (by first | exact Nat.le_of_ble_eq_true rfl | omega | (simp only [lnS] <;> omega) | (simp <;> omega))) (by first | (simp only [packA_t, packA_f, iE, bE, setAt, cellsA, Value.cells, map_vc, map_vn, Nat.reduceAdd, qS] <;> rfl) | rfl)) trivial rfl ?_
  refine al_ro' (ro_call (evL_cons (up_m rfl up_h) (evL_cons up_h (evL_cons ev_c evL_nil))) rfl (curve0_ok) k44_hcf34) trivial rfl ?_
  refine al_ro' (ro_move up_h) trivial rfl ?_
  refine al_ro' (ro_extract up_h rfl) trivial rfl ?_
  refine al_ro' (ro_extract (up_m rfl up_h) rfl) trivial rfl ?_
  refine al_ro' (ro_assign (up_m rfl up_h)) trivial rfl ?_
  refine al_ro' (ro_assign (up_m rfl up_h)) trivial rfl ?_
  refine al_end (fun e_8 he_8 => ?_)
  have s1_8 := ef 1 he_8 (u8 rfl s1_7)
  have s2_8 := ef 2 he_8 (u8 rfl s2_7)
  have s3_8 := ef 3 he_8 (up_m rfl up_h)
  have s4_8 := ef 4 he_8 up_h
  clear he_8 s1_7 s2_7
  refine then_n ?_
  refine aw_seq ?_
  refine aw_text (by kernel_rfl) ?_
  refine al_ro' (ro_eq (ro_ld_ptr k44_ty51 rfl mo0_6 s1_8 (by first | exact Nat.le_of_ble_eq_true rfl | omega | (simp only [lnS] <;> omega) | (simp <;> omega))) (by first | (simp only [packA_t, packA_f, iE, bE, setAt, cellsA, Value.cells, map_vc, map_vn, Nat.reduceAdd, qS] <;> rfl) | rfl)) trivial rfl ?_
  refine al_ro' (ro_eq (ro_ld_ptr k44_ty53 rfl mo1_6 (up_m rfl s2_8) (by first | exact Nat.le_of_ble_eq_true rfl | omega | (simp only [lnS] <;> omega) | (simp <;> omega))) (by first | (simp only [packA_t, packA_f, iE, bE, setAt, cellsA, Value.cells, map_vc, map_vn, Nat.reduceAdd, qS] <;> rfl) | rfl)) trivial rfl ?_
  refine al_ro' (ro_build (evP_cons ev_c evP_nil) k44_bz68 k44_bu68 k44_bp68 rfl) trivial rfl ?_
  refine al_ro' (ro_call (evL_cons (u2 rfl up_h) (evL_cons (up_m rfl up_h) (evL_cons up_h (evL_cons ev_c evL_nil)))) rfl (run0_ok) k44_hcf36) trivial rfl ?_
  refine al_ro' (ro_move up_h) trivial rfl ?_
  refine al_ro' (ro_extract up_h rfl) trivial rfl ?_
  refine al_ro' (ro_extract (up_m rfl up_h) rfl) trivial rfl ?_
  refine al_ro' (ro_assign (up_m rfl up_h)) trivial rfl ?_
  refine al_ro' (ro_assign (up_m rfl up_h)) trivial rfl ?_
  refine al_end (fun e_9 he_9 => ?_)
  have s3_9 := ef 3 he_9 (up_m rfl (u8 rfl s3_8))
  have s4_9 := ef 4 he_9 (up_m rfl (u8 rfl s4_8))
  have s5_9 := ef 5 he_9 (up_m rfl up_h)
  have s6_9 := ef 6 he_9 up_h
  clear he_9 s1_8 s2_8 s3_8 s4_8
  refine then_n ?_
  refine aw_seq ?_
  refine aw_text (by kernel_rfl) ?_
  refine al_ro' (ro_move s4_9) trivial rfl ?_
  refine al_ro' (ro_eql up_h ev_c) trivial rfl ?_
  refine al_ro' (ro_move up_h) trivial rfl ?_
  refine al_case up_h (fun hb_10 hq_10 => ?_) (fun hb_10 hq_10 => ?_)
  · (first | replace hq_10 := bnt hq_10 | replace hq_10 := bnf hq_10 | replace hq_10 := bt hq_10 | replace hq_10 := bf hq_10 | replace hq_10 := bt' hq_10 | replace hq_10 := bf' hq_10 | skip)
    first
    | (cases hq_10; done) | (exfalso; omega)
    | (
       refine al_ro' (ro_move (up_m rfl (u2 rfl s3_9))) ⟨_, rfl, hb_10⟩ rfl ?_
       refine al_ro' (ro_lit k44_sl22 (evP_cons ev_c (evP_cons ev_c (evP_cons ev_c evP_nil))) rfl rfl rfl rfl) ⟨_, rfl, (up_m rfl hb_10)⟩ rfl ?_
       refine al_ro' (ro_call (evL_cons (up_m rfl up_h) (evL_cons up_h evL_nil)) rfl (same_ok [10000, 8000, 0] (by decide)) k44_hcf35) ⟨_, rfl, (u2 rfl hb_10)⟩ rfl ?_
       refine al_ro' (ro_pickT (up_m rfl (u2 rfl hb_10)) up_h) trivial rfl ?_
       refine al_ro' (ro_move up_h) trivial rfl ?_
       refine al_case up_h (fun hb_11 hq_11 => ?_) (fun hb_11 hq_11 => ?_)
       · (first | replace hq_11 := bnt hq_11 | replace hq_11 := bnf hq_11 | replace hq_11 := bt hq_11 | replace hq_11 := bf hq_11 | replace hq_11 := bt' hq_11 | replace hq_11 := bf' hq_11 | skip)
         first
         | (cases hq_11; done) | (exfalso; omega)
         | (
            refine al_ro' (ro_move (u8 rfl s6_9)) ⟨_, rfl, hb_11⟩ rfl ?_
            refine al_ro' (ro_eql up_h ev_c) ⟨_, rfl, (up_m rfl hb_11)⟩ rfl ?_
            refine al_ro' (ro_pickT (u2 rfl hb_11) up_h) trivial rfl ?_
            refine al_ro' (ro_move up_h) trivial rfl ?_
            refine al_case up_h (fun hb_12 hq_12 => ?_) (fun hb_12 hq_12 => ?_)
            · (first | replace hq_12 := bnt hq_12 | replace hq_12 := bnf hq_12 | replace hq_12 := bt hq_12 | replace hq_12 := bf hq_12 | replace hq_12 := bt' hq_12 | replace hq_12 := bf' hq_12 | skip)
              first
              | (cases hq_12; done) | (exfalso; omega)
              | (
                 refine al_ro' (ro_move (u4 rfl (u8 rfl s5_9))) ⟨_, rfl, hb_12⟩ rfl ?_
                 refine al_ro' (ro_lit k44_sl22 (evP_cons ev_c (evP_cons ev_c (evP_cons ev_c (evP_cons ev_c evP_nil)))) rfl rfl rfl rfl) ⟨_, rfl, (up_m rfl hb_12)⟩ rfl ?_
                 refine al_ro' (ro_call (evL_cons (up_m rfl up_h) (evL_cons up_h evL_nil)) rfl (same_ok [5000, 3000, 1000, 10000] (by decide)) k44_hcf35) ⟨_, rfl, (u2 rfl hb_12)⟩ rfl ?_
                 refine al_ro' (ro_pickT (up_m rfl (u2 rfl hb_12)) up_h) trivial rfl ?_
                 refine al_ro' (ro_assign up_h) trivial rfl ?_
                 refine al_end (fun e_13 he_13 => ?_)
                 have s0_13 := ef 0 he_13 up_h
                 clear he_13 hb_10 hb_11 hb_12 s3_9 s4_9 s5_9 s6_9
                 refine then_n ?_
                 refine aw_ret ?_
                 refine ret1 (.inr rfl) (by kernel_rfl) (resV_tmp s0_13) (.ro _ rfl) ?_
                 clear s0_13 mo1_6 mo0_6 ml_6
                 rfl)
            · (first | replace hq_12 := bnt hq_12 | replace hq_12 := bnf hq_12 | replace hq_12 := bt hq_12 | replace hq_12 := bf hq_12 | replace hq_12 := bt' hq_12 | replace hq_12 := bf' hq_12 | skip)
              first
              | (cases hq_12; done) | (exfalso; omega)
              | (
                 refine al_skip' ⟨_, rfl, .inl hb_12⟩ rfl ?_
                 refine al_skip' ⟨_, rfl, .inl (up_m rfl hb_12)⟩ rfl ?_
                 refine al_skip' ⟨_, rfl, .inl (u2 rfl hb_12)⟩ rfl ?_
                 refine al_ro' (ro_pickF (up_m rfl (u2 rfl hb_12)) ev_c) trivial rfl ?_
                 refine al_ro' (ro_assign up_h) trivial rfl ?_
                 refine al_end (fun e_14 he_14 => ?_)
                 have s0_14 := ef 0 he_14 up_h
                 clear he_14 hb_10 hb_11 hb_12 s3_9 s4_9 s5_9 s6_9
                 refine then_n ?_
                 refine aw_ret ?_
                 refine ret1 (.inr rfl) (by kernel_rfl) (resV_tmp s0_14) (.ro _ rfl) ?_
                 clear s0_14 mo1_6 mo0_6 ml_6
                 rfl))
       · (first | replace hq_11 := bnt hq_11 | replace hq_11 := bnf hq_11 | replace hq_11 := bt hq_11 | replace hq_11 := bf hq_11 | replace hq_11 := bt' hq_11 | replace hq_11 := bf' hq_11 | skip)
         first
         | (cases hq_11; done) | (exfalso; omega)
         | (
            refine al_skip' ⟨_, rfl, .inl hb_11⟩ rfl ?_
            refine al_skip' ⟨_, rfl, .inl (up_m rfl hb_11)⟩ rfl ?_
            refine al_ro' (ro_pickF (u2 rfl hb_11) ev_c) trivial rfl ?_
            refine al_ro' (ro_move up_h) trivial rfl ?_
            refine al_skip' ⟨_, rfl, .inl up_h⟩ rfl ?_
            refine al_skip' ⟨_, rfl, .inl (up_m rfl up_h)⟩ rfl ?_
            refine al_skip' ⟨_, rfl, .inl (u2 rfl up_h)⟩ rfl ?_
            refine al_ro' (ro_pickF (up_m rfl (u2 rfl up_h)) ev_c) trivial rfl ?_
            refine al_ro' (ro_assign up_h) trivial rfl ?_
            refine al_end (fun e_15 he_15 => ?_)
            have s0_15 := ef 0 he_15 up_h
            clear he_15 hb_10 hb_11 s3_9 s4_9 s5_9 s6_9
            refine then_n ?_
            refine aw_ret ?_
            refine ret1 (.inr rfl) (by kernel_rfl) (resV_tmp s0_15) (.ro _ rfl) ?_
            clear s0_15 mo1_6 mo0_6 ml_6
            rfl))
  · (first | replace hq_10 := bnt hq_10 | replace hq_10 := bnf hq_10 | replace hq_10 := bt hq_10 | replace hq_10 := bf hq_10 | replace hq_10 := bt' hq_10 | replace hq_10 := bf' hq_10 | skip)
    first
    | (cases hq_10; done) | (exfalso; omega)
    | (
       refine al_skip' ⟨_, rfl, .inl hb_10⟩ rfl ?_
       refine al_skip' ⟨_, rfl, .inl (up_m rfl hb_10)⟩ rfl ?_
       refine al_skip' ⟨_, rfl, .inl (u2 rfl hb_10)⟩ rfl ?_
       refine al_ro' (ro_pickF (up_m rfl (u2 rfl hb_10)) ev_c) trivial rfl ?_
       refine al_ro' (ro_move up_h) trivial rfl ?_
       refine al_skip' ⟨_, rfl, .inl up_h⟩ rfl ?_
       refine al_skip' ⟨_, rfl, .inl (up_m rfl up_h)⟩ rfl ?_
       refine al_ro' (ro_pickF (u2 rfl up_h) ev_c) trivial rfl ?_
       refine al_ro' (ro_move up_h) trivial rfl ?_
       refine al_skip' ⟨_, rfl, .inl up_h⟩ rfl ?_
       refine al_skip' ⟨_, rfl, .inl (up_m rfl up_h)⟩ rfl ?_
       refine al_skip' ⟨_, rfl, .inl (u2 rfl up_h)⟩ rfl ?_
       refine al_ro' (ro_pickF (up_m rfl (u2 rfl up_h)) ev_c) trivial rfl ?_
       refine al_ro' (ro_assign up_h) trivial rfl ?_
       refine al_end (fun e_16 he_16 => ?_)
       have s0_16 := ef 0 he_16 up_h
       clear he_16 hb_10 s3_9 s4_9 s5_9 s6_9
       refine then_n ?_
       refine aw_ret ?_
       refine ret1 (.inr rfl) (by kernel_rfl) (resV_tmp s0_16) (.ro _ rfl) ?_
       clear s0_16 mo1_6 mo0_6 ml_6
       rfl)
set_option maxRecDepth 100000 in
set_option maxHeartbeats 1000000 in
theorem bSmall_ok (nm : ByteArray) (ps : List Piece) : FnOk Try.prog 28 [trA nm ps] (fun q => q = bA (decide (nm.size ≤ 20 ∧ ps.length ≤ 8 ∧ (chk nm ps).2 = 0))) := by
  refine fnOk_of (fn := Try.f28) 18 (by kernel_rfl) rfl (by kernel_rfl) (Nat.le_of_ble_eq_true rfl) ?_
  intro e_0 m_0 hA hm_0
  have s0_0 : evA e_0 (.tmp 0) = _ := hA 0 _ rfl
  have ml_0 : m_0.length = 0 := by rw [hm_0]; rfl
  clear hA hm_0
  refine aw_seq ?_
  refine aw_text (by kernel_rfl) ?_
  refine al_stm (st_box s0_0 rfl ml_0) trivial rfl (fun m_1 hm_1 => ?_)
  have mo0_1 := m_push hm_1 ml_0
  (try simp only [packA_t, packA_f, iE, bE, setAt, cellsA, Value.cells, map_vc, map_vn, Nat.reduceAdd, qS] at mo0_1)
  have ml_1 := m_push_l hm_1 ml_0
  have ml_1 : _ = 1 := ml_1
  clear hm_1
  refine al_ro' (ro_assign ev_c) trivial rfl ?_
  refine al_end (fun e_2 he_2 => ?_)
  have s1_2 := ef 1 he_2 (up_m rfl up_h)
  clear he_2 s0_0
  refine then_n ?_
  refine aw_seq ?_
  refine aw_text (by kernel_rfl) ?_
  refine al_ro' (ro_fld_ptr k44_fl51_0 rfl s1_2) trivial rfl ?_
  refine al_ro' (ro_eq (ro_ld_ptr k44_ty9 rfl mo0_1 up_h (by first | exact Nat.le_of_ble_eq_true rfl | omega | (simp only [lnS] <;> omega) | (simp <;> omega))) (by first | (simp only [packA_t, packA_f, iE, bE, setAt, cellsA, Value.cells, map_vc, map_vn, Nat.reduceAdd, qS] <;> rfl) | rfl)) trivial rfl ?_
  refine al_ro' (ro_len_str up_h rfl k44_un9) trivial rfl ?_
  refine al_ro' (ro_leq up_h ev_c) trivial rfl ?_
  refine al_ro' (ro_move up_h) trivial rfl ?_
  refine al_case up_h (fun hb_3 hq_3 => ?_) (fun hb_3 hq_3 => ?_)
  · (first | replace hq_3 := bnt hq_3 | replace hq_3 := bnf hq_3 | replace hq_3 := bt hq_3 | replace hq_3 := bf hq_3 | replace hq_3 := bt' hq_3 | replace hq_3 := bf' hq_3 | skip)
    first
    | (cases hq_3; done) | (exfalso; omega)
    | (
       refine al_ro' (ro_fld_ptr k44_fl51_1 rfl (up_m rfl (u4 rfl s1_2))) ⟨_, rfl, hb_3⟩ rfl ?_
       refine al_ro' (ro_eq (ro_ld_ptr k44_ty49 rfl mo0_1 up_h (by first | exact Nat.le_of_ble_eq_true rfl | omega | (simp only [lnS] <;> omega) | (simp <;> omega))) (by first | (simp only [packA_t, packA_f, iE, bE, setAt, cellsA, Value.cells, map_vc, map_vn, Nat.reduceAdd, qS] <;> rfl) | rfl)) ⟨_, rfl, (up_m rfl hb_3)⟩ rfl ?_
       refine al_ro' (ro_eq (ro_len_row up_h rfl k44_sl49.1) (by first | (simp only [lnS] <;> rfl) | rfl)) ⟨_, rfl, (u2 rfl hb_3)⟩ rfl ?_
       refine al_ro' (ro_leq up_h ev_c) ⟨_, rfl, (up_m rfl (u2 rfl hb_3))⟩ rfl ?_
       refine al_ro' (ro_pickT (u4 rfl hb_3) up_h) trivial rfl ?_
       refine al_ro' (ro_move up_h) trivial rfl ?_
       refine al_case up_h (fun hb_4 hq_4 => ?_) (fun hb_4 hq_4 => ?_)
       · (first | replace hq_4 := bnt hq_4 | replace hq_4 := bnf hq_4 | replace hq_4 := bt hq_4 | replace hq_4 := bf hq_4 | replace hq_4 := bt' hq_4 | replace hq_4 := bf' hq_4 | skip)
         first
         | (cases hq_4; done) | (exfalso; omega)
         | (
            refine al_ro' (ro_eq (ro_ld_ptr k44_ty51 rfl mo0_1 (up_m rfl (u2 rfl (u8 rfl s1_2))) (by first | exact Nat.le_of_ble_eq_true rfl | omega | (simp only [lnS] <;> omega) | (simp <;> omega))) (by first | (simp only [packA_t, packA_f, iE, bE, setAt, cellsA, Value.cells, map_vc, map_vn, Nat.reduceAdd, qS] <;> rfl) | rfl)) ⟨_, rfl, hb_4⟩ rfl ?_
            refine al_ro' (ro_call (evL_cons up_h evL_nil) rfl (rTrackErr_ok nm ps (by omega) (by omega)) k44_hcf33) ⟨_, rfl, (up_m rfl hb_4)⟩ rfl ?_
            refine al_ro' (ro_eql up_h ev_c) ⟨_, rfl, (u2 rfl hb_4)⟩ rfl ?_
            refine al_ro' (ro_pickT (up_m rfl (u2 rfl hb_4)) up_h) trivial rfl ?_
            refine al_ro' (ro_assign up_h) trivial rfl ?_
            refine al_end (fun e_5 he_5 => ?_)
            have s2_5 := ef 2 he_5 up_h
            clear he_5 hb_3 hb_4 s1_2
            refine then_n ?_
            refine aw_ret ?_
            refine ret1 (.inr rfl) (by kernel_rfl) (resV_tmp s2_5) (.ro _ rfl) ?_
            clear s2_5 mo0_1 ml_1
            (refine avb ?_; simp only [decide_eq_true_eq, Bool.false_eq_true, true_iff, false_iff]; omega))
       · (first | replace hq_4 := bnt hq_4 | replace hq_4 := bnf hq_4 | replace hq_4 := bt hq_4 | replace hq_4 := bf hq_4 | replace hq_4 := bt' hq_4 | replace hq_4 := bf' hq_4 | skip)
         first
         | (cases hq_4; done) | (exfalso; omega)
         | (
            refine al_skip' ⟨_, rfl, .inl hb_4⟩ rfl ?_
            refine al_skip' ⟨_, rfl, .inl (up_m rfl hb_4)⟩ rfl ?_
            refine al_skip' ⟨_, rfl, .inl (u2 rfl hb_4)⟩ rfl ?_
            refine al_ro' (ro_pickF (up_m rfl (u2 rfl hb_4)) ev_c) trivial rfl ?_
            refine al_ro' (ro_assign up_h) trivial rfl ?_
            refine al_end (fun e_6 he_6 => ?_)
            have s2_6 := ef 2 he_6 up_h
            clear he_6 hb_3 hb_4 s1_2
            refine then_n ?_
            refine aw_ret ?_
            refine ret1 (.inr rfl) (by kernel_rfl) (resV_tmp s2_6) (.ro _ rfl) ?_
            clear s2_6 mo0_1 ml_1
            (refine avb ?_; simp only [decide_eq_true_eq, Bool.false_eq_true, true_iff, false_iff]; omega)))
  · (first | replace hq_3 := bnt hq_3 | replace hq_3 := bnf hq_3 | replace hq_3 := bt hq_3 | replace hq_3 := bf hq_3 | replace hq_3 := bt' hq_3 | replace hq_3 := bf' hq_3 | skip)
    first
    | (cases hq_3; done) | (exfalso; omega)
    | (
       refine al_skip' ⟨_, rfl, .inl hb_3⟩ rfl ?_
       refine al_skip' ⟨_, rfl, .inl (up_m rfl hb_3)⟩ rfl ?_
       refine al_skip' ⟨_, rfl, .inl (u2 rfl hb_3)⟩ rfl ?_
       refine al_skip' ⟨_, rfl, .inl (up_m rfl (u2 rfl hb_3))⟩ rfl ?_
       refine al_ro' (ro_pickF (u4 rfl hb_3) ev_c) trivial rfl ?_
       refine al_ro' (ro_move up_h) trivial rfl ?_
       refine al_skip' ⟨_, rfl, .inl up_h⟩ rfl ?_
       refine al_skip' ⟨_, rfl, .inl (up_m rfl up_h)⟩ rfl ?_
       refine al_skip' ⟨_, rfl, .inl (u2 rfl up_h)⟩ rfl ?_
       refine al_ro' (ro_pickF (up_m rfl (u2 rfl up_h)) ev_c) trivial rfl ?_
       refine al_ro' (ro_assign up_h) trivial rfl ?_
       refine al_end (fun e_7 he_7 => ?_)
       have s2_7 := ef 2 he_7 up_h
       clear he_7 hb_3 s1_2
       refine then_n ?_
       refine aw_ret ?_
       refine ret1 (.inr rfl) (by kernel_rfl) (resV_tmp s2_7) (.ro _ rfl) ?_
       clear s2_7 mo0_1 ml_1
       (refine avb ?_; simp only [decide_eq_true_eq, Bool.false_eq_true, true_iff, false_iff]; omega))
theorem timG_bd {ps : List Piece} {xs : List Int} (hok : Ok ps) (hx : ∀ j : Nat, 0 ≤ xs.getD j default ∧ xs.getD j default ≤ 20000000000) : ∀ (k i : Nat) (lo hi : Int) (r : Int × Int), timG ps xs k i lo hi = some r → (lo ≤ r.1 ∧ r.1 ≤ lo + 20000000000 * k) ∧ (hi ≤ r.2 ∧ r.2 ≤ hi + 20000000000 * k)
  | 0, i, lo, hi, r, h => by cases h; omega
  | k + 1, i, lo, hi, r, h => by
    simp only [timG] at h
    split at h
    · cases h
    · rename_i hz
      obtain ⟨t1, t2, t3⟩ := tim_facts hok hx i hz
      have d1 := tdiv_low t3 t1.1
      have d2 := tdiv_up t3 t2.1
      have := timG_bd hok hx k (i + 1) _ _ _ h
      omega
theorem timW_bd {ps : List Piece} {xs : List Int} (hok : Ok ps) (hl : ps.length ≤ 12) (hx : ∀ j : Nat, 0 ≤ xs.getD j default ∧ xs.getD j default ≤ 20000000000) : (0 ≤ (timW ps xs).1.1 ∧ (timW ps xs).1.1 ≤ 240000000000) ∧ (0 ≤ (timW ps xs).1.2 ∧ (timW ps xs).1.2 ≤ 240000000000) := by
  unfold timW
  cases h : timG ps xs ps.length 0 0 0 with
  | none => simp only; omega
  | some r =>
    have := timG_bd hok hx _ _ _ _ _ h
    simp only; omega
/-- What the law asks for ahead. -/
def TG (na : ByteArray) (ps : List Piece) (nb : ByteArray) (qs : List Piece) (b d v post sq stop : Int) : Prop :=
  (na.size ≤ 20 ∧ ps.length ≤ 8 ∧ (chk na ps).2 = 0) ∧ (nb.size ≤ 20 ∧ qs.length ≤ 8 ∧ (chk nb qs).2 = 0) ∧ (ps.length : Int) + qs.length ≤ 12 ∧ sysE b d v = 0 ∧ stopE qs stop = 0 ∧ stateE qs post sq = 0 ∧ 1 ≤ post ∧ post ≤ stop
instance (na : ByteArray) (ps : List Piece) (nb : ByteArray) (qs : List Piece) (b d v post sq stop : Int) : Decidable (TG na ps nb qs b d v post sq stop) := by unfold TG; infer_instance
theorem jn_zero {na : ByteArray} {ps : List Piece} {nb : ByteArray} {qs : List Piece} (h1 : (chk na ps).2 = 0) (h2 : (chk nb qs).2 = 0) (h3 : (ps.length : Int) + qs.length ≤ 12) : jnE na ps nb qs = 0 := by
  unfold jnE
  rw [h1, h2, decide_eq_true h3]; rfl
theorem TG.run {na : ByteArray} {ps : List Piece} {nb : ByteArray} {qs : List Piece} {b d v post sq stop : Int} (h : TG na ps nb qs b d v post sq stop) : jnE na ps nb qs = 0 ∧ (chk na (ps ++ qs)).2 = 0 ∧ curE nb qs b d v stop = 0 ∧ runE nb qs b d v post sq stop = 0 ∧ curE na (ps ++ qs) b d v (ps.length + stop) = 0 ∧ runE na (ps ++ qs) b d v (ps.length + post) sq (ps.length + stop) = 0 ∧ (0 ≤ stop ∧ stop < qs.length) ∧ (0 ≤ sq ∧ sq ≤ 20000000000) := by
  obtain ⟨⟨a1, a2, a3⟩, ⟨b1, b2, b3⟩, c, e, f, g, i, j⟩ := h
  have hj := jn_zero a3 b3 c
  have hb : firstE [(chk nb qs).2, sysE b d v] = 0 := by rw [b3, e]; rfl
  have hja := (chk_join hj).1
  have ha : firstE [(chk na (ps ++ qs)).2, sysE b d v] = 0 := by rw [hja, e]; rfl
  have r1 := runE_zero hb g f j
  have s1 := stop_right f
  have s2 := (runE_right r1.1)
  have f' : stopE (ps ++ qs) (ps.length + stop) = 0 := by
    unfold stopE
    rw [if_pos (by simp only [withinB, Bool.and_eq_true, decide_eq_true_eq, List.length_append]; omega), show ((ps.length : Int) + stop).toNat = ps.length + stop.toNat by omega, getD_app2, s1.2.2]
    rfl
  have g' : stateE (ps ++ qs) (ps.length + post) sq = 0 := by
    have h1 := s2.2.2.1
    have h2 := s2.2.2.2.1
    rw [stateE_ite, if_pos (by simp only [withinB, Bool.and_eq_true, decide_eq_true_eq, List.length_append]; omega), if_pos (by simp only [withinB, Bool.and_eq_true, decide_eq_true_eq]; omega)]
  have r2 := runE_zero ha g' f' (by omega)
  exact ⟨hj, hja, r1.2, r1.1, r2.2, r2.1, ⟨s1.1, s1.2.1⟩, s2.2.2.2.1⟩
theorem intsD_ok {l m : List Int} (h : l = m) (hl : l.length ≤ 1000000000) : FnOk Try.prog 35 [.row 1 (l.map iE), .row 1 (m.map iE)] (fun q => q = bA true) := by
  subst h; exact same_ok l hl
end Go.Proofs.Ytgiiedpambimoaa
